import Derived.Test.YtbjeaalbdaedpaaPx0
import Derived.Test.YtbjeaalbdaedpaaPx1
import Derived.Shelf.Abstract
namespace Go.Proofs.Ytbjeaalbdaedpaa.P
open Go.RowKit Go.Proofs.YtbjeaalbdaedpaaW.PrintWords Go.Proofs.YtbjeaalbdaedpaaW.PrintLast Go.Proofs.YtbjeaalbdaedpaaW.PrintMore
attribute [local go_sem] max2_int min2_int max_two min_two max_three min_three max_four min_four
set_option linter.unusedVariables false
set_option linter.unusedSimpArgs false
def mayB (x : S28) : Bool := decide (0 ≤ x.f0) && (decide (x.f0 < 4) && (decide (x.f1.length ≤ 16) && (decide (x.f3.length ≤ 32) && (!x.f2 || decide (x.f3.length = 0)))))
theorem may_f (x : S28) : delta_may.f x.f0 x.f1 x.f2 x.f3 = some (mayB x) := by
  unfold delta_may.f mayB
  by_cases h1 : 0 ≤ x.f0
  · rw [if_pos h1, decide_eq_true h1, Bool.true_and]
    by_cases h2 : x.f0 < 4
    · rw [if_pos h2, decide_eq_true h2, Bool.true_and]
      by_cases h3 : x.f1.length ≤ 16
      · rw [if_pos (by omega), decide_eq_true h3, Bool.true_and]
        by_cases h4 : x.f3.length ≤ 32
        · rw [if_pos (by omega), decide_eq_true h4, Bool.true_and]
          cases x.f2
          · rfl
          · rw [if_pos rfl]
            congr 1
            by_cases h5 : x.f3.length = 0
            · rw [h5]; rfl
            · rw [Bool.not_true, Bool.false_or, decide_eq_false h5]; simpa using h5
        · rw [if_neg (by omega), decide_eq_false h4]; rfl
      · rw [if_neg (by omega), decide_eq_false h3]; rfl
    · rw [if_neg h2, decide_eq_false h2]; rfl
  · rw [if_neg h1, decide_eq_false h1]; rfl
set_option maxHeartbeats 1000000 in
set_option maxRecDepth 100000 in
theorem wrong_in (W : World) (x : S28) (A1 : Option Addr) (c1 : Nat) (A3 : Option Addr) (c3 : Nat) (h1 : x.f1.length ≤ c1) (i1 : (Kd.int .u8).C W A1 x.f1.length x.f1) (h3 : x.f3.length ≤ c3) (i3 : (Kd.int .u8).C W A3 x.f3.length x.f3) :
    Calls Try.prog 35 #[.agg #[.int .i64 x.f0, .slice A1 x.f1.length c1, .bool x.f2, .slice A3 x.f3.length c3]] W fun e w' => e = .returned (.bool (!mayB x)) ∧ Below W.heap.size W w' := by
  have HM := fun o => Aside0.mk (delta_may.calls x.f0 A1 c1 x.f1 x.f2 A3 c3 x.f3 (mayB x) (W.alloc o) (Kd.C_alloc i1 o) h1 (Kd.C_alloc i3 o) h3 (may_f x))
  have hu := Try.underlying28
  clear i1 i3
  go_enter Try.func35, Try.ntmps35
  go_wp2_with (go_at_call 30; refine (HM _).out.mono ?_; rintro e w1 ⟨rfl, hb⟩; have HB1 := Aside0.mk (below_step (below_alloc (Below.refl W.heap.size W) _) hb); clear hb)
  go_ret
  exact ⟨rfl, HB1.out⟩
set_option maxHeartbeats 1000000 in
set_option maxRecDepth 100000 in
theorem off_in (g : Nat) (A0 : Option Addr) (n0 c0 : Nat) (v1 : Value) (W : World) (n : Int) (hg : W.heap[g]? = some (.cells #[.slice A0 n0 c0, v1] 25 (0, 0))) :
    Calls Try.prog 36 #[.int .i64 n, .pointer (some ⟨g, 0, none⟩)] W fun e w' => e = .returned (.bool (decide (n < 0) || decide ((n0 : Int) < n))) ∧ Below W.heap.size W w' := by
  have e0 := (blk_cell hg 0).trans rfl
  have hu := Try.underlying25
  clear hg
  by_cases hn : n < 0
  · have h1 : decide (n < 0) = true := decide_eq_true hn
    go_enter Try.func36, Try.ntmps36
    go_wp2
    go_ret
    exact ⟨by rw [decide_eq_true hn]; rfl, Below.refl _ _⟩
  · have h1 : decide (n < 0) = false := decide_eq_false hn
    go_enter Try.func36, Try.ntmps36
    go_wp2
    go_ret
    exact ⟨rfl, Below.refl _ _⟩
def sortedB (l : List Int) : Bool := (List.range (l.length - 1)).all fun j => decide (rd l (j : Int) ≤ rd l ((j : Int) + 1))
theorem sorted_l0 (l : List Int) (hl : l.length ≤ 9223372036854775807) : ∀ (i k : Nat), i < l.length → i + 1 ≤ k → slices_IsSorted_int_int.l0 k l (i : Int) = some ((List.range i).all fun j => decide (rd l (j : Int) ≤ rd l ((j : Int) + 1)))
  | i, 0, _, hk => by omega
  | 0, k + 1, _, _ => by rw [slices_IsSorted_int_int.l0, if_neg (by omega)]; rfl
  | i + 1, k + 1, hi, hk => by
    have hw : wrap64 (((i + 1 : Nat) : Int) - 1) = (i : Int) := by unfold wrap64; omega
    rw [slices_IsSorted_int_int.l0, if_pos (by omega), if_pos (by omega), if_pos (by omega), hw, if_pos (by omega), if_pos (by omega)]
    have e1 : cmp_Less_int.f (rd l ((i + 1 : Nat) : Int)) (rd l (i : Int)) = some (decide (rd l ((i + 1 : Nat) : Int) < rd l (i : Int))) := by
      unfold cmp_Less_int.f cmp_isNaN_int.f
      rw [Option.bind_some, if_neg (by simp)]
    rw [e1, Option.bind_some, List.range_succ, List.all_append, List.all_cons, List.all_nil, Bool.and_true, sorted_l0 l hl i k (by omega) (by omega)]
    rw [show ((i : Int) + 1) = ((i + 1 : Nat) : Int) by omega]
    by_cases h : rd l ((i + 1 : Nat) : Int) < rd l (i : Int)
    · rw [if_pos (decide_eq_true h), decide_eq_false (p := rd l (i : Int) ≤ _) (by omega), Bool.and_false]
    · rw [if_neg (by simpa using h), decide_eq_true (p := rd l (i : Int) ≤ _) (by omega), Bool.and_true]
theorem sorted_f (l : List Int) (hl : l.length ≤ 9223372036854775807) : slices_IsSorted_int_int.f (l.length + 2) l = some (sortedB l) := by
  unfold slices_IsSorted_int_int.f sortedB
  by_cases h0 : l.length = 0
  · have hw : wrap64 ((l.length : Int) - 1) = -1 := by unfold wrap64; omega
    rw [hw, slices_IsSorted_int_int.l0, if_neg (by omega), h0]; rfl
  · have hw : wrap64 ((l.length : Int) - 1) = ((l.length - 1 : Nat) : Int) := by unfold wrap64; omega
    rw [hw, sorted_l0 l hl (l.length - 1) _ (by omega) (by omega)]
def checkD (l : List S28) (m : List Int) : Bool := decide (l.length ≤ 20) && (decide (m.length ≤ 4) && (!(l.any fun x => !mayB x) && (!(m.any fun n => decide (n < 0) || decide ((l.length : Int) < n)) && sortedB m)))
def delta_Check.f (l0_0 : List (S28)) (l0_1 : List Int) : Option (Bool) := some (checkD l0_0 l0_1)
set_option maxHeartbeats 2000000 in
set_option maxRecDepth 100000 in
theorem delta_Check.calls (A0_0 : Option Addr) (c0_0 : Nat) (l0_0 : List (S28)) (A0_1 : Option Addr) (c0_1 : Nat) (l0_1 : List Int) (r : Bool) (w : World) (hr0_0 : Kd.C k28 w A0_0 l0_0.length l0_0) (hc0_0 : l0_0.length ≤ c0_0) (hr0_1 : Kd.C (Kd.int .i64) w A0_1 l0_1.length l0_1) (hc0_1 : l0_1.length ≤ c0_1) (h : delta_Check.f l0_0 l0_1 = some r) :
    Calls Try.prog 17 #[.agg #[.slice A0_0 l0_0.length c0_0, .slice A0_1 l0_1.length c0_1]] w fun e w' => e = .returned (.bool r) ∧ Below w.heap.size w w' := by
  unfold delta_Check.f at h
  obtain rfl := Option.some.inj h
  clear h
  have hm := Kd.C_max hr0_1
  have hw := Aside0.mk (show True from trivial)
  obtain ⟨o, ho⟩ : ∃ o : Obj, o = .cells #[.slice A0_0 l0_0.length c0_0, .slice A0_1 l0_1.length c0_1] 25 (0, 0) := ⟨_, rfl⟩
  have hW := fun W (hb : Below w.heap.size w W) => has_Write 35 #[] (fun x => !mayB x) A0_0 c0_0 l0_0 W (Kd.C_below hr0_0 hb) (enters_of Try.func35 (by kernel_rfl) rfl)
    (fun W1 y B1 d1 B3 d3 _ hb1 j1 k1 j3 k3 => by simpa using wrong_in W1 y B1 d1 B3 d3 j1 k1 j3 k3)
  have hI := fun W (hb : Below w.heap.size w W) (hg : W.heap[w.heap.size]? = some o) => has_int 36 #[.pointer (some ⟨w.heap.size, 0, none⟩)] (fun n => decide (n < 0) || decide ((l0_0.length : Int) < n)) A0_1 c0_1 l0_1 W (Kd.C_below hr0_1 hb) (enters_of Try.func36 (by kernel_rfl) rfl)
    (fun W1 n _ hb1 => off_in w.heap.size A0_0 l0_0.length c0_0 _ W1 n (((hb1.block _ (blk_lt hg)).trans hg).trans (by rw [ho])))
  have hS := fun W (hb : Below w.heap.size w W) => slices_IsSorted_int_int.calls (l0_1.length + 2) A0_1 c0_1 l0_1 (sortedB l0_1) W (Kd.C_below hr0_1 hb) hc0_1 (sorted_f l0_1 hm)
  have HW := Aside0.mk hW
  have HI := Aside0.mk hI
  have HS := Aside0.mk hS
  subst ho
  have hmf : ∀ (fn : Fn) (first cap : Array Value) (w : World), (Instr.makeFunc fn first cap).run Try.prog w = .ok (.func fn first cap) w := fun _ _ _ _ => rfl
  have hu := Try.underlying25
  clear hW hI hS hr0_0 hr0_1 hw hm
  unfold checkD
  generalize hba : (l0_0.any fun x => !mayB x) = ba at *
  generalize hbb : (l0_1.any fun n => decide (n < 0) || decide ((l0_0.length : Int) < n)) = bb at *
  generalize hbs : sortedB l0_1 = bs at *
  clear hba hbb hbs
  have HB0 := Aside0.mk (below_alloc (Below.refl w.heap.size w) (.cells #[.slice A0_0 l0_0.length c0_0, .slice A0_1 l0_1.length c0_1] 25))
  have HG0 := Aside0.mk (heap_alloc_new w (.cells #[.slice A0_0 l0_0.length c0_0, .slice A0_1 l0_1.length c0_1] 25))
  by_cases h1 : l0_0.length ≤ 20
  case neg =>
    have g1 : decide ((l0_0.length : Int) ≤ 20) = false := decide_eq_false (by omega)
    have g2 : decide (l0_0.length ≤ 20) = false := decide_eq_false h1
    clear h1
    go_enter Try.func17, Try.ntmps17
    go_wp2
    go_ret
    exact ⟨by rw [g2]; rfl, HB0.out⟩
  by_cases h2 : l0_1.length ≤ 4
  case neg =>
    have g1 : decide ((l0_0.length : Int) ≤ 20) = true := decide_eq_true (by omega)
    have g2 : decide (l0_0.length ≤ 20) = true := decide_eq_true h1
    have g3 : decide ((l0_1.length : Int) ≤ 4) = false := decide_eq_false (by omega)
    have g4 : decide (l0_1.length ≤ 4) = false := decide_eq_false h2
    clear h1 h2
    go_enter Try.func17, Try.ntmps17
    go_wp2
    go_ret
    exact ⟨by rw [g2, g4]; rfl, HB0.out⟩
  have g1 : decide ((l0_0.length : Int) ≤ 20) = true := decide_eq_true (by omega)
  have g2 : decide (l0_0.length ≤ 20) = true := decide_eq_true h1
  have g3 : decide ((l0_1.length : Int) ≤ 4) = true := decide_eq_true (by omega)
  have g4 : decide (l0_1.length ≤ 4) = true := decide_eq_true h2
  clear h1 h2
  cases ba with
  | true =>
    go_enter Try.func17, Try.ntmps17
    go_wp2_with (go_at_call 37; (suffices hsuf : Aside0 _ from hsuf.out))
    refine ⟨?_⟩
    refine (HW.out _ HB0.out).mono ?_
    rintro e w1 ⟨rfl, hb⟩
    have HB1 := Aside0.mk (below_step HB0.out hb)
    clear hb
    go_wp2
    go_ret
    exact ⟨by rw [g2, g4]; rfl, HB1.out⟩
  | false =>
  cases bb with
  | true =>
    go_enter Try.func17, Try.ntmps17
    go_wp2_with (go_at_call 37; (suffices hsuf : Aside0 _ from hsuf.out))
    refine ⟨?_⟩
    refine (HW.out _ HB0.out).mono ?_
    rintro e w1 ⟨rfl, hb⟩
    have HB1 := Aside0.mk (below_step HB0.out hb)
    have HG1 := Aside0.mk ((hb.block _ (blk_lt HG0.out)).trans HG0.out)
    clear hb
    have e1 : w1.cell? ⟨w.heap.size, 1, none⟩ = some (.slice A0_1 l0_1.length c0_1) := (blk_cell HG1.out 1).trans rfl
    go_wp2_with (go_at_call 38; (suffices hsuf : Aside0 _ from hsuf.out))
    refine ⟨?_⟩
    refine (HI.out _ HB1.out HG1.out).mono ?_
    rintro e w2 ⟨rfl, hb⟩
    have HB2 := Aside0.mk (below_step HB1.out hb)
    have HG2 := Aside0.mk ((hb.block _ (blk_lt HG1.out)).trans HG1.out)
    clear hb e1
    go_wp2
    go_ret
    exact ⟨by rw [g2, g4]; rfl, HB2.out⟩
  | false =>
    go_enter Try.func17, Try.ntmps17
    go_wp2_with (go_at_call 37; (suffices hsuf : Aside0 _ from hsuf.out))
    refine ⟨?_⟩
    refine (HW.out _ HB0.out).mono ?_
    rintro e w1 ⟨rfl, hb⟩
    have HB1 := Aside0.mk (below_step HB0.out hb)
    have HG1 := Aside0.mk ((hb.block _ (blk_lt HG0.out)).trans HG0.out)
    clear hb
    have e1 : w1.cell? ⟨w.heap.size, 1, none⟩ = some (.slice A0_1 l0_1.length c0_1) := (blk_cell HG1.out 1).trans rfl
    go_wp2_with (go_at_call 38; (suffices hsuf : Aside0 _ from hsuf.out))
    refine ⟨?_⟩
    refine (HI.out _ HB1.out HG1.out).mono ?_
    rintro e w2 ⟨rfl, hb⟩
    have HB2 := Aside0.mk (below_step HB1.out hb)
    have HG2 := Aside0.mk ((hb.block _ (blk_lt HG1.out)).trans HG1.out)
    clear hb e1
    have e2 : w2.cell? ⟨w.heap.size, 1, none⟩ = some (.slice A0_1 l0_1.length c0_1) := (blk_cell HG2.out 1).trans rfl
    go_wp2_with (go_at_call 39; (suffices hsuf : Aside0 _ from hsuf.out))
    refine ⟨?_⟩
    refine (HS.out _ HB2.out).mono ?_
    rintro e w3 ⟨rfl, hb⟩
    have HB3 := Aside0.mk (show Below w.heap.size w w3 by obtain ⟨nd, rfl⟩ := hb; exact pw_below_drewN HB2.out nd)
    clear hb e2
    go_wp2
    go_ret
    exact ⟨by rw [g2, g4]; simp, HB3.out⟩
end Go.Proofs.Ytbjeaalbdaedpaa.P
