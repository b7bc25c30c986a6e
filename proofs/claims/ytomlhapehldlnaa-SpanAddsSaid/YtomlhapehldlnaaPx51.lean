-- Written by wip/gprint.py, a program of this session over the kit's print; Lean checks it.
import Derived.Test.YtomlhapehldlnaaPx0
import Derived.Test.YtomlhapehldlnaaPx1
import Derived.Test.YtomlhapehldlnaaPx43
import Derived.Test.YtomlhapehldlnaaPx46
import Derived.Test.YtomlhapehldlnaaPx49
import Derived.Test.YtomlhapehldlnaaPx50
namespace Go.Proofs.Ytomlhapehldlnaa.P
open Go.RowKit Go.Proofs.YtomlhapehldlnaaW.PrintWords Go.Proofs.YtomlhapehldlnaaW.PrintLast Go.Proofs.YtomlhapehldlnaaW.PrintMore
attribute [local go_sem] max2_int min2_int max_two min_two max_three min_three max_four min_four   -- for this text's walks alone
set_option linter.unusedVariables false
set_option linter.unusedSimpArgs false

/-! ### banksmanref10_Add: function 26 -/
mutual
def banksmanref10_Add.j0 : Nat → List (S24) → Int → Bool → Int → List Int → List Int → Bool → Option ((List (S24)) × Int)
  | 0, _, _, _, _, _, _, _ => none
  | k + 1, x0, x2, x35, x224000, x224001, x224002, x224003 => if x35 = true then ((banksmanref10_Copy.f k x0).bind fun t237 => (some (t237, 1))) else ((banksmanref10_Empty.f x224000 x224001 x224002 x224003).bind fun t240 => (if t240 = true then ((banksmanref10_Copy.f k x0).bind fun t241 => (some (t241, 0))) else (banksmanref10_Add.l0 k x0 x2 ([] : List (S24)) 0 x224000 x224001 x224002 x224003)))
def banksmanref10_Add.l0 : Nat → List (S24) → Int → List (S24) → Int → Int → List Int → List Int → Bool → Option ((List (S24)) × Int)
  | 0, _, _, _, _, _, _, _, _ => none
  | k + 1, x0, x2, x10, x11, x224000, x224001, x224002, x224003 => if x11 < (x0.length : Int) then (if 0 ≤ x11 then ((banksmanref10_Covers.f ((rd_T24 x0 x11).f0) ((rd_T24 x0 x11).f1) ((rd_T24 x0 x11).f2) ((rd_T24 x0 x11).f3) x224000 x224001 x224002 x224003).bind fun t245 => (if t245 = true then ((banksmanref10_Copy.f k x0).bind fun t246 => (some (t246, 0))) else ((banksmanref10_Covers.f x224000 x224001 x224002 x224003 ((rd_T24 x0 x11).f0) ((rd_T24 x0 x11).f1) ((rd_T24 x0 x11).f2) ((rd_T24 x0 x11).f3)).bind fun t250 => (if t250 = true then (banksmanref10_Add.l0 k x0 x2 x10 (wrap64 (x11 + 1)) x224000 x224001 x224002 x224003) else ((some (([(⟨(rd_T24 x0 x11).f0, (rd_T24 x0 x11).f1, (rd_T24 x0 x11).f2, (rd_T24 x0 x11).f3⟩ : S24)] : List (S24)) : List (S24))).bind fun y252 => (if x10.length + y252.length < 2199023255552 then (banksmanref10_Add.l0 k x0 x2 (x10 ++ y252) (wrap64 (x11 + 1)) x224000 x224001 x224002 x224003) else (none))))))) else (none)) else ((some (([(⟨x224000, x224001, x224002, x224003⟩ : S24)] : List (S24)) : List (S24))).bind fun y258 => (if x10.length + y258.length < 2199023255552 then (banksmanref10_Add.l1 k x2 (x10 ++ y258) 0 0 x224000 x224001 x224002 x224003) else (none)))
def banksmanref10_Add.l1 : Nat → Int → List (S24) → Int → Int → Int → List Int → List Int → Bool → Option ((List (S24)) × Int)
  | 0, _, _, _, _, _, _, _, _ => none
  | k + 1, x2, x10, x14, x15, x224000, x224001, x224002, x224003 => if x15 < (x10.length : Int) then (if 0 ≤ x15 then (if ((rd_T24 x10 x15).f0) = x224000 then (banksmanref10_Add.l1 k x2 x10 (wrap64 (x14 + 1)) (wrap64 (x15 + 1)) x224000 x224001 x224002 x224003) else (banksmanref10_Add.l1 k x2 x10 x14 (wrap64 (x15 + 1)) x224000 x224001 x224002 x224003)) else (none)) else (if x14 ≤ x2 then ((banksmanref10_Copy.f k x10).bind fun t265 => (some (t265, 0))) else (banksmanref10_Add.l2 k x10 ([] : List (S24)) false 0 x224000 x224001 x224002 x224003))
def banksmanref10_Add.l2 : Nat → List (S24) → List (S24) → Bool → Int → Int → List Int → List Int → Bool → Option ((List (S24)) × Int)
  | 0, _, _, _, _, _, _, _, _ => none
  | k + 1, x10, x16, x17, x18, x224000, x224001, x224002, x224003 => if x18 < (x10.length : Int) then (if 0 ≤ x18 then (if ((rd_T24 x10 x18).f0) = x224000 then (if x17 = true then (banksmanref10_Add.l2 k x10 x16 x17 (wrap64 (x18 + 1)) x224000 x224001 x224002 x224003) else ((some (([(⟨x224000, ([] : List Int), ([] : List Int), true⟩ : S24)] : List (S24)) : List (S24))).bind fun y272 => (if x16.length + y272.length < 2199023255552 then (banksmanref10_Add.l2 k x10 (x16 ++ y272) true (wrap64 (x18 + 1)) x224000 x224001 x224002 x224003) else (none)))) else ((some (([(⟨(rd_T24 x10 x18).f0, (rd_T24 x10 x18).f1, (rd_T24 x10 x18).f2, (rd_T24 x10 x18).f3⟩ : S24)] : List (S24)) : List (S24))).bind fun y279 => (if x16.length + y279.length < 2199023255552 then (banksmanref10_Add.l2 k x10 (x16 ++ y279) x17 (wrap64 (x18 + 1)) x224000 x224001 x224002 x224003) else (none)))) else (none)) else ((banksmanref10_Copy.f k x16).bind fun t268 => (some (t268, 0)))
end
def banksmanref10_Add.f (k : Nat) (l0 : List (S24)) (a1_0 : Int) (l1_1 : List Int) (l1_2 : List Int) (a1_3 : Bool) (a2 : Int) : Option ((List (S24)) × Int) := (some (([] : List (S24)) : List (S24))).bind fun y224 => (if y224.length + l0.length < 2199023255552 then ((some (y224 ++ l0 : List (S24))).bind fun y227 => ((some (([(⟨a1_0, l1_1, l1_2, a1_3⟩ : S24)] : List (S24)) : List (S24))).bind fun y230 => (if y227.length + y230.length < 2199023255552 then ((banksmanref10_may.f k (y227 ++ y230)).bind fun t236 => (if t236 = true then (if a2 < 1 then (banksmanref10_Add.j0 k l0 a2 true a1_0 l1_1 l1_2 a1_3) else (banksmanref10_Add.j0 k l0 a2 (decide (a2 > 100)) a1_0 l1_1 l1_2 a1_3)) else (banksmanref10_Add.j0 k l0 a2 true a1_0 l1_1 l1_2 a1_3))) else (none)))) else (none))
def banksmanref10_Add.T1 : Bool × List (List Nat × List Nat) := (true, [([], []), ([], []), ([0, 1], [0, 1]), ([], []), ([3], [3]), ([2, 4, 2], [2, 4]), ([5, 5], [5]), ([6, 6, 0, 1, 2, 3, 4, 5, 6], [6])])
def banksmanref10_Add.B1 : List Nat := [0, 0, 3, 0, 8, 31, 63, 127]
theorem banksmanref10_Add.tab1 : rtab .any (opsOf Try.f26 1) = banksmanref10_Add.T1 := by kernel_rfl
theorem banksmanref10_Add.bits1 : waitsOk banksmanref10_Add.T1.2 banksmanref10_Add.B1 = true := by kernel_rfl
def banksmanref10_Add.T22 : Bool × List (List Nat × List Nat) := (true, [([], []), ([], []), ([0, 1], [0, 1]), ([2], [2]), ([3], [3]), ([], []), ([5], [5]), ([4, 6], [4, 6])])
def banksmanref10_Add.B22 : List Nat := [0, 0, 3, 7, 15, 0, 32, 127]
theorem banksmanref10_Add.tab22 : rtab .any (opsOf Try.f26 22) = banksmanref10_Add.T22 := by kernel_rfl
theorem banksmanref10_Add.bits22 : waitsOk banksmanref10_Add.T22.2 banksmanref10_Add.B22 = true := by kernel_rfl
def banksmanref10_Add.T31 : Bool × List (List Nat × List Nat) := (true, [([], []), ([], []), ([0, 1], [0, 1]), ([2], [2]), ([3], [3]), ([], []), ([5], [5]), ([4, 6], [4, 6])])
def banksmanref10_Add.B31 : List Nat := [0, 0, 3, 7, 15, 0, 32, 127]
theorem banksmanref10_Add.tab31 : rtab .any (opsOf Try.f26 31) = banksmanref10_Add.T31 := by kernel_rfl
theorem banksmanref10_Add.bits31 : waitsOk banksmanref10_Add.T31.2 banksmanref10_Add.B31 = true := by kernel_rfl
set_option maxHeartbeats 8000000 in
set_option maxRecDepth 100000 in
theorem banksmanref10_Add.calls (k : Nat) (P0_ : Nat → Prop) (A0 : Option Addr) (c0 : Nat) (l0 : List (S24)) (a1_0 : Int) (P1_1_ : Nat → Prop) (A1_1 : Option Addr) (c1_1 : Nat) (l1_1 : List Int) (P1_2_ : Nat → Prop) (A1_2 : Option Addr) (c1_2 : Nat) (l1_2 : List Int) (a1_3 : Bool) (a2 : Int) (r1 : List (S24)) (r2 : Int) (w : World) (hs0 : Kd.V k24 24 w w.heap.size (fun k_ => P0_ k_) (.slice A0 l0.length c0) l0) (hs1_1 : Kd.V (Kd.int .u8) 5 w w.heap.size (fun k_ => P1_1_ k_) (.slice A1_1 l1_1.length c1_1) l1_1) (hs1_2 : Kd.V (Kd.int .u8) 5 w w.heap.size (fun k_ => P1_2_ k_) (.slice A1_2 l1_2.length c1_2) l1_2) (h : banksmanref10_Add.f k l0 a1_0 l1_1 l1_2 a1_3 a2 = some (r1, r2)) :
  Calls Try.prog 26 #[.slice A0 l0.length c0, .agg #[.int .i64 a1_0, .slice A1_1 l1_1.length c1_1, .slice A1_2 l1_2.length c1_2, .bool a1_3], .int .i64 a2] w fun e w' => ∃ v0_ : Value, e = .returned (.tuple #[v0_, .int .i64 r2]) ∧ Kd.N k24 24 w' w.heap.size (fun k_ => ((P0_ k_ ∨ P1_1_ k_ ∨ P1_2_ k_) ∨ w.heap.size ≤ k_)) v0_ r1 ∧ Below w.heap.size w w' := by
 have hu24 := Try.underlying24
 have HO0 := aM (show Kd.V k24 24 w w.heap.size (fun k_ => ((P0_ k_ ∨ P1_1_ k_ ∨ P1_2_ k_) ∨ w.heap.size ≤ k_)) (.slice A0 l0.length c0) l0 from Kd.V_mono hs0 (fun k_ hk => .inl (.inl hk)))
 have HO1_1 := aM (show Kd.V (Kd.int .u8) 5 w w.heap.size (fun k_ => ((P0_ k_ ∨ P1_1_ k_ ∨ P1_2_ k_) ∨ w.heap.size ≤ k_)) (.slice A1_1 l1_1.length c1_1) l1_1 from Kd.V_mono hs1_1 (fun k_ hk => .inl (.inr (.inl hk))))
 have HO1_2 := aM (show Kd.V (Kd.int .u8) 5 w w.heap.size (fun k_ => ((P0_ k_ ∨ P1_1_ k_ ∨ P1_2_ k_) ∨ w.heap.size ≤ k_)) (.slice A1_2 l1_2.length c1_2) l1_2 from Kd.V_mono hs1_2 (fun k_ hk => .inl (.inr (.inr hk))))
 have HB := aM (Below.refl w.heap.size w)
 have H : ((some (([] : List (S24)) : List (S24))).bind fun y224 => (if y224.length + l0.length < 2199023255552 then ((some (y224 ++ l0 : List (S24))).bind fun y227 => ((some (([(⟨a1_0, l1_1, l1_2, a1_3⟩ : S24)] : List (S24)) : List (S24))).bind fun y230 => (if y227.length + y230.length < 2199023255552 then ((banksmanref10_may.f k (y227 ++ y230)).bind fun t236 => (if t236 = true then (if a2 < 1 then (banksmanref10_Add.j0 k l0 a2 true a1_0 l1_1 l1_2 a1_3) else (banksmanref10_Add.j0 k l0 a2 (decide (a2 > 100)) a1_0 l1_1 l1_2 a1_3)) else (banksmanref10_Add.j0 k l0 a2 true a1_0 l1_1 l1_2 a1_3))) else (none)))) else (none))) = some (r1, r2) := h
 clear h
 obtain ⟨y224, hy224⟩ : ∃ y_ : List (S24), y_ = (([] : List (S24))) := ⟨_, rfl⟩
 replace H : (if y224.length + l0.length < 2199023255552 then ((some (y224 ++ l0 : List (S24))).bind fun y227 => ((some (([(⟨a1_0, l1_1, l1_2, a1_3⟩ : S24)] : List (S24)) : List (S24))).bind fun y230 => (if y227.length + y230.length < 2199023255552 then ((banksmanref10_may.f k (y227 ++ y230)).bind fun t236 => (if t236 = true then (if a2 < 1 then (banksmanref10_Add.j0 k l0 a2 true a1_0 l1_1 l1_2 a1_3) else (banksmanref10_Add.j0 k l0 a2 (decide (a2 > 100)) a1_0 l1_1 l1_2 a1_3)) else (banksmanref10_Add.j0 k l0 a2 true a1_0 l1_1 l1_2 a1_3))) else (none)))) else (none)) = some (r1, r2) := by first | (rw [hy224]; with_reducible exact H) | (have H2_ := (Option.bind_some _ _).symm.trans H; rw [hy224]; with_reducible exact H2_) | (have H2_ := (Option.bind_some _ _).symm.trans H; with_reducible exact H2_) | with_reducible exact H | (rw [hy224]; exact H) | exact H
 have Ny224 := aM hy224
 clear hy224
 by_cases c4 : y224.length + l0.length < 2199023255552
 ·
  rw [if_pos c4] at H
  have LMc4 := aM c4
  clear c4
  obtain ⟨y227, hy227⟩ : ∃ y_ : List (S24), y_ = (y224 ++ l0) := ⟨_, rfl⟩
  replace H : ((some (([(⟨a1_0, l1_1, l1_2, a1_3⟩ : S24)] : List (S24)) : List (S24))).bind fun y230 => (if y227.length + y230.length < 2199023255552 then ((banksmanref10_may.f k (y227 ++ y230)).bind fun t236 => (if t236 = true then (if a2 < 1 then (banksmanref10_Add.j0 k l0 a2 true a1_0 l1_1 l1_2 a1_3) else (banksmanref10_Add.j0 k l0 a2 (decide (a2 > 100)) a1_0 l1_1 l1_2 a1_3)) else (banksmanref10_Add.j0 k l0 a2 true a1_0 l1_1 l1_2 a1_3))) else (none))) = some (r1, r2) := by first | (rw [hy227]; with_reducible exact H) | (have H2_ := (Option.bind_some _ _).symm.trans H; rw [hy227]; with_reducible exact H2_) | (have H2_ := (Option.bind_some _ _).symm.trans H; with_reducible exact H2_) | with_reducible exact H | (rw [hy227]; exact H) | exact H
  have Ny227 := aM hy227
  clear hy227
  obtain ⟨y230, hy230⟩ : ∃ y_ : List (S24), y_ = (([(⟨a1_0, l1_1, l1_2, a1_3⟩ : S24)] : List (S24))) := ⟨_, rfl⟩
  replace H : (if y227.length + y230.length < 2199023255552 then ((banksmanref10_may.f k (y227 ++ y230)).bind fun t236 => (if t236 = true then (if a2 < 1 then (banksmanref10_Add.j0 k l0 a2 true a1_0 l1_1 l1_2 a1_3) else (banksmanref10_Add.j0 k l0 a2 (decide (a2 > 100)) a1_0 l1_1 l1_2 a1_3)) else (banksmanref10_Add.j0 k l0 a2 true a1_0 l1_1 l1_2 a1_3))) else (none)) = some (r1, r2) := by first | (rw [hy230]; with_reducible exact H) | (have H2_ := (Option.bind_some _ _).symm.trans H; rw [hy230]; with_reducible exact H2_) | (have H2_ := (Option.bind_some _ _).symm.trans H; with_reducible exact H2_) | with_reducible exact H | (rw [hy230]; exact H) | exact H
  have Ny230 := aM hy230
  clear hy230
  by_cases c5 : y227.length + y230.length < 2199023255552
  ·
   rw [if_pos c5] at H
   have LMc5 := aM c5
   clear c5
   obtain ⟨y233, hy233⟩ : ∃ y_ : List (S24), y_ = (y227 ++ y230) := ⟨_, rfl⟩
   replace H : ((banksmanref10_may.f k y233).bind fun t236 => (if t236 = true then (if a2 < 1 then (banksmanref10_Add.j0 k l0 a2 true a1_0 l1_1 l1_2 a1_3) else (banksmanref10_Add.j0 k l0 a2 (decide (a2 > 100)) a1_0 l1_1 l1_2 a1_3)) else (banksmanref10_Add.j0 k l0 a2 true a1_0 l1_1 l1_2 a1_3))) = some (r1, r2) := by first | (rw [hy233]; with_reducible exact H) | (have H2_ := (Option.bind_some _ _).symm.trans H; rw [hy233]; with_reducible exact H2_) | (have H2_ := (Option.bind_some _ _).symm.trans H; with_reducible exact H2_) | with_reducible exact H | (rw [hy233]; exact H) | exact H
   have Ny233 := aM hy233
   clear hy233
   replace H := Option.bind_eq_some_iff.mp H
   obtain ⟨t236, A60, H⟩ := H
   replace H : (if t236 = true then (if a2 < 1 then (banksmanref10_Add.j0 k l0 a2 true a1_0 l1_1 l1_2 a1_3) else (banksmanref10_Add.j0 k l0 a2 (decide (a2 > 100)) a1_0 l1_1 l1_2 a1_3)) else (banksmanref10_Add.j0 k l0 a2 true a1_0 l1_1 l1_2 a1_3)) = some (r1, r2) := H
   have A6 := aM A60
   clear A60
   have HC7 := aM H
   clear H
   go_enter Try.func26, Try.ntmps26
   try go_wp2_with (first | ((with_reducible refine gate_dst (N := 4) rfl ?_); refine box_event ?hg (N := 4) ?hd (cs := #[.int .i64 a1_0, .slice A1_1 l1_1.length c1_1, .slice A1_2 l1_2.length c1_2, .bool a1_3]) (t := 24) ?hr ?_; (case hd => rfl); (case hg => rfl); (case hr => first | (go_simp; done) | (go_simp; rfl)); intro gb223 hg w8 hbox hb; replace HO0 := aM (vB (vE (vU HO0.out) gb223 (Nat.le_of_eq hg.symm)) hb); replace HO1_1 := aM (vB (vE (vU HO1_1.out) gb223 (Nat.le_of_eq hg.symm)) hb); replace HO1_2 := aM (vB (vE (vU HO1_2.out) gb223 (Nat.le_of_eq hg.symm)) hb); have BK223 := aM (hbox); have GW223 := aM ((by rw [hg]; exact (below_size (by repeat (first | (with_reducible first | exact HB.out | apply bA | apply bN | apply bD) | exact HB.out))) : w.heap.size ≤ gb223)); have GE223 := aM ((by rw [hg]; exact (below_size (by repeat (first | (with_reducible first | exact HB.out | apply bA | apply bN | apply bD) | exact HB.out))) : w.heap.size ≤ gb223)); replace HB := aM (below_step (by repeat (first | (with_reducible first | exact HB.out | apply bA | apply bN | apply bD) | exact HB.out)) hb); clear hb hbox hg))
   have n0_ := aM (Kd.V_drew HO0.out)
   have n1_ := aM (Kd.V_drew HO1_1.out)
   have n2_ := aM (Kd.V_drew HO1_2.out)
   have n3_ := aM (blk_drew BK223.out)
   have n4_ := aM (bD HB.out)
   clear HO0
   clear HO1_1
   clear HO1_2
   clear BK223
   clear HB
   have HO0 := n0_
   have HO1_1 := n1_
   have HO1_2 := n2_
   have BK223 := n3_
   have HB := n4_
   clear n0_ n1_ n2_ n3_ n4_
   refine start_ (n := 8) (S := fun w' => w'.cell? ⟨gb223, 0, none⟩ = some (.int .i64 a1_0) ∧ w'.cell? ⟨gb223, 1, none⟩ = some (.slice A1_1 l1_1.length c1_1) ∧ w'.cell? ⟨gb223, 2, none⟩ = some (.slice A1_2 l1_2.length c1_2) ∧ w'.cell? ⟨gb223, 3, none⟩ = some (.bool a1_3)) (ds := []) #[F_,F_,F_,F_,F_,F_,F_,F_] (by kernel_rfl) rfl rfl ⟨(kC BK223.out 0).trans rfl, (kC BK223.out 1).trans rfl, (kC BK223.out 2).trans rfl, (kC BK223.out 3).trans rfl⟩ (fun hHeld => ?_); refine with_tabW banksmanref10_Add.tab1 banksmanref10_Add.bits1 (fun HT_ HW_ => ?_)
   generalize w8.drew = w9 at HO0 HO1_1 HO1_2 BK223 HB hHeld ⊢
   refine pure_ (i := 1) (N := some 20) (v := ?_) (a' := ?_) #[F_,T_,F_,F_,F_,F_,F_,F_] rfl rfl (any_of HT_.out (by kernel_rfl)) (fun _ _ _ h => h) (Or.inl ⟨by rfl, ?_⟩) ?_ ?_
   rotate_left
   ·
    intro w'
    go_simp
    with_reducible rfl
   rotate_left
   ·
    simp only [Act.put, List.setIfInBounds_toArray, List.set_cons_zero, List.set_cons_succ, i64_w, i32_w]
    rfl
   refine take_ (i := 3) (N := some 22) (v := ?_) (a' := ?_) #[F_,T_,F_,T_,F_,F_,F_,F_] rfl rfl (take_ofW HT_.out HW_.out (by kernel_rfl)) (fun _ _ _ h => h) (Or.inl ⟨by rfl, ?_⟩) hHeld ?_ ?_
   rotate_left
   ·
    rintro w' ⟨s0, s1, s2, s3⟩
    go_simp
    with_reducible rfl
   rotate_left
   ·
    simp only [Act.put, List.setIfInBounds_toArray, List.set_cons_zero, List.set_cons_succ, i64_w, i32_w]
    rfl
   refine join_ (σ := Value × Value × Value) 3 #[T_,T_,T_,T_,T_,F_,F_,F_] (fun s_ => [(19, s_.1), (21, s_.2.1), (23, s_.2.2)]) (fun s_ w' => (w'.cell? ⟨gb223, 0, none⟩ = some (.int .i64 a1_0) ∧ w'.cell? ⟨gb223, 1, none⟩ = some (.slice A1_1 l1_1.length c1_1) ∧ w'.cell? ⟨gb223, 2, none⟩ = some (.slice A1_2 l1_2.length c1_2) ∧ w'.cell? ⟨gb223, 3, none⟩ = some (.bool a1_3)) ∧ (Kd.V k24 24 w' w.heap.size (fun k_ => ((P0_ k_ ∨ P1_1_ k_ ∨ P1_2_ k_) ∨ w.heap.size ≤ k_) ∧ some k_ ≠ (s_.2.1 : Value).ownBlock ∧ some k_ ≠ (s_.2.2 : Value).ownBlock ∧ k_ ≠ gb223) (.slice A0 l0.length c0) l0) ∧ (Kd.V (Kd.int .u8) 5 w' w.heap.size (fun k_ => ((P0_ k_ ∨ P1_1_ k_ ∨ P1_2_ k_) ∨ w.heap.size ≤ k_) ∧ some k_ ≠ (s_.2.1 : Value).ownBlock ∧ some k_ ≠ (s_.2.2 : Value).ownBlock ∧ k_ ≠ gb223) (.slice A1_1 l1_1.length c1_1) l1_1) ∧ (Kd.V (Kd.int .u8) 5 w' w.heap.size (fun k_ => ((P0_ k_ ∨ P1_1_ k_ ∨ P1_2_ k_) ∨ w.heap.size ≤ k_) ∧ some k_ ≠ (s_.2.1 : Value).ownBlock ∧ some k_ ≠ (s_.2.2 : Value).ownBlock ∧ k_ ≠ gb223) (.slice A1_2 l1_2.length c1_2) l1_2) ∧ (Kd.N k24 24 w' w.heap.size (fun k_ => ((P0_ k_ ∨ P1_1_ k_ ∨ P1_2_ k_) ∨ w.heap.size ≤ k_) ∧ some k_ ≠ (s_.2.2 : Value).ownBlock ∧ k_ ≠ gb223) s_.2.1 y227) ∧ (Kd.N k24 24 w' w.heap.size (fun k_ => ((P0_ k_ ∨ P1_1_ k_ ∨ P1_2_ k_) ∨ w.heap.size ≤ k_) ∧ some k_ ≠ (s_.2.1 : Value).ownBlock ∧ k_ ≠ gb223) s_.2.2 y230) ∧ (w'.heap[gb223]? = some (.cells #[.int .i64 a1_0, .slice A1_1 l1_1.length c1_1, .slice A1_2 l1_2.length c1_2, .bool a1_3] 24 (0, 0))) ∧ (Below w.heap.size w w')) ?_ ?_
   rotate_left
   ·
    intro hCont
    refine two_ (i := 0) (j := 4) (Ni := some 19) (Nj := some 23) #[T_,T_,F_,T_,F_,F_,F_,F_] #[F_,T_,F_,T_,T_,F_,F_,F_] rfl rfl rfl rfl (two_of HT_.out (by kernel_rfl)) (by decide) (by decide) (fun K hK => ?_) (fun K hK => ?_)
    ·
     skip
     refine Kd.N_lit_step k24 _ 24 ?hg (N' := 19) ?hd (xs := ([] : List (S24))) (inner := []) (ok := (fun k_ => ((P0_ k_ ∨ P1_1_ k_ ∨ P1_2_ k_) ∨ w.heap.size ≤ k_) ∧ k_ ≠ gb223)) (okp := (fun k_ => ((P0_ k_ ∨ P1_1_ k_ ∨ P1_2_ k_) ∨ w.heap.size ≤ k_) ∧ k_ ≠ gb223)) ?hr ?hp (fun _ hk => hk) ((show ∀ k_, w9.heap.size ≤ k_ → (fun k_ => ((P0_ k_ ∨ P1_1_ k_ ∨ P1_2_ k_) ∨ w.heap.size ≤ k_) ∧ k_ ≠ gb223) k_ from fun k_ hk => ⟨(.inr (Nat.le_trans (below_size (by repeat (first | (with_reducible first | exact HB.out | apply bA | apply bN | apply bD | refine bS ?_ GE223.out) | exact HB.out))) hk)), Kd.freshB (g := gb223) (o := .cells #[.int .i64 a1_0, .slice A1_1 l1_1.length c1_1, .slice A1_2 l1_2.length c1_2, .bool a1_3] 24 (0, 0)) (bU BK223.out) k_ hk⟩) _ (Nat.le_refl _)) (Below.refl _ _) (Nat.le_refl _) (by simp) ?_; (case hd => rfl); (case hg => rfl); (case hr => first | (go_simp; done) | (go_simp; rfl)); (case hp => exact (Reps.none _ _))
     intro v225 w10 ho11 hb hg_ hnew_
     clear hg_ hnew_
     (first | rw [← Ny224.out] at ho11 | (simp only [Int.reduceToNat] at ho11; rw [← Ny224.out] at ho11))
     have n0_ := aM (Kd.V_elder' (vU HO0.out) (by first | exact Kd.N_base ho11 | exact Kd.S_base ho11 | exact Kd.R_base ho11) hb)
     have n1_ := aM (Kd.V_elder' (vU HO1_1.out) (by first | exact Kd.N_base ho11 | exact Kd.S_base ho11 | exact Kd.R_base ho11) hb)
     have n2_ := aM (Kd.V_elder' (vU HO1_2.out) (by first | exact Kd.N_base ho11 | exact Kd.S_base ho11 | exact Kd.R_base ho11) hb)
     have n3_ := aM (Kd.N_lower ho11 (below_size (by repeat (first | (with_reducible first | exact HB.out | apply bA | apply bN | apply bD | refine bS ?_ GE223.out) | exact HB.out))))
     have n4_ := aM (kB (g := gb223) (o := .cells #[.int .i64 a1_0, .slice A1_1 l1_1.length c1_1, .slice A1_2 l1_2.length c1_2, .bool a1_3] 24 (0, 0)) (bU BK223.out) hb)
     have n5_ := aM (below_step (by repeat (first | (with_reducible first | exact HB.out | apply bA | apply bN | apply bD | refine bS ?_ GE223.out) | exact HB.out)) hb)
     clear HO0
     clear HO1_1
     clear HO1_2
     clear BK223
     clear HB
     have HO0 := n0_
     have HO1_1 := n1_
     have HO1_2 := n2_
     have HO226 := n3_
     have BK223 := n4_
     have HB := n5_
     clear n0_ n1_ n2_ n3_ n4_ n5_
     clear hb ho11
     refine hK.out _ _ ⟨(kC BK223.out 0).trans rfl, (kC BK223.out 1).trans rfl, (kC BK223.out 2).trans rfl, (kC BK223.out 3).trans rfl⟩ (fun hHeld => ?_)
     clear hK K
     refine norm_ (a' := ?_) ?_ ?_
     rotate_left
     ·
      show Act.put _ (some 19) _ = _
      simp only [Act.put, List.setIfInBounds_toArray, List.set_cons_zero, List.set_cons_succ, i64_w, i32_w]
      rfl
     refine two_ (i := 2) (j := 4) (Ni := some 21) (Nj := some 23) #[T_,T_,T_,T_,F_,F_,F_,F_] #[T_,T_,F_,T_,T_,F_,F_,F_] rfl rfl rfl rfl (two_of HT_.out (by kernel_rfl)) (by decide) (by decide) (fun K hK => ?_) (fun K hK => ?_)
     ·
      skip
      refine Kd.N_append_rows_step k24 (w0 := w) w.heap.size (by rfl) (.tmp 19) (.tmp 20) 32 24 (.agg #[(.int .i64 0), (.slice none 0 0), (.slice none 0 0), (.bool false)]) 64 rfl Try.underlying32 info24 rfl (by decide) (by omega) v225 y224 l0 _ _ _ (fun k_ => ((P0_ k_ ∨ P1_1_ k_ ∨ P1_2_ k_) ∨ w.heap.size ≤ k_) ∧ k_ ≠ gb223) (fun k_ => ((fun k_ => ((P0_ k_ ∨ P1_1_ k_ ∨ P1_2_ k_) ∨ w.heap.size ≤ k_) ∧ k_ ≠ gb223)) k_ ∧ some k_ ≠ (v225 : Value).ownBlock) rfl rfl ?aO ?aR (fun _ hk => hk) ?aF ?aB ?aS ?aL ?_
      (case aR => exact (by skip; exact Kd.V_F (Kd.V_mono (ok' := (fun k_ => ((fun k_ => ((P0_ k_ ∨ P1_1_ k_ ∨ P1_2_ k_) ∨ w.heap.size ≤ k_) ∧ k_ ≠ gb223)) k_ ∧ some k_ ≠ (v225 : Value).ownBlock)) (HO0.out) (fun k_ hk => ⟨⟨hk.1.1, hk.1.2⟩, hk.2⟩))))
      (case aB => exact (by repeat (first | (with_reducible first | exact HB.out | apply bA | apply bN | apply bD | refine bS ?_ GE223.out) | exact HB.out)))
      (case aF => exact (fun k_ hk => ⟨(.inr (Nat.le_trans (below_size (by repeat (first | (with_reducible first | exact HB.out | apply bA | apply bN | apply bD | refine bS ?_ GE223.out) | exact HB.out))) hk)), Kd.freshB (g := gb223) (o := .cells #[.int .i64 a1_0, .slice A1_1 l1_1.length c1_1, .slice A1_2 l1_2.length c1_2, .bool a1_3] 24 (0, 0)) (bU BK223.out) k_ hk⟩))
      (case aO => exact (nU HO226.out))
      (case aS => exact (below_size (by repeat (first | (with_reducible first | exact HB.out | apply bA | apply bN | apply bD | refine bS ?_ GE223.out) | exact HB.out))))
      (case aL => have := LMc4.out; omega)
      intro v228 w12 ho hb hg hat
      rw [← Ny227.out] at ho
      have n0_ := aM (Kd.V_afterv (ok := (fun k_ => ((P0_ k_ ∨ P1_1_ k_ ∨ P1_2_ k_) ∨ w.heap.size ≤ k_) ∧ k_ ≠ gb223)) (vU HO0.out) hg hat)
      have n1_ := aM (Kd.V_afterv (ok := (fun k_ => ((P0_ k_ ∨ P1_1_ k_ ∨ P1_2_ k_) ∨ w.heap.size ≤ k_) ∧ k_ ≠ gb223)) (vU HO1_1.out) hg hat)
      have n2_ := aM (Kd.V_afterv (ok := (fun k_ => ((P0_ k_ ∨ P1_1_ k_ ∨ P1_2_ k_) ∨ w.heap.size ≤ k_) ∧ k_ ≠ gb223)) (vU HO1_2.out) hg hat)
      have n3_ := aM (blk_grown (g := gb223) (o := .cells #[.int .i64 a1_0, .slice A1_1 l1_1.length c1_1, .slice A1_2 l1_2.length c1_2, .bool a1_3] 24 (0, 0)) (bU BK223.out) hg (Kd.N_away HO226.out (fun _ hk => hk.2)))
      have n4_ := aM (hb)
      have n5_ := aM (ho)
      clear HO0
      clear HO1_1
      clear HO1_2
      clear BK223
      clear HB
      clear HO226
      have HO0 := n0_
      have HO1_1 := n1_
      have HO1_2 := n2_
      have BK223 := n3_
      have HB := n4_
      have HO229 := n5_
      clear n0_ n1_ n2_ n3_ n4_ n5_
      clear ho hb hg hat
      refine hK.out _ _ ⟨(kC BK223.out 0).trans rfl, (kC BK223.out 1).trans rfl, (kC BK223.out 2).trans rfl, (kC BK223.out 3).trans rfl⟩ (fun hHeld => ?_)
      clear hK K
      refine norm_ (a' := ?_) ?_ ?_
      rotate_left
      ·
       show Act.put _ (some 21) _ = _
       simp only [Act.put, List.setIfInBounds_toArray, List.set_cons_zero, List.set_cons_succ, i64_w, i32_w]
       rfl
      refine one_ (i := 4) (N := some 23) #[T_,T_,T_,T_,T_,F_,F_,F_] rfl rfl (one_of HT_.out (by kernel_rfl)) (by decide) (fun K hK => ?_)
      refine Kd.N_lit_step k24 _ 24 ?hg (N' := 23) ?hd (xs := ([(⟨a1_0, l1_1, l1_2, a1_3⟩ : S24)] : List (S24))) (inner := [.int .i64 a1_0, .slice A1_1 l1_1.length c1_1, .slice A1_2 l1_2.length c1_2, .bool a1_3]) (ok := (fun k_ => ((P0_ k_ ∨ P1_1_ k_ ∨ P1_2_ k_) ∨ w.heap.size ≤ k_) ∧ some k_ ≠ (v228 : Value).ownBlock ∧ k_ ≠ gb223)) (okp := (fun k_ => ((P0_ k_ ∨ P1_1_ k_ ∨ P1_2_ k_) ∨ w.heap.size ≤ k_) ∧ some k_ ≠ (v228 : Value).ownBlock ∧ k_ ≠ gb223)) ?hr ?hp (fun _ hk => hk) ((show ∀ k_, w12.heap.size ≤ k_ → (fun k_ => ((P0_ k_ ∨ P1_1_ k_ ∨ P1_2_ k_) ∨ w.heap.size ≤ k_) ∧ some k_ ≠ (v228 : Value).ownBlock ∧ k_ ≠ gb223) k_ from fun k_ hk => ⟨(.inr (Nat.le_trans (below_size (by repeat (first | (with_reducible first | exact HB.out | apply bA | apply bN | apply bD | refine bS ?_ GE223.out) | exact HB.out))) hk)), Kd.fresh' (Kd.N_lt (nU HO229.out)) k_ hk, Kd.freshB (g := gb223) (o := .cells #[.int .i64 a1_0, .slice A1_1 l1_1.length c1_1, .slice A1_2 l1_2.length c1_2, .bool a1_3] 24 (0, 0)) (bU BK223.out) k_ hk⟩) _ (Nat.le_refl _)) (Below.refl _ _) (Nat.le_refl _) (by simp) ?_; (case hd => rfl); (case hg => rfl); (case hr => first | (go_simp; done) | (go_simp; rfl)); (case hp => exact (Reps.c4 (show Kd.FK k24 _ _ (⟨a1_0, l1_1, l1_2, a1_3⟩ : S24) [.int .i64 a1_0, .slice A1_1 l1_1.length c1_1, .slice A1_2 l1_2.length c1_2, .bool a1_3] from (k24_mkF _ _ (⟨a1_0, l1_1, l1_2, a1_3⟩ : S24) (Kd.V_reads' (Kd.V_mono (ok' := (fun k_ => ((P0_ k_ ∨ P1_1_ k_ ∨ P1_2_ k_) ∨ w.heap.size ≤ k_) ∧ some k_ ≠ (v228 : Value).ownBlock ∧ k_ ≠ gb223)) (HO1_1.out) (fun k_ hk => ⟨hk.1.1, ⟨hk.2, hk.1.2⟩⟩))).2.1 (Kd.V_F (Kd.V_mono (ok' := (fun k_ => ((P0_ k_ ∨ P1_1_ k_ ∨ P1_2_ k_) ∨ w.heap.size ≤ k_) ∧ some k_ ≠ (v228 : Value).ownBlock ∧ k_ ≠ gb223)) (HO1_1.out) (fun k_ hk => ⟨hk.1.1, ⟨hk.2, hk.1.2⟩⟩))) (Kd.V_reads' (Kd.V_mono (ok' := (fun k_ => ((P0_ k_ ∨ P1_1_ k_ ∨ P1_2_ k_) ∨ w.heap.size ≤ k_) ∧ some k_ ≠ (v228 : Value).ownBlock ∧ k_ ≠ gb223)) (HO1_2.out) (fun k_ hk => ⟨hk.1.1, ⟨hk.2, hk.1.2⟩⟩))).2.1 (Kd.V_F (Kd.V_mono (ok' := (fun k_ => ((P0_ k_ ∨ P1_1_ k_ ∨ P1_2_ k_) ∨ w.heap.size ≤ k_) ∧ some k_ ≠ (v228 : Value).ownBlock ∧ k_ ≠ gb223)) (HO1_2.out) (fun k_ hk => ⟨hk.1.1, ⟨hk.2, hk.1.2⟩⟩))))) (Reps.none _ _)))
      intro v231 w13 ho14 hb hg_ hnew_
      clear hg_ hnew_
      (first | rw [← Ny230.out] at ho14 | (simp only [Int.reduceToNat] at ho14; rw [← Ny230.out] at ho14))
      have n0_ := aM (Kd.V_elder' (vU HO0.out) (by first | exact Kd.N_base ho14 | exact Kd.S_base ho14 | exact Kd.R_base ho14) hb)
      have n1_ := aM (Kd.V_elder' (vU HO1_1.out) (by first | exact Kd.N_base ho14 | exact Kd.S_base ho14 | exact Kd.R_base ho14) hb)
      have n2_ := aM (Kd.V_elder' (vU HO1_2.out) (by first | exact Kd.N_base ho14 | exact Kd.S_base ho14 | exact Kd.R_base ho14) hb)
      have n3_ := aM (Kd.N_elder' (nU HO229.out) (by first | exact Kd.N_base ho14 | exact Kd.S_base ho14 | exact Kd.R_base ho14) hb)
      have n4_ := aM (Kd.N_lower ho14 (below_size (by repeat (first | (with_reducible first | exact HB.out | apply bA | apply bN | apply bD | refine bS ?_ GE223.out) | exact HB.out))))
      have n5_ := aM (kB (g := gb223) (o := .cells #[.int .i64 a1_0, .slice A1_1 l1_1.length c1_1, .slice A1_2 l1_2.length c1_2, .bool a1_3] 24 (0, 0)) (bU BK223.out) hb)
      have n6_ := aM (below_step (by repeat (first | (with_reducible first | exact HB.out | apply bA | apply bN | apply bD | refine bS ?_ GE223.out) | exact HB.out)) hb)
      clear HO0
      clear HO1_1
      clear HO1_2
      clear HO229
      clear BK223
      clear HB
      have HO0 := n0_
      have HO1_1 := n1_
      have HO1_2 := n2_
      have HO229 := n3_
      have HO232 := n4_
      have BK223 := n5_
      have HB := n6_
      clear n0_ n1_ n2_ n3_ n4_ n5_ n6_
      clear hb ho14
      refine hK.out _ _ ⟨(kC BK223.out 0).trans rfl, (kC BK223.out 1).trans rfl, (kC BK223.out 2).trans rfl, (kC BK223.out 3).trans rfl⟩ (fun hHeld => ?_)
      clear hK K
      refine norm_ (a' := ?_) ?_ ?_
      rotate_left
      ·
       show Act.put _ (some 23) _ = _
       simp only [Act.put, List.setIfInBounds_toArray, List.set_cons_zero, List.set_cons_succ, i64_w, i32_w]
       rfl
      exact norm_ (by simp only [putAll, Act.put, List.setIfInBounds_toArray, List.set_cons_zero, List.set_cons_succ]) (hCont (v225, v228, v231) _ ⟨hHeld, (by (with_reducible repeat (first | apply Kd.V_alloc | apply Kd.V_drewN | apply Kd.V_drew)); exact Kd.V_mono HO0.out (fun _ hk => ⟨hk.1.1.1, ⟨hk.1.2, ⟨hk.2, hk.1.1.2⟩⟩⟩)), (by (with_reducible repeat (first | apply Kd.V_alloc | apply Kd.V_drewN | apply Kd.V_drew)); exact Kd.V_mono HO1_1.out (fun _ hk => ⟨hk.1.1.1, ⟨hk.1.2, ⟨hk.2, hk.1.1.2⟩⟩⟩)), (by (with_reducible repeat (first | apply Kd.V_alloc | apply Kd.V_drewN | apply Kd.V_drew)); exact Kd.V_mono HO1_2.out (fun _ hk => ⟨hk.1.1.1, ⟨hk.1.2, ⟨hk.2, hk.1.1.2⟩⟩⟩)), (by (with_reducible repeat (first | apply Kd.N_alloc | apply Kd.N_drewN | apply Kd.N_drew)); exact Kd.N_mono HO229.out (fun _ hk => ⟨hk.1.1, ⟨hk.2, hk.1.2⟩⟩)), (nU HO232.out), (bU BK223.out), (by repeat (first | (with_reducible first | exact HB.out | apply bA | apply bN | apply bD | refine bS ?_ GE223.out) | exact HB.out))⟩)
     ·
      skip
      refine Kd.N_lit_step k24 _ 24 ?hg (N' := 23) ?hd (xs := ([(⟨a1_0, l1_1, l1_2, a1_3⟩ : S24)] : List (S24))) (inner := [.int .i64 a1_0, .slice A1_1 l1_1.length c1_1, .slice A1_2 l1_2.length c1_2, .bool a1_3]) (ok := (fun k_ => ((P0_ k_ ∨ P1_1_ k_ ∨ P1_2_ k_) ∨ w.heap.size ≤ k_) ∧ some k_ ≠ (v225 : Value).ownBlock ∧ k_ ≠ gb223)) (okp := (fun k_ => ((P0_ k_ ∨ P1_1_ k_ ∨ P1_2_ k_) ∨ w.heap.size ≤ k_) ∧ some k_ ≠ (v225 : Value).ownBlock ∧ k_ ≠ gb223)) ?hr ?hp (fun _ hk => hk) ((show ∀ k_, w10.heap.size ≤ k_ → (fun k_ => ((P0_ k_ ∨ P1_1_ k_ ∨ P1_2_ k_) ∨ w.heap.size ≤ k_) ∧ some k_ ≠ (v225 : Value).ownBlock ∧ k_ ≠ gb223) k_ from fun k_ hk => ⟨(.inr (Nat.le_trans (below_size (by repeat (first | (with_reducible first | exact HB.out | apply bA | apply bN | apply bD | refine bS ?_ GE223.out) | exact HB.out))) hk)), Kd.fresh' (Kd.N_lt (nU HO226.out)) k_ hk, Kd.freshB (g := gb223) (o := .cells #[.int .i64 a1_0, .slice A1_1 l1_1.length c1_1, .slice A1_2 l1_2.length c1_2, .bool a1_3] 24 (0, 0)) (bU BK223.out) k_ hk⟩) _ (Nat.le_refl _)) (Below.refl _ _) (Nat.le_refl _) (by simp) ?_; (case hd => rfl); (case hg => rfl); (case hr => first | (go_simp; done) | (go_simp; rfl)); (case hp => exact (Reps.c4 (show Kd.FK k24 _ _ (⟨a1_0, l1_1, l1_2, a1_3⟩ : S24) [.int .i64 a1_0, .slice A1_1 l1_1.length c1_1, .slice A1_2 l1_2.length c1_2, .bool a1_3] from (k24_mkF _ _ (⟨a1_0, l1_1, l1_2, a1_3⟩ : S24) (Kd.V_reads' (Kd.V_mono (ok' := (fun k_ => ((P0_ k_ ∨ P1_1_ k_ ∨ P1_2_ k_) ∨ w.heap.size ≤ k_) ∧ some k_ ≠ (v225 : Value).ownBlock ∧ k_ ≠ gb223)) (HO1_1.out) (fun k_ hk => ⟨hk.1.1, ⟨hk.2, hk.1.2⟩⟩))).2.1 (Kd.V_F (Kd.V_mono (ok' := (fun k_ => ((P0_ k_ ∨ P1_1_ k_ ∨ P1_2_ k_) ∨ w.heap.size ≤ k_) ∧ some k_ ≠ (v225 : Value).ownBlock ∧ k_ ≠ gb223)) (HO1_1.out) (fun k_ hk => ⟨hk.1.1, ⟨hk.2, hk.1.2⟩⟩))) (Kd.V_reads' (Kd.V_mono (ok' := (fun k_ => ((P0_ k_ ∨ P1_1_ k_ ∨ P1_2_ k_) ∨ w.heap.size ≤ k_) ∧ some k_ ≠ (v225 : Value).ownBlock ∧ k_ ≠ gb223)) (HO1_2.out) (fun k_ hk => ⟨hk.1.1, ⟨hk.2, hk.1.2⟩⟩))).2.1 (Kd.V_F (Kd.V_mono (ok' := (fun k_ => ((P0_ k_ ∨ P1_1_ k_ ∨ P1_2_ k_) ∨ w.heap.size ≤ k_) ∧ some k_ ≠ (v225 : Value).ownBlock ∧ k_ ≠ gb223)) (HO1_2.out) (fun k_ hk => ⟨hk.1.1, ⟨hk.2, hk.1.2⟩⟩))))) (Reps.none _ _)))
      intro v231 w12 ho13 hb hg_ hnew_
      clear hg_ hnew_
      (first | rw [← Ny230.out] at ho13 | (simp only [Int.reduceToNat] at ho13; rw [← Ny230.out] at ho13))
      have n0_ := aM (Kd.V_elder' (vU HO0.out) (by first | exact Kd.N_base ho13 | exact Kd.S_base ho13 | exact Kd.R_base ho13) hb)
      have n1_ := aM (Kd.V_elder' (vU HO1_1.out) (by first | exact Kd.N_base ho13 | exact Kd.S_base ho13 | exact Kd.R_base ho13) hb)
      have n2_ := aM (Kd.V_elder' (vU HO1_2.out) (by first | exact Kd.N_base ho13 | exact Kd.S_base ho13 | exact Kd.R_base ho13) hb)
      have n3_ := aM (Kd.N_elder' (nU HO226.out) (by first | exact Kd.N_base ho13 | exact Kd.S_base ho13 | exact Kd.R_base ho13) hb)
      have n4_ := aM (Kd.N_lower ho13 (below_size (by repeat (first | (with_reducible first | exact HB.out | apply bA | apply bN | apply bD | refine bS ?_ GE223.out) | exact HB.out))))
      have n5_ := aM (kB (g := gb223) (o := .cells #[.int .i64 a1_0, .slice A1_1 l1_1.length c1_1, .slice A1_2 l1_2.length c1_2, .bool a1_3] 24 (0, 0)) (bU BK223.out) hb)
      have n6_ := aM (below_step (by repeat (first | (with_reducible first | exact HB.out | apply bA | apply bN | apply bD | refine bS ?_ GE223.out) | exact HB.out)) hb)
      clear HO0
      clear HO1_1
      clear HO1_2
      clear HO226
      clear BK223
      clear HB
      have HO0 := n0_
      have HO1_1 := n1_
      have HO1_2 := n2_
      have HO226 := n3_
      have HO232 := n4_
      have BK223 := n5_
      have HB := n6_
      clear n0_ n1_ n2_ n3_ n4_ n5_ n6_
      clear hb ho13
      refine hK.out _ _ ⟨(kC BK223.out 0).trans rfl, (kC BK223.out 1).trans rfl, (kC BK223.out 2).trans rfl, (kC BK223.out 3).trans rfl⟩ (fun hHeld => ?_)
      clear hK K
      refine norm_ (a' := ?_) ?_ ?_
      rotate_left
      ·
       show Act.put _ (some 23) _ = _
       simp only [Act.put, List.setIfInBounds_toArray, List.set_cons_zero, List.set_cons_succ, i64_w, i32_w]
       rfl
      refine one_ (i := 2) (N := some 21) #[T_,T_,T_,T_,T_,F_,F_,F_] rfl rfl (one_of HT_.out (by kernel_rfl)) (by decide) (fun K hK => ?_)
      refine Kd.N_append_rows_step k24 (w0 := w) w.heap.size (by rfl) (.tmp 19) (.tmp 20) 32 24 (.agg #[(.int .i64 0), (.slice none 0 0), (.slice none 0 0), (.bool false)]) 64 rfl Try.underlying32 info24 rfl (by decide) (by omega) v225 y224 l0 _ _ _ (fun k_ => ((P0_ k_ ∨ P1_1_ k_ ∨ P1_2_ k_) ∨ w.heap.size ≤ k_) ∧ some k_ ≠ (v231 : Value).ownBlock ∧ k_ ≠ gb223) (fun k_ => ((fun k_ => ((P0_ k_ ∨ P1_1_ k_ ∨ P1_2_ k_) ∨ w.heap.size ≤ k_) ∧ some k_ ≠ (v231 : Value).ownBlock ∧ k_ ≠ gb223)) k_ ∧ some k_ ≠ (v225 : Value).ownBlock) rfl rfl ?aO ?aR (fun _ hk => hk) ?aF ?aB ?aS ?aL ?_
      (case aR => exact (by skip; exact Kd.V_F (Kd.V_mono (ok' := (fun k_ => ((fun k_ => ((P0_ k_ ∨ P1_1_ k_ ∨ P1_2_ k_) ∨ w.heap.size ≤ k_) ∧ some k_ ≠ (v231 : Value).ownBlock ∧ k_ ≠ gb223)) k_ ∧ some k_ ≠ (v225 : Value).ownBlock)) (HO0.out) (fun k_ hk => ⟨⟨hk.1.1.1, ⟨hk.2, hk.1.1.2⟩⟩, hk.1.2⟩))))
      (case aB => exact (by repeat (first | (with_reducible first | exact HB.out | apply bA | apply bN | apply bD | refine bS ?_ GE223.out) | exact HB.out)))
      (case aF => exact (fun k_ hk => ⟨(.inr (Nat.le_trans (below_size (by repeat (first | (with_reducible first | exact HB.out | apply bA | apply bN | apply bD | refine bS ?_ GE223.out) | exact HB.out))) hk)), Kd.fresh' (Kd.N_lt (nU HO232.out)) k_ hk, Kd.freshB (g := gb223) (o := .cells #[.int .i64 a1_0, .slice A1_1 l1_1.length c1_1, .slice A1_2 l1_2.length c1_2, .bool a1_3] 24 (0, 0)) (bU BK223.out) k_ hk⟩))
      (case aO => exact (by (with_reducible repeat (first | apply Kd.N_alloc | apply Kd.N_drewN | apply Kd.N_drew)); exact Kd.N_mono HO226.out (fun _ hk => ⟨hk.1.1, ⟨hk.2, hk.1.2⟩⟩)))
      (case aS => exact (below_size (by repeat (first | (with_reducible first | exact HB.out | apply bA | apply bN | apply bD | refine bS ?_ GE223.out) | exact HB.out))))
      (case aL => have := LMc4.out; omega)
      intro v228 w14 ho hb hg hat
      rw [← Ny227.out] at ho
      have n0_ := aM (Kd.V_afterv (ok := (fun k_ => ((P0_ k_ ∨ P1_1_ k_ ∨ P1_2_ k_) ∨ w.heap.size ≤ k_) ∧ some k_ ≠ (v231 : Value).ownBlock ∧ k_ ≠ gb223)) (by (with_reducible repeat (first | apply Kd.V_alloc | apply Kd.V_drewN | apply Kd.V_drew)); exact Kd.V_mono HO0.out (fun _ hk => ⟨⟨hk.1.1.1, ⟨hk.2, hk.1.1.2⟩⟩, hk.1.2⟩)) hg hat)
      have n1_ := aM (Kd.V_afterv (ok := (fun k_ => ((P0_ k_ ∨ P1_1_ k_ ∨ P1_2_ k_) ∨ w.heap.size ≤ k_) ∧ some k_ ≠ (v231 : Value).ownBlock ∧ k_ ≠ gb223)) (by (with_reducible repeat (first | apply Kd.V_alloc | apply Kd.V_drewN | apply Kd.V_drew)); exact Kd.V_mono HO1_1.out (fun _ hk => ⟨⟨hk.1.1.1, ⟨hk.2, hk.1.1.2⟩⟩, hk.1.2⟩)) hg hat)
      have n2_ := aM (Kd.V_afterv (ok := (fun k_ => ((P0_ k_ ∨ P1_1_ k_ ∨ P1_2_ k_) ∨ w.heap.size ≤ k_) ∧ some k_ ≠ (v231 : Value).ownBlock ∧ k_ ≠ gb223)) (by (with_reducible repeat (first | apply Kd.V_alloc | apply Kd.V_drewN | apply Kd.V_drew)); exact Kd.V_mono HO1_2.out (fun _ hk => ⟨⟨hk.1.1.1, ⟨hk.2, hk.1.1.2⟩⟩, hk.1.2⟩)) hg hat)
      have n3_ := aM (blk_grown (g := gb223) (o := .cells #[.int .i64 a1_0, .slice A1_1 l1_1.length c1_1, .slice A1_2 l1_2.length c1_2, .bool a1_3] 24 (0, 0)) (bU BK223.out) hg (Kd.N_away HO226.out (fun _ hk => hk.1.2)))
      have n4_ := aM (Kd.N_afterv (ok := (fun k_ => ((P0_ k_ ∨ P1_1_ k_ ∨ P1_2_ k_) ∨ w.heap.size ≤ k_) ∧ k_ ≠ gb223)) (by (with_reducible repeat (first | apply Kd.N_alloc | apply Kd.N_drewN | apply Kd.N_drew)); exact Kd.N_mono HO232.out (fun _ hk => ⟨⟨hk.1, hk.2.2⟩, hk.2.1⟩)) hg hat)
      have n5_ := aM (hb)
      have n6_ := aM (ho)
      clear HO0
      clear HO1_1
      clear HO1_2
      clear BK223
      clear HO232
      clear HB
      clear HO226
      have HO0 := n0_
      have HO1_1 := n1_
      have HO1_2 := n2_
      have BK223 := n3_
      have HO232 := n4_
      have HB := n5_
      have HO229 := n6_
      clear n0_ n1_ n2_ n3_ n4_ n5_ n6_
      clear ho hb hg hat
      refine hK.out _ _ ⟨(kC BK223.out 0).trans rfl, (kC BK223.out 1).trans rfl, (kC BK223.out 2).trans rfl, (kC BK223.out 3).trans rfl⟩ (fun hHeld => ?_)
      clear hK K
      refine norm_ (a' := ?_) ?_ ?_
      rotate_left
      ·
       show Act.put _ (some 21) _ = _
       simp only [Act.put, List.setIfInBounds_toArray, List.set_cons_zero, List.set_cons_succ, i64_w, i32_w]
       rfl
      exact norm_ (by simp only [putAll, Act.put, List.setIfInBounds_toArray, List.set_cons_zero, List.set_cons_succ]) (hCont (v225, v228, v231) _ ⟨hHeld, (by (with_reducible repeat (first | apply Kd.V_alloc | apply Kd.V_drewN | apply Kd.V_drew)); exact Kd.V_mono HO0.out (fun _ hk => ⟨hk.1.1, ⟨hk.2, ⟨hk.1.2.1, hk.1.2.2⟩⟩⟩)), (by (with_reducible repeat (first | apply Kd.V_alloc | apply Kd.V_drewN | apply Kd.V_drew)); exact Kd.V_mono HO1_1.out (fun _ hk => ⟨hk.1.1, ⟨hk.2, ⟨hk.1.2.1, hk.1.2.2⟩⟩⟩)), (by (with_reducible repeat (first | apply Kd.V_alloc | apply Kd.V_drewN | apply Kd.V_drew)); exact Kd.V_mono HO1_2.out (fun _ hk => ⟨hk.1.1, ⟨hk.2, ⟨hk.1.2.1, hk.1.2.2⟩⟩⟩)), (nU HO229.out), (by (with_reducible repeat (first | apply Kd.N_alloc | apply Kd.N_drewN | apply Kd.N_drew)); exact Kd.N_mono HO232.out (fun _ hk => ⟨hk.1.1, ⟨hk.2, hk.1.2⟩⟩)), (bU BK223.out), (by repeat (first | (with_reducible first | exact HB.out | apply bA | apply bN | apply bD | refine bS ?_ GE223.out) | exact HB.out))⟩)
    ·
     skip
     refine Kd.N_lit_step k24 _ 24 ?hg (N' := 23) ?hd (xs := ([(⟨a1_0, l1_1, l1_2, a1_3⟩ : S24)] : List (S24))) (inner := [.int .i64 a1_0, .slice A1_1 l1_1.length c1_1, .slice A1_2 l1_2.length c1_2, .bool a1_3]) (ok := (fun k_ => ((P0_ k_ ∨ P1_1_ k_ ∨ P1_2_ k_) ∨ w.heap.size ≤ k_) ∧ k_ ≠ gb223)) (okp := (fun k_ => ((P0_ k_ ∨ P1_1_ k_ ∨ P1_2_ k_) ∨ w.heap.size ≤ k_) ∧ k_ ≠ gb223)) ?hr ?hp (fun _ hk => hk) ((show ∀ k_, w9.heap.size ≤ k_ → (fun k_ => ((P0_ k_ ∨ P1_1_ k_ ∨ P1_2_ k_) ∨ w.heap.size ≤ k_) ∧ k_ ≠ gb223) k_ from fun k_ hk => ⟨(.inr (Nat.le_trans (below_size (by repeat (first | (with_reducible first | exact HB.out | apply bA | apply bN | apply bD | refine bS ?_ GE223.out) | exact HB.out))) hk)), Kd.freshB (g := gb223) (o := .cells #[.int .i64 a1_0, .slice A1_1 l1_1.length c1_1, .slice A1_2 l1_2.length c1_2, .bool a1_3] 24 (0, 0)) (bU BK223.out) k_ hk⟩) _ (Nat.le_refl _)) (Below.refl _ _) (Nat.le_refl _) (by simp) ?_; (case hd => rfl); (case hg => rfl); (case hr => first | (go_simp; done) | (go_simp; rfl)); (case hp => exact (Reps.c4 (show Kd.FK k24 _ _ (⟨a1_0, l1_1, l1_2, a1_3⟩ : S24) [.int .i64 a1_0, .slice A1_1 l1_1.length c1_1, .slice A1_2 l1_2.length c1_2, .bool a1_3] from (k24_mkF _ _ (⟨a1_0, l1_1, l1_2, a1_3⟩ : S24) (Kd.V_reads' (Kd.V_mono (ok' := (fun k_ => ((P0_ k_ ∨ P1_1_ k_ ∨ P1_2_ k_) ∨ w.heap.size ≤ k_) ∧ k_ ≠ gb223)) (HO1_1.out) (fun k_ hk => ⟨hk.1, hk.2⟩))).2.1 (Kd.V_F (Kd.V_mono (ok' := (fun k_ => ((P0_ k_ ∨ P1_1_ k_ ∨ P1_2_ k_) ∨ w.heap.size ≤ k_) ∧ k_ ≠ gb223)) (HO1_1.out) (fun k_ hk => ⟨hk.1, hk.2⟩))) (Kd.V_reads' (Kd.V_mono (ok' := (fun k_ => ((P0_ k_ ∨ P1_1_ k_ ∨ P1_2_ k_) ∨ w.heap.size ≤ k_) ∧ k_ ≠ gb223)) (HO1_2.out) (fun k_ hk => ⟨hk.1, hk.2⟩))).2.1 (Kd.V_F (Kd.V_mono (ok' := (fun k_ => ((P0_ k_ ∨ P1_1_ k_ ∨ P1_2_ k_) ∨ w.heap.size ≤ k_) ∧ k_ ≠ gb223)) (HO1_2.out) (fun k_ hk => ⟨hk.1, hk.2⟩))))) (Reps.none _ _)))
     intro v231 w10 ho11 hb hg_ hnew_
     clear hg_ hnew_
     (first | rw [← Ny230.out] at ho11 | (simp only [Int.reduceToNat] at ho11; rw [← Ny230.out] at ho11))
     have n0_ := aM (Kd.V_elder' (vU HO0.out) (by first | exact Kd.N_base ho11 | exact Kd.S_base ho11 | exact Kd.R_base ho11) hb)
     have n1_ := aM (Kd.V_elder' (vU HO1_1.out) (by first | exact Kd.N_base ho11 | exact Kd.S_base ho11 | exact Kd.R_base ho11) hb)
     have n2_ := aM (Kd.V_elder' (vU HO1_2.out) (by first | exact Kd.N_base ho11 | exact Kd.S_base ho11 | exact Kd.R_base ho11) hb)
     have n3_ := aM (Kd.N_lower ho11 (below_size (by repeat (first | (with_reducible first | exact HB.out | apply bA | apply bN | apply bD | refine bS ?_ GE223.out) | exact HB.out))))
     have n4_ := aM (kB (g := gb223) (o := .cells #[.int .i64 a1_0, .slice A1_1 l1_1.length c1_1, .slice A1_2 l1_2.length c1_2, .bool a1_3] 24 (0, 0)) (bU BK223.out) hb)
     have n5_ := aM (below_step (by repeat (first | (with_reducible first | exact HB.out | apply bA | apply bN | apply bD | refine bS ?_ GE223.out) | exact HB.out)) hb)
     clear HO0
     clear HO1_1
     clear HO1_2
     clear BK223
     clear HB
     have HO0 := n0_
     have HO1_1 := n1_
     have HO1_2 := n2_
     have HO232 := n3_
     have BK223 := n4_
     have HB := n5_
     clear n0_ n1_ n2_ n3_ n4_ n5_
     clear hb ho11
     refine hK.out _ _ ⟨(kC BK223.out 0).trans rfl, (kC BK223.out 1).trans rfl, (kC BK223.out 2).trans rfl, (kC BK223.out 3).trans rfl⟩ (fun hHeld => ?_)
     clear hK K
     refine norm_ (a' := ?_) ?_ ?_
     rotate_left
     ·
      show Act.put _ (some 23) _ = _
      simp only [Act.put, List.setIfInBounds_toArray, List.set_cons_zero, List.set_cons_succ, i64_w, i32_w]
      rfl
     refine one_ (i := 0) (N := some 19) #[T_,T_,F_,T_,T_,F_,F_,F_] rfl rfl (one_of HT_.out (by kernel_rfl)) (by decide) (fun K hK => ?_)
     refine Kd.N_lit_step k24 _ 24 ?hg (N' := 19) ?hd (xs := ([] : List (S24))) (inner := []) (ok := (fun k_ => ((P0_ k_ ∨ P1_1_ k_ ∨ P1_2_ k_) ∨ w.heap.size ≤ k_) ∧ some k_ ≠ (v231 : Value).ownBlock ∧ k_ ≠ gb223)) (okp := (fun k_ => ((P0_ k_ ∨ P1_1_ k_ ∨ P1_2_ k_) ∨ w.heap.size ≤ k_) ∧ some k_ ≠ (v231 : Value).ownBlock ∧ k_ ≠ gb223)) ?hr ?hp (fun _ hk => hk) ((show ∀ k_, w10.heap.size ≤ k_ → (fun k_ => ((P0_ k_ ∨ P1_1_ k_ ∨ P1_2_ k_) ∨ w.heap.size ≤ k_) ∧ some k_ ≠ (v231 : Value).ownBlock ∧ k_ ≠ gb223) k_ from fun k_ hk => ⟨(.inr (Nat.le_trans (below_size (by repeat (first | (with_reducible first | exact HB.out | apply bA | apply bN | apply bD | refine bS ?_ GE223.out) | exact HB.out))) hk)), Kd.fresh' (Kd.N_lt (nU HO232.out)) k_ hk, Kd.freshB (g := gb223) (o := .cells #[.int .i64 a1_0, .slice A1_1 l1_1.length c1_1, .slice A1_2 l1_2.length c1_2, .bool a1_3] 24 (0, 0)) (bU BK223.out) k_ hk⟩) _ (Nat.le_refl _)) (Below.refl _ _) (Nat.le_refl _) (by simp) ?_; (case hd => rfl); (case hg => rfl); (case hr => first | (go_simp; done) | (go_simp; rfl)); (case hp => exact (Reps.none _ _))
     intro v225 w12 ho13 hb hg_ hnew_
     clear hg_ hnew_
     (first | rw [← Ny224.out] at ho13 | (simp only [Int.reduceToNat] at ho13; rw [← Ny224.out] at ho13))
     have n0_ := aM (Kd.V_elder' (vU HO0.out) (by first | exact Kd.N_base ho13 | exact Kd.S_base ho13 | exact Kd.R_base ho13) hb)
     have n1_ := aM (Kd.V_elder' (vU HO1_1.out) (by first | exact Kd.N_base ho13 | exact Kd.S_base ho13 | exact Kd.R_base ho13) hb)
     have n2_ := aM (Kd.V_elder' (vU HO1_2.out) (by first | exact Kd.N_base ho13 | exact Kd.S_base ho13 | exact Kd.R_base ho13) hb)
     have n3_ := aM (Kd.N_elder' (nU HO232.out) (by first | exact Kd.N_base ho13 | exact Kd.S_base ho13 | exact Kd.R_base ho13) hb)
     have n4_ := aM (Kd.N_lower ho13 (below_size (by repeat (first | (with_reducible first | exact HB.out | apply bA | apply bN | apply bD | refine bS ?_ GE223.out) | exact HB.out))))
     have n5_ := aM (kB (g := gb223) (o := .cells #[.int .i64 a1_0, .slice A1_1 l1_1.length c1_1, .slice A1_2 l1_2.length c1_2, .bool a1_3] 24 (0, 0)) (bU BK223.out) hb)
     have n6_ := aM (below_step (by repeat (first | (with_reducible first | exact HB.out | apply bA | apply bN | apply bD | refine bS ?_ GE223.out) | exact HB.out)) hb)
     clear HO0
     clear HO1_1
     clear HO1_2
     clear HO232
     clear BK223
     clear HB
     have HO0 := n0_
     have HO1_1 := n1_
     have HO1_2 := n2_
     have HO232 := n3_
     have HO226 := n4_
     have BK223 := n5_
     have HB := n6_
     clear n0_ n1_ n2_ n3_ n4_ n5_ n6_
     clear hb ho13
     refine hK.out _ _ ⟨(kC BK223.out 0).trans rfl, (kC BK223.out 1).trans rfl, (kC BK223.out 2).trans rfl, (kC BK223.out 3).trans rfl⟩ (fun hHeld => ?_)
     clear hK K
     refine norm_ (a' := ?_) ?_ ?_
     rotate_left
     ·
      show Act.put _ (some 19) _ = _
      simp only [Act.put, List.setIfInBounds_toArray, List.set_cons_zero, List.set_cons_succ, i64_w, i32_w]
      rfl
     refine one_ (i := 2) (N := some 21) #[T_,T_,T_,T_,T_,F_,F_,F_] rfl rfl (one_of HT_.out (by kernel_rfl)) (by decide) (fun K hK => ?_)
     refine Kd.N_append_rows_step k24 (w0 := w) w.heap.size (by rfl) (.tmp 19) (.tmp 20) 32 24 (.agg #[(.int .i64 0), (.slice none 0 0), (.slice none 0 0), (.bool false)]) 64 rfl Try.underlying32 info24 rfl (by decide) (by omega) v225 y224 l0 _ _ _ (fun k_ => ((P0_ k_ ∨ P1_1_ k_ ∨ P1_2_ k_) ∨ w.heap.size ≤ k_) ∧ some k_ ≠ (v231 : Value).ownBlock ∧ k_ ≠ gb223) (fun k_ => ((fun k_ => ((P0_ k_ ∨ P1_1_ k_ ∨ P1_2_ k_) ∨ w.heap.size ≤ k_) ∧ some k_ ≠ (v231 : Value).ownBlock ∧ k_ ≠ gb223)) k_ ∧ some k_ ≠ (v225 : Value).ownBlock) rfl rfl ?aO ?aR (fun _ hk => hk) ?aF ?aB ?aS ?aL ?_
     (case aR => exact (by skip; exact Kd.V_F (Kd.V_mono (ok' := (fun k_ => ((fun k_ => ((P0_ k_ ∨ P1_1_ k_ ∨ P1_2_ k_) ∨ w.heap.size ≤ k_) ∧ some k_ ≠ (v231 : Value).ownBlock ∧ k_ ≠ gb223)) k_ ∧ some k_ ≠ (v225 : Value).ownBlock)) (HO0.out) (fun k_ hk => ⟨⟨hk.1.1.1, ⟨hk.1.2, hk.1.1.2⟩⟩, hk.2⟩))))
     (case aB => exact (by repeat (first | (with_reducible first | exact HB.out | apply bA | apply bN | apply bD | refine bS ?_ GE223.out) | exact HB.out)))
     (case aF => exact (fun k_ hk => ⟨(.inr (Nat.le_trans (below_size (by repeat (first | (with_reducible first | exact HB.out | apply bA | apply bN | apply bD | refine bS ?_ GE223.out) | exact HB.out))) hk)), Kd.fresh' (Kd.N_lt (nU HO232.out)) k_ hk, Kd.freshB (g := gb223) (o := .cells #[.int .i64 a1_0, .slice A1_1 l1_1.length c1_1, .slice A1_2 l1_2.length c1_2, .bool a1_3] 24 (0, 0)) (bU BK223.out) k_ hk⟩))
     (case aO => exact (nU HO226.out))
     (case aS => exact (below_size (by repeat (first | (with_reducible first | exact HB.out | apply bA | apply bN | apply bD | refine bS ?_ GE223.out) | exact HB.out))))
     (case aL => have := LMc4.out; omega)
     intro v228 w14 ho hb hg hat
     rw [← Ny227.out] at ho
     have n0_ := aM (Kd.V_afterv (ok := (fun k_ => ((P0_ k_ ∨ P1_1_ k_ ∨ P1_2_ k_) ∨ w.heap.size ≤ k_) ∧ some k_ ≠ (v231 : Value).ownBlock ∧ k_ ≠ gb223)) (by (with_reducible repeat (first | apply Kd.V_alloc | apply Kd.V_drewN | apply Kd.V_drew)); exact Kd.V_mono HO0.out (fun _ hk => ⟨⟨hk.1.1.1, ⟨hk.1.2, hk.1.1.2⟩⟩, hk.2⟩)) hg hat)
     have n1_ := aM (Kd.V_afterv (ok := (fun k_ => ((P0_ k_ ∨ P1_1_ k_ ∨ P1_2_ k_) ∨ w.heap.size ≤ k_) ∧ some k_ ≠ (v231 : Value).ownBlock ∧ k_ ≠ gb223)) (by (with_reducible repeat (first | apply Kd.V_alloc | apply Kd.V_drewN | apply Kd.V_drew)); exact Kd.V_mono HO1_1.out (fun _ hk => ⟨⟨hk.1.1.1, ⟨hk.1.2, hk.1.1.2⟩⟩, hk.2⟩)) hg hat)
     have n2_ := aM (Kd.V_afterv (ok := (fun k_ => ((P0_ k_ ∨ P1_1_ k_ ∨ P1_2_ k_) ∨ w.heap.size ≤ k_) ∧ some k_ ≠ (v231 : Value).ownBlock ∧ k_ ≠ gb223)) (by (with_reducible repeat (first | apply Kd.V_alloc | apply Kd.V_drewN | apply Kd.V_drew)); exact Kd.V_mono HO1_2.out (fun _ hk => ⟨⟨hk.1.1.1, ⟨hk.1.2, hk.1.1.2⟩⟩, hk.2⟩)) hg hat)
     have n3_ := aM (blk_grown (g := gb223) (o := .cells #[.int .i64 a1_0, .slice A1_1 l1_1.length c1_1, .slice A1_2 l1_2.length c1_2, .bool a1_3] 24 (0, 0)) (bU BK223.out) hg (Kd.N_away HO226.out (fun _ hk => hk.2.2)))
     have n4_ := aM (Kd.N_afterv (ok := (fun k_ => ((P0_ k_ ∨ P1_1_ k_ ∨ P1_2_ k_) ∨ w.heap.size ≤ k_) ∧ k_ ≠ gb223)) (nU HO232.out) hg hat)
     have n5_ := aM (hb)
     have n6_ := aM (ho)
     clear HO0
     clear HO1_1
     clear HO1_2
     clear BK223
     clear HO232
     clear HB
     clear HO226
     have HO0 := n0_
     have HO1_1 := n1_
     have HO1_2 := n2_
     have BK223 := n3_
     have HO232 := n4_
     have HB := n5_
     have HO229 := n6_
     clear n0_ n1_ n2_ n3_ n4_ n5_ n6_
     clear ho hb hg hat
     refine hK.out _ _ ⟨(kC BK223.out 0).trans rfl, (kC BK223.out 1).trans rfl, (kC BK223.out 2).trans rfl, (kC BK223.out 3).trans rfl⟩ (fun hHeld => ?_)
     clear hK K
     refine norm_ (a' := ?_) ?_ ?_
     rotate_left
     ·
      show Act.put _ (some 21) _ = _
      simp only [Act.put, List.setIfInBounds_toArray, List.set_cons_zero, List.set_cons_succ, i64_w, i32_w]
      rfl
     exact norm_ (by simp only [putAll, Act.put, List.setIfInBounds_toArray, List.set_cons_zero, List.set_cons_succ]) (hCont (v225, v228, v231) _ ⟨hHeld, (by (with_reducible repeat (first | apply Kd.V_alloc | apply Kd.V_drewN | apply Kd.V_drew)); exact Kd.V_mono HO0.out (fun _ hk => ⟨hk.1.1, ⟨hk.2, ⟨hk.1.2.1, hk.1.2.2⟩⟩⟩)), (by (with_reducible repeat (first | apply Kd.V_alloc | apply Kd.V_drewN | apply Kd.V_drew)); exact Kd.V_mono HO1_1.out (fun _ hk => ⟨hk.1.1, ⟨hk.2, ⟨hk.1.2.1, hk.1.2.2⟩⟩⟩)), (by (with_reducible repeat (first | apply Kd.V_alloc | apply Kd.V_drewN | apply Kd.V_drew)); exact Kd.V_mono HO1_2.out (fun _ hk => ⟨hk.1.1, ⟨hk.2, ⟨hk.1.2.1, hk.1.2.2⟩⟩⟩)), (nU HO229.out), (by (with_reducible repeat (first | apply Kd.N_alloc | apply Kd.N_drewN | apply Kd.N_drew)); exact Kd.N_mono HO232.out (fun _ hk => ⟨hk.1.1, ⟨hk.2, hk.1.2⟩⟩)), (bU BK223.out), (by repeat (first | (with_reducible first | exact HB.out | apply bA | apply bN | apply bD | refine bS ?_ GE223.out) | exact HB.out))⟩)
   rintro ⟨v225, v228, v231⟩ w15 ⟨hS_, h0_, h1_, h2_, h3_, h4_, h5_, h6_⟩
   have n0_ : Aside0 (Kd.V k24 24 w15 w.heap.size (fun k_ => ((P0_ k_ ∨ P1_1_ k_ ∨ P1_2_ k_) ∨ w.heap.size ≤ k_) ∧ some k_ ≠ (v228 : Value).ownBlock ∧ some k_ ≠ (v231 : Value).ownBlock ∧ k_ ≠ gb223) (.slice A0 l0.length c0) l0) := ⟨h0_⟩
   have n1_ : Aside0 (Kd.V (Kd.int .u8) 5 w15 w.heap.size (fun k_ => ((P0_ k_ ∨ P1_1_ k_ ∨ P1_2_ k_) ∨ w.heap.size ≤ k_) ∧ some k_ ≠ (v228 : Value).ownBlock ∧ some k_ ≠ (v231 : Value).ownBlock ∧ k_ ≠ gb223) (.slice A1_1 l1_1.length c1_1) l1_1) := ⟨h1_⟩
   have n2_ : Aside0 (Kd.V (Kd.int .u8) 5 w15 w.heap.size (fun k_ => ((P0_ k_ ∨ P1_1_ k_ ∨ P1_2_ k_) ∨ w.heap.size ≤ k_) ∧ some k_ ≠ (v228 : Value).ownBlock ∧ some k_ ≠ (v231 : Value).ownBlock ∧ k_ ≠ gb223) (.slice A1_2 l1_2.length c1_2) l1_2) := ⟨h2_⟩
   have n3_ : Aside0 (Kd.N k24 24 w15 w.heap.size (fun k_ => ((P0_ k_ ∨ P1_1_ k_ ∨ P1_2_ k_) ∨ w.heap.size ≤ k_) ∧ some k_ ≠ (v231 : Value).ownBlock ∧ k_ ≠ gb223) v228 y227) := ⟨h3_⟩
   have n4_ : Aside0 (Kd.N k24 24 w15 w.heap.size (fun k_ => ((P0_ k_ ∨ P1_1_ k_ ∨ P1_2_ k_) ∨ w.heap.size ≤ k_) ∧ some k_ ≠ (v228 : Value).ownBlock ∧ k_ ≠ gb223) v231 y230) := ⟨h4_⟩
   have n5_ : Aside0 (w15.heap[gb223]? = some (.cells #[.int .i64 a1_0, .slice A1_1 l1_1.length c1_1, .slice A1_2 l1_2.length c1_2, .bool a1_3] 24 (0, 0))) := ⟨h5_⟩
   have n6_ : Aside0 (Below w.heap.size w w15) := ⟨h6_⟩
   clear HO0
   clear HO1_1
   clear HO1_2
   clear BK223
   clear HB
   clear h0_ h1_ h2_ h3_ h4_ h5_ h6_
   have HO0 := n0_
   have HO1_1 := n1_
   have HO1_2 := n2_
   have HO229 := n3_
   have HO232 := n4_
   have BK223 := n5_
   have HB := n6_
   clear n0_ n1_ n2_ n3_ n4_ n5_ n6_
   have hHeld : w15.cell? ⟨gb223, 0, none⟩ = some (.int .i64 a1_0) ∧ w15.cell? ⟨gb223, 1, none⟩ = some (.slice A1_1 l1_1.length c1_1) ∧ w15.cell? ⟨gb223, 2, none⟩ = some (.slice A1_2 l1_2.length c1_2) ∧ w15.cell? ⟨gb223, 3, none⟩ = some (.bool a1_3) := hS_
   obtain ⟨Ao17, co17, eo17⟩ := Kd.N_slice HO232.out
   (first | subst eo17 | (injection eo17 with f1_ f2_ f3_; have f4_ := f1_.symm; have f5_ := f3_.symm; clear f1_ f2_ f3_; subst f4_; subst f5_))
   refine norm_ (a' := ?_) ?_ ?_
   rotate_left
   ·
    simp only [putAll, Act.put, List.setIfInBounds_toArray, List.set_cons_zero, List.set_cons_succ]
    rfl
   refine one_ (i := 5) (N := some 24) #[T_,T_,T_,T_,T_,T_,F_,F_] rfl rfl (one_of HT_.out (by kernel_rfl)) (by decide) (fun K hK => ?_)
   refine Kd.N_append_rows_step k24 (w0 := w) w.heap.size (by rfl) (.tmp 21) (.tmp 23) 32 24 (.agg #[(.int .i64 0), (.slice none 0 0), (.slice none 0 0), (.bool false)]) 64 rfl Try.underlying32 info24 rfl (by decide) (by omega) v228 y227 y230 _ _ _ (fun k_ => ((P0_ k_ ∨ P1_1_ k_ ∨ P1_2_ k_) ∨ w.heap.size ≤ k_) ∧ k_ ≠ gb223) (fun k_ => ((fun k_ => ((P0_ k_ ∨ P1_1_ k_ ∨ P1_2_ k_) ∨ w.heap.size ≤ k_) ∧ k_ ≠ gb223)) k_ ∧ some k_ ≠ (v228 : Value).ownBlock) rfl rfl ?aO ?aR (fun _ hk => hk) ?aF ?aB ?aS ?aL ?_
   (case aR => exact (by skip; exact Kd.N_F (Kd.N_mono (ok' := (fun k_ => ((fun k_ => ((P0_ k_ ∨ P1_1_ k_ ∨ P1_2_ k_) ∨ w.heap.size ≤ k_) ∧ k_ ≠ gb223)) k_ ∧ some k_ ≠ (v228 : Value).ownBlock)) (HO232.out) (fun k_ hk => ⟨⟨hk.1, hk.2.2⟩, hk.2.1⟩))))
   (case aB => exact (by repeat (first | (with_reducible first | exact HB.out | apply bA | apply bN | apply bD | refine bS ?_ GE223.out) | exact HB.out)))
   (case aF => exact (fun k_ hk => ⟨(.inr (Nat.le_trans (below_size (by repeat (first | (with_reducible first | exact HB.out | apply bA | apply bN | apply bD | refine bS ?_ GE223.out) | exact HB.out))) hk)), Kd.freshB (g := gb223) (o := .cells #[.int .i64 a1_0, .slice A1_1 l1_1.length c1_1, .slice A1_2 l1_2.length c1_2, .bool a1_3] 24 (0, 0)) (bU BK223.out) k_ hk⟩))
   (case aO => exact (by (with_reducible repeat (first | apply Kd.N_alloc | apply Kd.N_drewN | apply Kd.N_drew)); exact Kd.N_mono HO229.out (fun _ hk => ⟨hk.1, hk.2.2⟩)))
   (case aS => exact (below_size (by repeat (first | (with_reducible first | exact HB.out | apply bA | apply bN | apply bD | refine bS ?_ GE223.out) | exact HB.out))))
   (case aL => have := LMc5.out; omega)
   intro v234 w16 ho hb hg hat
   rw [← Ny233.out] at ho
   have n0_ := aM (Kd.V_afterv (ok := (fun k_ => ((P0_ k_ ∨ P1_1_ k_ ∨ P1_2_ k_) ∨ w.heap.size ≤ k_) ∧ some k_ ≠ (.slice Ao17 y230.length co17 : Value).ownBlock ∧ k_ ≠ gb223)) (by (with_reducible repeat (first | apply Kd.V_alloc | apply Kd.V_drewN | apply Kd.V_drew)); exact Kd.V_mono HO0.out (fun _ hk => ⟨⟨hk.1, ⟨hk.2.2.1, hk.2.2.2⟩⟩, hk.2.1⟩)) hg hat)
   have n1_ := aM (Kd.V_afterv (ok := (fun k_ => ((P0_ k_ ∨ P1_1_ k_ ∨ P1_2_ k_) ∨ w.heap.size ≤ k_) ∧ some k_ ≠ (.slice Ao17 y230.length co17 : Value).ownBlock ∧ k_ ≠ gb223)) (by (with_reducible repeat (first | apply Kd.V_alloc | apply Kd.V_drewN | apply Kd.V_drew)); exact Kd.V_mono HO1_1.out (fun _ hk => ⟨⟨hk.1, ⟨hk.2.2.1, hk.2.2.2⟩⟩, hk.2.1⟩)) hg hat)
   have n2_ := aM (Kd.V_afterv (ok := (fun k_ => ((P0_ k_ ∨ P1_1_ k_ ∨ P1_2_ k_) ∨ w.heap.size ≤ k_) ∧ some k_ ≠ (.slice Ao17 y230.length co17 : Value).ownBlock ∧ k_ ≠ gb223)) (by (with_reducible repeat (first | apply Kd.V_alloc | apply Kd.V_drewN | apply Kd.V_drew)); exact Kd.V_mono HO1_2.out (fun _ hk => ⟨⟨hk.1, ⟨hk.2.2.1, hk.2.2.2⟩⟩, hk.2.1⟩)) hg hat)
   have n3_ := aM (blk_grown (g := gb223) (o := .cells #[.int .i64 a1_0, .slice A1_1 l1_1.length c1_1, .slice A1_2 l1_2.length c1_2, .bool a1_3] 24 (0, 0)) (bU BK223.out) hg (Kd.N_away HO229.out (fun _ hk => hk.2.2)))
   have n4_ := aM (Kd.N_afterv (ok := (fun k_ => ((P0_ k_ ∨ P1_1_ k_ ∨ P1_2_ k_) ∨ w.heap.size ≤ k_) ∧ k_ ≠ gb223)) (by (with_reducible repeat (first | apply Kd.N_alloc | apply Kd.N_drewN | apply Kd.N_drew)); exact Kd.N_mono HO232.out (fun _ hk => ⟨⟨hk.1, hk.2.2⟩, hk.2.1⟩)) hg hat)
   have n5_ := aM (hb)
   have n6_ := aM (ho)
   clear HO0
   clear HO1_1
   clear HO1_2
   clear BK223
   clear HO232
   clear HB
   clear HO229
   have HO0 := n0_
   have HO1_1 := n1_
   have HO1_2 := n2_
   have BK223 := n3_
   have HO232 := n4_
   have HB := n5_
   have HO235 := n6_
   clear n0_ n1_ n2_ n3_ n4_ n5_ n6_
   clear ho hb hg hat
   obtain ⟨Ao18, co18, eo18⟩ := Kd.N_slice HO235.out
   (first | subst eo18 | (injection eo18 with f1_ f2_ f3_; have f4_ := f1_.symm; have f5_ := f3_.symm; clear f1_ f2_ f3_; subst f4_; subst f5_))
   refine hK.out _ _ ⟨(kC BK223.out 0).trans rfl, (kC BK223.out 1).trans rfl, (kC BK223.out 2).trans rfl, (kC BK223.out 3).trans rfl⟩ (fun hHeld => ?_)
   clear hK K
   refine norm_ (a' := ?_) ?_ ?_
   rotate_left
   ·
    show Act.put _ (some 24) _ = _
    simp only [Act.put, List.setIfInBounds_toArray, List.set_cons_zero, List.set_cons_succ, i64_w, i32_w]
    rfl
   refine one_ (i := 6) (N := some 25) #[T_,T_,T_,T_,T_,T_,T_,F_] rfl rfl (one_of HT_.out (by kernel_rfl)) (by decide) (fun K hK => ?_)
   refine goes_ Try.func41 (by kernel_rfl) rfl #[.slice Ao18 y233.length co18] (by rfl) rfl rfl (by (try simp only [List.map_toArray, List.map_cons, List.map_nil]); first | done | rfl | (simp only [List.length_drop, List.length_take]; rfl)) ?_
   with_reducible refine (banksmanref10_may.calls k _ _ y233 t236 _ ?side1 ?side2 A6.out).mono ?_
   (case side1 => repeat (first | exact (Kd.N_reads' HO235.out).2.2 | (with_reducible refine Kd.C_alloc ?_ _) | (with_reducible refine Kd.C_drewN ?_ _) | (with_reducible refine Kd.C_drew ?_)))
   (case side2 => exact (Kd.N_reads' HO235.out).2.1)
   rintro e w19 ⟨rfl, hb⟩
   refine ⟨_, rfl, ?_⟩
   have n0_ := aM (vB (vU HO0.out) hb)
   have n1_ := aM (vB (vU HO1_1.out) hb)
   have n2_ := aM (vB (vU HO1_2.out) hb)
   have n3_ := aM (Kd.N_below (nU HO232.out) hb)
   have n4_ := aM (Kd.N_below (nU HO235.out) hb)
   have n5_ := aM (kB (g := gb223) (o := .cells #[.int .i64 a1_0, .slice A1_1 l1_1.length c1_1, .slice A1_2 l1_2.length c1_2, .bool a1_3] 24 (0, 0)) (bU BK223.out) hb)
   have n6_ := aM (below_step (by repeat (first | (with_reducible first | exact HB.out | apply bA | apply bN | apply bD | refine bS ?_ GE223.out) | exact HB.out)) hb)
   clear HO0
   clear HO1_1
   clear HO1_2
   clear HO232
   clear HO235
   clear BK223
   clear HB
   have HO0 := n0_
   have HO1_1 := n1_
   have HO1_2 := n2_
   have HO232 := n3_
   have HO235 := n4_
   have BK223 := n5_
   have HB := n6_
   clear n0_ n1_ n2_ n3_ n4_ n5_ n6_
   (try clear hb)
   (try clear hb2)
   (try clear hk)
   (try clear hi)
   refine hK.out _ _ ⟨(kC BK223.out 0).trans rfl, (kC BK223.out 1).trans rfl, (kC BK223.out 2).trans rfl, (kC BK223.out 3).trans rfl⟩ (fun hHeld => ?_)
   clear hK K
   refine norm_ (a' := ?_) ?_ ?_
   rotate_left
   ·
    show Act.put _ (some 25) _ = _
    simp only [Act.put, List.setIfInBounds_toArray, List.set_cons_zero, List.set_cons_succ, i64_w, i32_w]
    rfl
   refine pure_ (i := 7) (N := some 8) (v := ?_) (a' := ?_) #[T_,T_,T_,T_,T_,T_,T_,T_] rfl rfl (any_of HT_.out (by kernel_rfl)) (fun _ _ _ h => h) (Or.inl ⟨by rfl, ?_⟩) ?_ ?_
   rotate_left
   ·
    intro w'
    go_simp
    with_reducible rfl
   rotate_left
   ·
    simp only [Act.put, List.setIfInBounds_toArray, List.set_cons_zero, List.set_cons_succ, i64_w, i32_w]
    rfl
   refine done_ (done_of HT_.out (by kernel_rfl)) ?_
   go_upto_region 2 with (fail)
   go_cut [35] (fun v35 wc => ∃ (kq : Nat) (x35_6 : Bool), v35 = .bool x35_6 ∧ Aside0 (banksmanref10_Add.j0 kq l0 a2 x35_6 a1_0 l1_1 l1_2 a1_3 = some (r1, r2)) ∧ Aside0 (kq ≤ k) ∧ Aside0 (Kd.V k24 24 wc w.heap.size (fun k_ => ((P0_ k_ ∨ P1_1_ k_ ∨ P1_2_ k_) ∨ w.heap.size ≤ k_) ∧ k_ ≠ gb223) (.slice A0 l0.length c0) l0) ∧ Aside0 (Kd.V (Kd.int .u8) 5 wc w.heap.size (fun k_ => ((P0_ k_ ∨ P1_1_ k_ ∨ P1_2_ k_) ∨ w.heap.size ≤ k_) ∧ k_ ≠ gb223) (.slice A1_1 l1_1.length c1_1) l1_1) ∧ Aside0 (Kd.V (Kd.int .u8) 5 wc w.heap.size (fun k_ => ((P0_ k_ ∨ P1_1_ k_ ∨ P1_2_ k_) ∨ w.heap.size ≤ k_) ∧ k_ ≠ gb223) (.slice A1_2 l1_2.length c1_2) l1_2) ∧ Aside0 (wc.heap[gb223]? = some (.cells #[.int .i64 a1_0, (.slice A1_1 l1_1.length c1_1), (.slice A1_2 l1_2.length c1_2), .bool a1_3] 24 (0, 0))) ∧ Aside0 (Below w.heap.size w wc))
   case first =>
    have H := HC7.out
    clear HC7
    by_cases c20 : t236 = true
    ·
     subst c20
     have H1 : (if a2 < 1 then (banksmanref10_Add.j0 k l0 a2 true a1_0 l1_1 l1_2 a1_3) else (banksmanref10_Add.j0 k l0 a2 (decide (a2 > 100)) a1_0 l1_1 l1_2 a1_3)) = some (r1, r2) := by rw [if_pos rfl] at H; exact H
     clear H
     have H := H1
     clear H1
     by_cases c21 : a2 < 1
     ·
      rw [if_pos c21] at H
      have c21b0 : decide (a2 < 1) = true := decide_eq_true c21
      clear c21
      (first | rw [c21b0] | (simp only [i64_w, i32_w]; rw [c21b0]) | skip)
      have H' := aM H
      clear H
      go_wp2
      go_meet
      case rel => exact ⟨_, (true), (by first | rfl | (simp; done) | (simp [*]; done)), H', ⟨by first | omega | exact Nat.le_refl _⟩, ⟨by (with_reducible repeat (first | apply Kd.V_alloc | apply Kd.V_drewN | apply Kd.V_drew)); exact Kd.V_mono HO0.out (fun _ hk => ⟨hk.1.1, hk.1.2.2⟩)⟩, ⟨by (with_reducible repeat (first | apply Kd.V_alloc | apply Kd.V_drewN | apply Kd.V_drew)); exact Kd.V_mono HO1_1.out (fun _ hk => ⟨hk.1.1, hk.1.2.2⟩)⟩, ⟨by (with_reducible repeat (first | apply Kd.V_alloc | apply Kd.V_drewN | apply Kd.V_drew)); exact Kd.V_mono HO1_2.out (fun _ hk => ⟨hk.1.1, hk.1.2.2⟩)⟩, ⟨by (with_reducible repeat (first | refine blk_drewN ?_ _ | refine blk_drew ?_ | refine blk_alloc ?_ _)); exact BK223.out⟩, ⟨by repeat (first | (with_reducible first | exact HB.out | apply bA | apply bN | apply bD | refine bS ?_ GE223.out) | exact HB.out)⟩⟩
     ·
      rw [if_neg c21] at H
      have c21b0 : decide (a2 < 1) = false := decide_eq_false c21
      clear c21
      (first | rw [c21b0] | (simp only [i64_w, i32_w]; rw [c21b0]) | skip)
      have H' := aM H
      clear H
      go_wp2
      go_meet
      case rel => exact ⟨_, (decide (a2 > 100)), (by first | rfl | (simp; done) | (simp [*]; done)), H', ⟨by first | omega | exact Nat.le_refl _⟩, ⟨by (with_reducible repeat (first | apply Kd.V_alloc | apply Kd.V_drewN | apply Kd.V_drew)); exact Kd.V_mono HO0.out (fun _ hk => ⟨hk.1.1, hk.1.2.2⟩)⟩, ⟨by (with_reducible repeat (first | apply Kd.V_alloc | apply Kd.V_drewN | apply Kd.V_drew)); exact Kd.V_mono HO1_1.out (fun _ hk => ⟨hk.1.1, hk.1.2.2⟩)⟩, ⟨by (with_reducible repeat (first | apply Kd.V_alloc | apply Kd.V_drewN | apply Kd.V_drew)); exact Kd.V_mono HO1_2.out (fun _ hk => ⟨hk.1.1, hk.1.2.2⟩)⟩, ⟨by (with_reducible repeat (first | refine blk_drewN ?_ _ | refine blk_drew ?_ | refine blk_alloc ?_ _)); exact BK223.out⟩, ⟨by repeat (first | (with_reducible first | exact HB.out | apply bA | apply bN | apply bD | refine bS ?_ GE223.out) | exact HB.out)⟩⟩
    ·
     replace c20 := Bool.eq_false_iff.mpr c20
     subst c20
     have H1 : (banksmanref10_Add.j0 k l0 a2 true a1_0 l1_1 l1_2 a1_3) = some (r1, r2) := by rw [if_neg (show ¬ (false = true) by decide)] at H; exact H
     clear H
     have H := H1
     clear H1
     have H' := aM H
     clear H
     go_wp2
     go_meet
     case rel => exact ⟨_, (true), (by first | rfl | (simp; done) | (simp [*]; done)), H', ⟨by first | omega | exact Nat.le_refl _⟩, ⟨by (with_reducible repeat (first | apply Kd.V_alloc | apply Kd.V_drewN | apply Kd.V_drew)); exact Kd.V_mono HO0.out (fun _ hk => ⟨hk.1.1, hk.1.2.2⟩)⟩, ⟨by (with_reducible repeat (first | apply Kd.V_alloc | apply Kd.V_drewN | apply Kd.V_drew)); exact Kd.V_mono HO1_1.out (fun _ hk => ⟨hk.1.1, hk.1.2.2⟩)⟩, ⟨by (with_reducible repeat (first | apply Kd.V_alloc | apply Kd.V_drewN | apply Kd.V_drew)); exact Kd.V_mono HO1_2.out (fun _ hk => ⟨hk.1.1, hk.1.2.2⟩)⟩, ⟨by (with_reducible repeat (first | refine blk_drewN ?_ _ | refine blk_drew ?_ | refine blk_alloc ?_ _)); exact BK223.out⟩, ⟨by repeat (first | (with_reducible first | exact HB.out | apply bA | apply bN | apply bD | refine bS ?_ GE223.out) | exact HB.out)⟩⟩
   case rest =>
    clear HC7
    try clear c1
    try clear c2
    try clear p2
    try clear c4
    try clear c5
    try clear c20
    try clear c21
    try clear c21b0
    obtain ⟨kq, x35_6, rfl, HA, HJ6, HO_0, HOq0, HOq1, BK223, HB⟩ := hcut
    cases kq with
    | zero => exact absurd HA.out (by simp [banksmanref10_Add.j0])
    | succ kj6 =>
     have H := HA.out
     clear HA
     simp only [banksmanref10_Add.j0] at H
     by_cases c22 : x35_6 = true
     ·
      subst c22
      have H1 : ((banksmanref10_Copy.f kj6 l0).bind fun t237 => (some (t237, 1))) = some (r1, r2) := by rw [if_pos rfl] at H; exact H
      clear H
      have H := H1
      clear H1
      replace H := Option.bind_eq_some_iff.mp H
      obtain ⟨t237, A230, H⟩ := H
      replace H : (some (t237, 1)) = some (r1, r2) := H
      have A23 := aM A230
      clear A230
      simp only [Option.some.injEq, Prod.mk.injEq] at H
      obtain ⟨rfl, rfl⟩ := H
      go_wp2_with (first | ((with_reducible refine gate_callee (f := 42) rfl ?_); refine goesL_ (some 37) rfl rfl Try.func42 (by kernel_rfl) rfl #[.slice A0 l0.length c0] rfl (by (try simp only [List.map_toArray, List.map_cons, List.map_nil]); first | done | rfl | (simp only [List.length_drop, List.length_take]; rfl)) ?_; (with_reducible refine (banksmanref10_Copy.calls kj6 _ _ l0 t237 _ ?side1 ?side2 A23.out).mono ?_); (case side1 => repeat (first | exact (Kd.V_reads' HO_0.out).2.2 | (with_reducible refine Kd.C_alloc ?_ _) | (with_reducible refine Kd.C_drewN ?_ _) | (with_reducible refine Kd.C_drew ?_))); (case side2 => exact (Kd.V_reads' HO_0.out).2.1); rintro e w24 ⟨v238, rfl, ho0, hb⟩; refine ⟨_, rfl, ?_⟩; replace HO_0 := aM (Kd.V_elder' (vU HO_0.out) (by first | exact Kd.N_base ho0 | exact Kd.S_base ho0 | exact Kd.R_base ho0) hb); replace HOq0 := aM (Kd.V_elder' (vU HOq0.out) (by first | exact Kd.N_base ho0 | exact Kd.S_base ho0 | exact Kd.R_base ho0) hb); replace HOq1 := aM (Kd.V_elder' (vU HOq1.out) (by first | exact Kd.N_base ho0 | exact Kd.S_base ho0 | exact Kd.R_base ho0) hb); have HO239 := aM (Kd.N_lower (Kd.N_mono (ok' := fun k_ => ((P0_ k_ ∨ P1_1_ k_ ∨ P1_2_ k_) ∨ w.heap.size ≤ k_) ∧ k_ ≠ gb223) (Kd.S_N (Kd.S_bound ho0)) (fun k_ hk_ => ⟨(.inr (Nat.le_trans (below_size (by repeat (first | (with_reducible first | exact HB.out | apply bA | apply bN | apply bD | refine bS ?_ GE223.out) | exact HB.out))) hk_.2.1)), (Kd.freshB (g := gb223) (o := .cells #[.int .i64 a1_0, .slice A1_1 l1_1.length c1_1, .slice A1_2 l1_2.length c1_2, .bool a1_3] 24 (0, 0)) (bU BK223.out) k_ hk_.2.1)⟩)) (below_size (by repeat (first | (with_reducible first | exact HB.out | apply bA | apply bN | apply bD | refine bS ?_ GE223.out) | exact HB.out)))); replace BK223 := aM (kB (g := gb223) (o := .cells #[.int .i64 a1_0, .slice A1_1 l1_1.length c1_1, .slice A1_2 l1_2.length c1_2, .bool a1_3] 24 (0, 0)) (bU BK223.out) hb); replace HB := aM (below_step (by repeat (first | (with_reducible first | exact HB.out | apply bA | apply bN | apply bD | refine bS ?_ GE223.out) | exact HB.out)) hb); (try clear hb); (try clear hk)))
      go_ret2
      exact ⟨_, by first | rfl | (simp [errW_none, errW_some] <;> rfl) | (simp [*, errW_none, errW_some] <;> rfl), by (with_reducible repeat (first | apply Kd.N_alloc | apply Kd.N_drewN | apply Kd.N_drew)); exact Kd.N_mono HO239.out (fun _ hk => hk.1), by repeat (first | (with_reducible first | exact HB.out | apply bA | apply bN | apply bD | refine bS ?_ GE223.out) | exact HB.out)⟩
     ·
      replace c22 := Bool.eq_false_iff.mpr c22
      subst c22
      have H1 : ((banksmanref10_Empty.f a1_0 l1_1 l1_2 a1_3).bind fun t240 => (if t240 = true then ((banksmanref10_Copy.f kj6 l0).bind fun t241 => (some (t241, 0))) else (banksmanref10_Add.l0 kj6 l0 a2 ([] : List (S24)) 0 a1_0 l1_1 l1_2 a1_3))) = some (r1, r2) := by rw [if_neg (show ¬ (false = true) by decide)] at H; exact H
      clear H
      have H := H1
      clear H1
      replace H := Option.bind_eq_some_iff.mp H
      obtain ⟨t240, A250, H⟩ := H
      replace H : (if t240 = true then ((banksmanref10_Copy.f kj6 l0).bind fun t241 => (some (t241, 0))) else (banksmanref10_Add.l0 kj6 l0 a2 ([] : List (S24)) 0 a1_0 l1_1 l1_2 a1_3)) = some (r1, r2) := H
      have A25 := aM A250
      clear A250
      by_cases c26 : t240 = true
      ·
       subst c26
       have H1 : ((banksmanref10_Copy.f kj6 l0).bind fun t241 => (some (t241, 0))) = some (r1, r2) := by rw [if_pos rfl] at H; exact H
       clear H
       have H := H1
       clear H1
       replace H := Option.bind_eq_some_iff.mp H
       obtain ⟨t241, A270, H⟩ := H
       replace H : (some (t241, 0)) = some (r1, r2) := H
       have A27 := aM A270
       clear A270
       simp only [Option.some.injEq, Prod.mk.injEq] at H
       obtain ⟨rfl, rfl⟩ := H
       have hcz28_0 : wc.cell? ⟨gb223, 0, none⟩ = some (.int .i64 a1_0) := (kC BK223.out 0).trans rfl
       have hcz28_1 : wc.cell? ⟨gb223, 1, none⟩ = some (.slice A1_1 l1_1.length c1_1) := (kC BK223.out 1).trans rfl
       have hcz28_2 : wc.cell? ⟨gb223, 2, none⟩ = some (.slice A1_2 l1_2.length c1_2) := (kC BK223.out 2).trans rfl
       have hcz28_3 : wc.cell? ⟨gb223, 3, none⟩ = some (.bool a1_3) := (kC BK223.out 3).trans rfl
       have hfz28_0 := kF BK223.out 0
       have hfz28_1 := kF BK223.out 1
       have hfz28_2 := kF BK223.out 2
       have hfz28_3 := kF BK223.out 3
       go_wp2_with (first | ((with_reducible refine gate_callee (f := 17) rfl ?_); refine goesL_ (some 39) rfl rfl Try.func17 (by kernel_rfl) rfl #[.agg #[.int .i64 a1_0, .slice A1_1 l1_1.length c1_1, .slice A1_2 l1_2.length c1_2, .bool a1_3]] rfl (by (try simp only [List.map_toArray, List.map_cons, List.map_nil]); first | done | rfl | (simp only [List.length_drop, List.length_take]; rfl)) ?_; (with_reducible refine (banksmanref10_Empty.calls a1_0 _ _ l1_1 _ _ l1_2 a1_3 true _ ?side1 ?side2 ?side3 ?side4 A25.out).mono ?_); (case side1 => repeat (first | exact (Kd.V_reads' HOq0.out).2.2 | (with_reducible refine Kd.C_alloc ?_ _) | (with_reducible refine Kd.C_drewN ?_ _) | (with_reducible refine Kd.C_drew ?_))); (case side2 => exact (Kd.V_reads' HOq0.out).2.1); (case side3 => repeat (first | exact (Kd.V_reads' HOq1.out).2.2 | (with_reducible refine Kd.C_alloc ?_ _) | (with_reducible refine Kd.C_drewN ?_ _) | (with_reducible refine Kd.C_drew ?_))); (case side4 => exact (Kd.V_reads' HOq1.out).2.1); rintro e w29 ⟨rfl, hb⟩; refine ⟨_, rfl, ?_⟩; replace HO_0 := aM (vB (vU HO_0.out) hb); replace HOq0 := aM (vB (vU HOq0.out) hb); replace HOq1 := aM (vB (vU HOq1.out) hb); replace BK223 := aM (kB (g := gb223) (o := .cells #[.int .i64 a1_0, .slice A1_1 l1_1.length c1_1, .slice A1_2 l1_2.length c1_2, .bool a1_3] 24 (0, 0)) (bU BK223.out) hb); replace HB := aM (below_step (by repeat (first | (with_reducible first | exact HB.out | apply bA | apply bN | apply bD | refine bS ?_ GE223.out) | exact HB.out)) hb); (try clear hb); (try clear hb2); (try clear hk); (try clear hi)) | ((with_reducible refine gate_callee (f := 42) rfl ?_); refine goesL_ (some 42) rfl rfl Try.func42 (by kernel_rfl) rfl #[.slice A0 l0.length c0] rfl (by (try simp only [List.map_toArray, List.map_cons, List.map_nil]); first | done | rfl | (simp only [List.length_drop, List.length_take]; rfl)) ?_; (with_reducible refine (banksmanref10_Copy.calls kj6 _ _ l0 t241 _ ?side1 ?side2 A27.out).mono ?_); (case side1 => repeat (first | exact (Kd.V_reads' HO_0.out).2.2 | (with_reducible refine Kd.C_alloc ?_ _) | (with_reducible refine Kd.C_drewN ?_ _) | (with_reducible refine Kd.C_drew ?_))); (case side2 => exact (Kd.V_reads' HO_0.out).2.1); rintro e w30 ⟨v242, rfl, ho0, hb⟩; refine ⟨_, rfl, ?_⟩; replace HO_0 := aM (Kd.V_elder' (vU HO_0.out) (by first | exact Kd.N_base ho0 | exact Kd.S_base ho0 | exact Kd.R_base ho0) hb); replace HOq0 := aM (Kd.V_elder' (vU HOq0.out) (by first | exact Kd.N_base ho0 | exact Kd.S_base ho0 | exact Kd.R_base ho0) hb); replace HOq1 := aM (Kd.V_elder' (vU HOq1.out) (by first | exact Kd.N_base ho0 | exact Kd.S_base ho0 | exact Kd.R_base ho0) hb); have HO243 := aM (Kd.N_lower (Kd.N_mono (ok' := fun k_ => ((P0_ k_ ∨ P1_1_ k_ ∨ P1_2_ k_) ∨ w.heap.size ≤ k_) ∧ k_ ≠ gb223) (Kd.S_N (Kd.S_bound ho0)) (fun k_ hk_ => ⟨(.inr (Nat.le_trans (below_size (by repeat (first | (with_reducible first | exact HB.out | apply bA | apply bN | apply bD | refine bS ?_ GE223.out) | exact HB.out))) hk_.2.1)), (Kd.freshB (g := gb223) (o := .cells #[.int .i64 a1_0, .slice A1_1 l1_1.length c1_1, .slice A1_2 l1_2.length c1_2, .bool a1_3] 24 (0, 0)) (bU BK223.out) k_ hk_.2.1)⟩)) (below_size (by repeat (first | (with_reducible first | exact HB.out | apply bA | apply bN | apply bD | refine bS ?_ GE223.out) | exact HB.out)))); replace BK223 := aM (kB (g := gb223) (o := .cells #[.int .i64 a1_0, .slice A1_1 l1_1.length c1_1, .slice A1_2 l1_2.length c1_2, .bool a1_3] 24 (0, 0)) (bU BK223.out) hb); replace HB := aM (below_step (by repeat (first | (with_reducible first | exact HB.out | apply bA | apply bN | apply bD | refine bS ?_ GE223.out) | exact HB.out)) hb); (try clear hb); (try clear hk)))
       go_ret2
       exact ⟨_, by first | rfl | (simp [errW_none, errW_some] <;> rfl) | (simp [*, errW_none, errW_some] <;> rfl), by (with_reducible repeat (first | apply Kd.N_alloc | apply Kd.N_drewN | apply Kd.N_drew)); exact Kd.N_mono HO243.out (fun _ hk => hk.1), by repeat (first | (with_reducible first | exact HB.out | apply bA | apply bN | apply bD | refine bS ?_ GE223.out) | exact HB.out)⟩
      ·
       replace c26 := Bool.eq_false_iff.mpr c26
       subst c26
       have H1 : (banksmanref10_Add.l0 kj6 l0 a2 ([] : List (S24)) 0 a1_0 l1_1 l1_2 a1_3) = some (r1, r2) := by rw [if_neg (show ¬ (false = true) by decide)] at H; exact H
       clear H
       have H := H1
       clear H1
       have H' := aM H
       clear H
       have hcz31_0 : wc.cell? ⟨gb223, 0, none⟩ = some (.int .i64 a1_0) := (kC BK223.out 0).trans rfl
       have hcz31_1 : wc.cell? ⟨gb223, 1, none⟩ = some (.slice A1_1 l1_1.length c1_1) := (kC BK223.out 1).trans rfl
       have hcz31_2 : wc.cell? ⟨gb223, 2, none⟩ = some (.slice A1_2 l1_2.length c1_2) := (kC BK223.out 2).trans rfl
       have hcz31_3 : wc.cell? ⟨gb223, 3, none⟩ = some (.bool a1_3) := (kC BK223.out 3).trans rfl
       have hfz31_0 := kF BK223.out 0
       have hfz31_1 := kF BK223.out 1
       have hfz31_2 := kF BK223.out 2
       have hfz31_3 := kF BK223.out 3
       go_wp2_with (first | ((with_reducible refine gate_callee (f := 17) rfl ?_); refine goesL_ (some 39) rfl rfl Try.func17 (by kernel_rfl) rfl #[.agg #[.int .i64 a1_0, .slice A1_1 l1_1.length c1_1, .slice A1_2 l1_2.length c1_2, .bool a1_3]] rfl (by (try simp only [List.map_toArray, List.map_cons, List.map_nil]); first | done | rfl | (simp only [List.length_drop, List.length_take]; rfl)) ?_; (with_reducible refine (banksmanref10_Empty.calls a1_0 _ _ l1_1 _ _ l1_2 a1_3 false _ ?side1 ?side2 ?side3 ?side4 A25.out).mono ?_); (case side1 => repeat (first | exact (Kd.V_reads' HOq0.out).2.2 | (with_reducible refine Kd.C_alloc ?_ _) | (with_reducible refine Kd.C_drewN ?_ _) | (with_reducible refine Kd.C_drew ?_))); (case side2 => exact (Kd.V_reads' HOq0.out).2.1); (case side3 => repeat (first | exact (Kd.V_reads' HOq1.out).2.2 | (with_reducible refine Kd.C_alloc ?_ _) | (with_reducible refine Kd.C_drewN ?_ _) | (with_reducible refine Kd.C_drew ?_))); (case side4 => exact (Kd.V_reads' HOq1.out).2.1); rintro e w32 ⟨rfl, hb⟩; refine ⟨_, rfl, ?_⟩; replace HO_0 := aM (vB (vU HO_0.out) hb); replace HOq0 := aM (vB (vU HOq0.out) hb); replace HOq1 := aM (vB (vU HOq1.out) hb); replace BK223 := aM (kB (g := gb223) (o := .cells #[.int .i64 a1_0, .slice A1_1 l1_1.length c1_1, .slice A1_2 l1_2.length c1_2, .bool a1_3] 24 (0, 0)) (bU BK223.out) hb); replace HB := aM (below_step (by repeat (first | (with_reducible first | exact HB.out | apply bA | apply bN | apply bD | refine bS ?_ GE223.out) | exact HB.out)) hb); (try clear hb); (try clear hb2); (try clear hk); (try clear hi)))
       go_loopg [10, 11] kj6 (fun kq v10 v11 w' => ∃ (x10_2 : List (S24)) (x11_2 : Int), v11 = .int .i64 x11_2 ∧ Aside0 (banksmanref10_Add.l0 kq l0 a2 x10_2 x11_2 a1_0 l1_1 l1_2 a1_3 = some (r1, r2)) ∧ Aside0 (kq ≤ kj6) ∧ Aside0 (Kd.V k24 24 w' w.heap.size (fun k_ => ((P0_ k_ ∨ P1_1_ k_ ∨ P1_2_ k_) ∨ w.heap.size ≤ k_) ∧ some k_ ≠ (v10 : Value).ownBlock ∧ k_ ≠ gb223) (.slice A0 l0.length c0) l0) ∧ Aside0 (Kd.N k24 24 w' w.heap.size (fun k_ => ((P0_ k_ ∨ P1_1_ k_ ∨ P1_2_ k_) ∨ w.heap.size ≤ k_) ∧ k_ ≠ gb223) v10 x10_2) ∧ Aside0 (Kd.V (Kd.int .u8) 5 w' w.heap.size (fun k_ => ((P0_ k_ ∨ P1_1_ k_ ∨ P1_2_ k_) ∨ w.heap.size ≤ k_) ∧ some k_ ≠ (v10 : Value).ownBlock ∧ k_ ≠ gb223) (.slice A1_1 l1_1.length c1_1) l1_1) ∧ Aside0 (Kd.V (Kd.int .u8) 5 w' w.heap.size (fun k_ => ((P0_ k_ ∨ P1_1_ k_ ∨ P1_2_ k_) ∨ w.heap.size ≤ k_) ∧ some k_ ≠ (v10 : Value).ownBlock ∧ k_ ≠ gb223) (.slice A1_2 l1_2.length c1_2) l1_2) ∧ Aside0 (w'.heap[gb223]? = some (.cells #[.int .i64 a1_0, (.slice A1_1 l1_1.length c1_1), (.slice A1_2 l1_2.length c1_2), .bool a1_3] 24 (0, 0))) ∧ Aside0 (Below w.heap.size w w'))
       case atStart => exact ⟨(([] : List (S24))), (0), (by first | rfl | (simp; done) | (simp [*]; done)), H', ⟨Nat.le_refl _⟩, ⟨by (with_reducible repeat (first | apply Kd.V_alloc | apply Kd.V_drewN | apply Kd.V_drew)); exact Kd.V_mono HO_0.out (fun _ hk => ⟨hk.1, ⟨(by simp [Value.ownBlock]), hk.2⟩⟩)⟩, ⟨by first | exact Kd.S_nil _ _ _ _ _ | exact Kd.N_nil _ _ _ _ _ | exact Kd.V_nil _ _ _ _ _ | exact Kd.Q_nil _ _ _ _ _ | exact Kd.R_nil _ _ _ _ _⟩, ⟨by (with_reducible repeat (first | apply Kd.V_alloc | apply Kd.V_drewN | apply Kd.V_drew)); exact Kd.V_mono HOq0.out (fun _ hk => ⟨hk.1, ⟨(by simp [Value.ownBlock]), hk.2⟩⟩)⟩, ⟨by (with_reducible repeat (first | apply Kd.V_alloc | apply Kd.V_drewN | apply Kd.V_drew)); exact Kd.V_mono HOq1.out (fun _ hk => ⟨hk.1, ⟨(by simp [Value.ownBlock]), hk.2⟩⟩)⟩, ⟨by (with_reducible repeat (first | refine blk_drewN ?_ _ | refine blk_drew ?_ | refine blk_alloc ?_ _)); exact BK223.out⟩, ⟨by repeat (first | (with_reducible first | exact HB.out | apply bA | apply bN | apply bD | refine bS ?_ GE223.out) | exact HB.out)⟩⟩
       case round =>
        clear H'
        try clear c1
        try clear c2
        try clear p2
        try clear c4
        try clear c5
        try clear c17
        try clear c20
        try clear c21
        try clear c21b0
        try clear c22
        try clear c26
        try clear hcz28_0
        try clear hcz28_1
        try clear hcz28_2
        try clear hcz28_3
        try clear hcz31_0
        try clear hcz31_1
        try clear hcz31_2
        try clear hcz31_3
        try clear hfz28_0
        try clear hfz28_1
        try clear hfz28_2
        try clear hfz28_3
        try clear hfz31_0
        try clear hfz31_1
        try clear hfz31_2
        try clear hfz31_3
        try clear p2
        obtain ⟨x10_2, x11_2, rfl, HA, HK2, HO_0, HO_10, HOq0, HOq1, BK223, HB⟩ := hrel
        cases gk with
        | zero => exact absurd HA.out (by simp [banksmanref10_Add.l0])
        | succ k2 =>
         have H := HA.out
         clear HA
         simp only [banksmanref10_Add.l0] at H
         by_cases c33 : x11_2 < (l0.length : Int)
         ·
          rw [if_pos c33] at H
          have c33b0 : decide (x11_2 < (l0.length : Int)) = true := decide_eq_true c33
          clear c33
          by_cases c34 : 0 ≤ x11_2
          ·
           rw [if_pos c34] at H
           have c34b0 : decide (0 ≤ x11_2) = true := decide_eq_true c34
           clear c34
           replace H := Option.bind_eq_some_iff.mp H
           obtain ⟨t245, A350, H⟩ := H
           replace H : (if t245 = true then ((banksmanref10_Copy.f k2 l0).bind fun t246 => (some (t246, 0))) else ((banksmanref10_Covers.f a1_0 l1_1 l1_2 a1_3 ((rd_T24 l0 x11_2).f0) ((rd_T24 l0 x11_2).f1) ((rd_T24 l0 x11_2).f2) ((rd_T24 l0 x11_2).f3)).bind fun t250 => (if t250 = true then (banksmanref10_Add.l0 k2 l0 a2 x10_2 (wrap64 (x11_2 + 1)) a1_0 l1_1 l1_2 a1_3) else ((some (([(⟨(rd_T24 l0 x11_2).f0, (rd_T24 l0 x11_2).f1, (rd_T24 l0 x11_2).f2, (rd_T24 l0 x11_2).f3⟩ : S24)] : List (S24)) : List (S24))).bind fun y252 => (if x10_2.length + y252.length < 2199023255552 then (banksmanref10_Add.l0 k2 l0 a2 (x10_2 ++ y252) (wrap64 (x11_2 + 1)) a1_0 l1_1 l1_2 a1_3) else (none)))))) = some (r1, r2) := H
           have A35 := aM A350
           clear A350
           by_cases c36 : t245 = true
           ·
            subst c36
            have H1 : ((banksmanref10_Copy.f k2 l0).bind fun t246 => (some (t246, 0))) = some (r1, r2) := by rw [if_pos rfl] at H; exact H
            clear H
            have H := H1
            clear H1
            replace H := Option.bind_eq_some_iff.mp H
            obtain ⟨t246, A370, H⟩ := H
            replace H : (some (t246, 0)) = some (r1, r2) := H
            have A37 := aM A370
            clear A370
            simp only [Option.some.injEq, Prod.mk.injEq] at H
            obtain ⟨rfl, rfl⟩ := H
            try go_wp2
            have n0_ := aM (Kd.V_drew HO_0.out)
            have n1_ := aM (Kd.N_drew HO_10.out)
            have n2_ := aM (Kd.V_drew HOq0.out)
            have n3_ := aM (Kd.V_drew HOq1.out)
            have n4_ := aM (blk_drew BK223.out)
            have n5_ := aM (bD HB.out)
            clear HO_0
            clear HO_10
            clear HOq0
            clear HOq1
            clear BK223
            clear HB
            have HO_0 := n0_
            have HO_10 := n1_
            have HOq0 := n2_
            have HOq1 := n3_
            have BK223 := n4_
            have HB := n5_
            clear n0_ n1_ n2_ n3_ n4_ n5_
            have p244 : 0 ≤ (x11_2 : Int) := of_decide_eq_true (by first | (with_reducible assumption) | assumption)
            have q244 : x11_2 < (l0.length : Int) := of_decide_eq_true (by first | (with_reducible assumption) | assumption)
            obtain ⟨ad244, A244_1, c244_1, A244_2, c244_2, e244, hx244_0, hx244_1, hx244_2, hx244_3, hl244_1, hi244_1, hl244_2, hi244_2⟩ := at_T24 (Kd.V_reads' HO_0.out).2.2 x11_2 p244 q244
            cases e244
            obtain ⟨ce244, hce244, hMe244, hcc244⟩ := Kd.V_get HO_0.out z24 x11_2 p244 (by first | exact q244 | exact of_decide_eq_true (by first | (with_reducible assumption) | assumption) | (have e_ := (Kd.V_reads' HO_0.out).1; omega))
            obtain ⟨ua244_1, uc244_1, ua244_2, uc244_2, rfl, ul244_1, ge244_1, ul244_2, ge244_2⟩ := k24_openF hMe244
            have hv244_1 := hcc244 1 _ rfl
            rw [add_field _ _ 1 (by omega)] at hv244_1
            replace hv244_1 := Option.some.inj (hv244_1.symm.trans hx244_1)
            injection hv244_1 with hva_ hvn_ hvc_
            rw [hva_] at ge244_1
            rw [hvc_] at ul244_1
            have HLq0 := aM (show Kd.V (Kd.int .u8) 5 _ w.heap.size _ _ ((rd_T24 l0 x11_2).f1) from Kd.V_mk ul244_1 ge244_1)
            clear hva_ hvn_ hvc_ ge244_1 ul244_1
            have hv244_2 := hcc244 2 _ rfl
            rw [add_field _ _ 2 (by omega)] at hv244_2
            replace hv244_2 := Option.some.inj (hv244_2.symm.trans hx244_2)
            injection hv244_2 with hva_ hvn_ hvc_
            rw [hva_] at ge244_2
            rw [hvc_] at ul244_2
            have HLq1 := aM (show Kd.V (Kd.int .u8) 5 _ w.heap.size _ _ ((rd_T24 l0 x11_2).f2) from Kd.V_mk ul244_2 ge244_2)
            clear hva_ hvn_ hvc_ ge244_2 ul244_2
            clear hcc244 hce244
            have HRq0 := aM hi244_1
            have HCq0 := aM hl244_1
            clear hi244_1 hl244_1
            have HRq1 := aM hi244_2
            have HCq1 := aM hl244_2
            clear hi244_2 hl244_2
            replace p244 := eq_true p244
            replace q244 := eq_true q244
            refine start_ (n := 7) (S := fun w' => w'.cell? ⟨gb223, 0, none⟩ = some (.int .i64 a1_0) ∧ w'.cell? ⟨gb223, 1, none⟩ = some (.slice A1_1 l1_1.length c1_1) ∧ w'.cell? ⟨gb223, 2, none⟩ = some (.slice A1_2 l1_2.length c1_2) ∧ w'.cell? ⟨gb223, 3, none⟩ = some (.bool a1_3) ∧ w'.cell? (ad244.add ((x11_2).toNat * 4)) = some (.int .i64 ((rd_T24 l0 x11_2).f0)) ∧ w'.cell? ⟨(ad244.add ((x11_2).toNat * 4)).block, (ad244.add ((x11_2).toNat * 4)).off + 1, none⟩ = some (.slice A244_1 ((rd_T24 l0 x11_2).f1).length c244_1) ∧ w'.cell? ⟨(ad244.add ((x11_2).toNat * 4)).block, (ad244.add ((x11_2).toNat * 4)).off + 2, none⟩ = some (.slice A244_2 ((rd_T24 l0 x11_2).f2).length c244_2) ∧ w'.cell? ⟨(ad244.add ((x11_2).toNat * 4)).block, (ad244.add ((x11_2).toNat * 4)).off + 3, none⟩ = some (.bool ((rd_T24 l0 x11_2).f3))) (ds := []) #[F_,F_,F_,F_,F_,F_,F_] (by kernel_rfl) rfl rfl ⟨(kC BK223.out 0).trans rfl, (kC BK223.out 1).trans rfl, (kC BK223.out 2).trans rfl, (kC BK223.out 3).trans rfl, hx244_0, hx244_1, hx244_2, hx244_3⟩ (fun hHeld => ?_)
            generalize wr.drew = w38 at HO_0 HO_10 HOq0 HOq1 BK223 HB HLq0 HLq1 HRq0 HRq1 hx244_0 hx244_1 hx244_2 hx244_3 hHeld ⊢
            refine pure_ (i := 0) (N := some 49) (v := ?_) (a' := ?_) #[T_,F_,F_,F_,F_,F_,F_] rfl rfl (by kernel_rfl) (fun _ _ _ h => h) (Or.inl ⟨by rfl, ?_⟩) ?_ ?_
            rotate_left
            ·
             intro w'
             go_simp
             with_reducible rfl
            rotate_left
            ·
             simp only [Act.put, List.setIfInBounds_toArray, List.set_cons_zero, List.set_cons_succ, i64_w, i32_w]
             rfl
            refine pure_ (i := 1) (N := some 50) (v := ?_) (a' := ?_) #[T_,T_,F_,F_,F_,F_,F_] rfl rfl (by kernel_rfl) (fun _ _ _ h => h) (Or.inl ⟨by rfl, ?_⟩) ?_ ?_
            rotate_left
            ·
             intro w'
             go_simp
             with_reducible rfl
            rotate_left
            ·
             simp only [Act.put, List.setIfInBounds_toArray, List.set_cons_zero, List.set_cons_succ, i64_w, i32_w]
             rfl
            refine pure_ (i := 2) (N := some 51) (v := ?_) (a' := ?_) #[T_,T_,T_,F_,F_,F_,F_] rfl rfl (by kernel_rfl) (fun _ _ _ h => h) (Or.inl ⟨by rfl, ?_⟩) ?_ ?_
            rotate_left
            ·
             intro w'
             go_simp
             with_reducible rfl
            rotate_left
            ·
             simp only [Act.put, List.setIfInBounds_toArray, List.set_cons_zero, List.set_cons_succ, i64_w, i32_w]
             rfl
            refine take_ (i := 3) (N := some 52) (v := ?_) (a' := ?_) #[T_,T_,T_,T_,F_,F_,F_] rfl rfl (by kernel_rfl) (fun _ _ _ h => h) (Or.inl ⟨by rfl, ?_⟩) hHeld ?_ ?_
            rotate_left
            ·
             rintro w' ⟨s0, s1, s2, s3, s4, s5, s6, s7⟩
             go_simp
             with_reducible rfl
            rotate_left
            ·
             simp only [Act.put, List.setIfInBounds_toArray, List.set_cons_zero, List.set_cons_succ, i64_w, i32_w]
             rfl
            refine take_ (i := 4) (N := some 53) (v := ?_) (a' := ?_) #[T_,T_,T_,T_,T_,F_,F_] rfl rfl (by kernel_rfl) (fun _ _ _ h => h) (Or.inl ⟨by rfl, ?_⟩) hHeld ?_ ?_
            rotate_left
            ·
             rintro w' ⟨s0, s1, s2, s3, s4, s5, s6, s7⟩
             go_simp
             with_reducible rfl
            rotate_left
            ·
             simp only [Act.put, List.setIfInBounds_toArray, List.set_cons_zero, List.set_cons_succ, i64_w, i32_w]
             rfl
            refine one_ (i := 5) (N := some 54) #[T_,T_,T_,T_,T_,T_,F_] rfl rfl (by kernel_rfl) (by decide) (fun K hK => ?_)
            refine goes_ Try.func23 (by kernel_rfl) rfl #[.agg #[.int .i64 ((rd_T24 l0 x11_2).f0), .slice A244_1 ((rd_T24 l0 x11_2).f1).length c244_1, .slice A244_2 ((rd_T24 l0 x11_2).f2).length c244_2, .bool ((rd_T24 l0 x11_2).f3)], .agg #[.int .i64 a1_0, .slice A1_1 l1_1.length c1_1, .slice A1_2 l1_2.length c1_2, .bool a1_3]] (by rfl) rfl rfl (by (try simp only [List.map_toArray, List.map_cons, List.map_nil]); first | done | rfl | (simp only [List.length_drop, List.length_take]; rfl)) ?_
            with_reducible refine (banksmanref10_Covers.calls ((rd_T24 l0 x11_2).f0) _ _ ((rd_T24 l0 x11_2).f1) _ _ ((rd_T24 l0 x11_2).f2) ((rd_T24 l0 x11_2).f3) a1_0 _ _ l1_1 _ _ l1_2 a1_3 true _ ?side1 ?side2 ?side3 ?side4 ?side5 ?side6 ?side7 ?side8 A35.out).mono ?_
            (case side1 => repeat (first | exact (cU HRq0.out) | (with_reducible refine Kd.C_alloc ?_ _) | (with_reducible refine Kd.C_drewN ?_ _) | (with_reducible refine Kd.C_drew ?_)))
            (case side2 => exact HCq0.out)
            (case side3 => repeat (first | exact (cU HRq1.out) | (with_reducible refine Kd.C_alloc ?_ _) | (with_reducible refine Kd.C_drewN ?_ _) | (with_reducible refine Kd.C_drew ?_)))
            (case side4 => exact HCq1.out)
            (case side5 => repeat (first | exact (Kd.V_reads' HOq0.out).2.2 | (with_reducible refine Kd.C_alloc ?_ _) | (with_reducible refine Kd.C_drewN ?_ _) | (with_reducible refine Kd.C_drew ?_)))
            (case side6 => exact (Kd.V_reads' HOq0.out).2.1)
            (case side7 => repeat (first | exact (Kd.V_reads' HOq1.out).2.2 | (with_reducible refine Kd.C_alloc ?_ _) | (with_reducible refine Kd.C_drewN ?_ _) | (with_reducible refine Kd.C_drew ?_)))
            (case side8 => exact (Kd.V_reads' HOq1.out).2.1)
            rintro e w39 ⟨rfl, hb⟩
            have HS4_ := (hb.cell (World.block_lt_of_cell? _ _ (hHeld.2.2.2.2.1))).trans (hHeld.2.2.2.2.1)
            have HS5_ := (hb.cell (World.block_lt_of_cell? _ _ (hHeld.2.2.2.2.2.1))).trans (hHeld.2.2.2.2.2.1)
            have HS6_ := (hb.cell (World.block_lt_of_cell? _ _ (hHeld.2.2.2.2.2.2.1))).trans (hHeld.2.2.2.2.2.2.1)
            have HS7_ := (hb.cell (World.block_lt_of_cell? _ _ (hHeld.2.2.2.2.2.2.2))).trans (hHeld.2.2.2.2.2.2.2)
            refine ⟨_, rfl, ?_⟩
            have n0_ := aM (vB (vU HO_0.out) hb)
            have n1_ := aM (Kd.N_below (nU HO_10.out) hb)
            have n2_ := aM (vB (vU HOq0.out) hb)
            have n3_ := aM (vB (vU HOq1.out) hb)
            have n4_ := aM (vB (vU HLq0.out) hb)
            have n5_ := aM (vB (vU HLq1.out) hb)
            have n6_ := aM (kB (g := gb223) (o := .cells #[.int .i64 a1_0, .slice A1_1 l1_1.length c1_1, .slice A1_2 l1_2.length c1_2, .bool a1_3] 24 (0, 0)) (bU BK223.out) hb)
            have n7_ := aM (Kd.C_below (cU HRq0.out) hb)
            have n8_ := aM (Kd.C_below (cU HRq1.out) hb)
            have n9_ := aM (below_step (by repeat (first | (with_reducible first | exact HB.out | apply bA | apply bN | apply bD | refine bS ?_ GE223.out) | exact HB.out)) hb)
            clear HO_0
            clear HO_10
            clear HOq0
            clear HOq1
            clear HLq0
            clear HLq1
            clear BK223
            clear HRq0
            clear HRq1
            clear HB
            have HO_0 := n0_
            have HO_10 := n1_
            have HOq0 := n2_
            have HOq1 := n3_
            have HLq0 := n4_
            have HLq1 := n5_
            have BK223 := n6_
            have HRq0 := n7_
            have HRq1 := n8_
            have HB := n9_
            clear n0_ n1_ n2_ n3_ n4_ n5_ n6_ n7_ n8_ n9_
            (try clear hb)
            (try clear hb2)
            (try clear hk)
            (try clear hi)
            refine hK.out _ _ ⟨(kC BK223.out 0).trans rfl, (kC BK223.out 1).trans rfl, (kC BK223.out 2).trans rfl, (kC BK223.out 3).trans rfl, HS4_, HS5_, HS6_, HS7_⟩ (fun hHeld => ?_)
            clear hK K
            refine norm_ (a' := ?_) ?_ ?_
            rotate_left
            ·
             show Act.put _ (some 54) _ = _
             simp only [Act.put, List.setIfInBounds_toArray, List.set_cons_zero, List.set_cons_succ, i64_w, i32_w]
             rfl
            refine pure_ (i := 6) (N := some 12) (v := ?_) (a' := ?_) #[T_,T_,T_,T_,T_,T_,T_] rfl rfl (by kernel_rfl) (fun _ _ _ h => h) (Or.inl ⟨by rfl, ?_⟩) ?_ ?_
            rotate_left
            ·
             intro w'
             go_simp
             with_reducible rfl
            rotate_left
            ·
             simp only [Act.put, List.setIfInBounds_toArray, List.set_cons_zero, List.set_cons_succ, i64_w, i32_w]
             rfl
            refine done_ (by kernel_rfl) ?_
            try go_wp2_with (first | ((with_reducible refine gate_callee (f := 42) rfl ?_); refine goesL_ (some 57) rfl rfl Try.func42 (by kernel_rfl) rfl #[.slice (some ad244) l0.length c0] rfl (by (try simp only [List.map_toArray, List.map_cons, List.map_nil]); first | done | rfl | (simp only [List.length_drop, List.length_take]; rfl)) ?_; (with_reducible refine (banksmanref10_Copy.calls k2 _ _ l0 t246 _ ?side1 ?side2 A37.out).mono ?_); (case side1 => repeat (first | exact (Kd.V_reads' HO_0.out).2.2 | (with_reducible refine Kd.C_alloc ?_ _) | (with_reducible refine Kd.C_drewN ?_ _) | (with_reducible refine Kd.C_drew ?_))); (case side2 => exact (Kd.V_reads' HO_0.out).2.1); rintro e w40 ⟨v247, rfl, ho0, hb⟩; refine ⟨_, rfl, ?_⟩; replace HO_0 := aM (Kd.V_elder' (vU HO_0.out) (by first | exact Kd.N_base ho0 | exact Kd.S_base ho0 | exact Kd.R_base ho0) hb); replace HOq0 := aM (Kd.V_elder' (vU HOq0.out) (by first | exact Kd.N_base ho0 | exact Kd.S_base ho0 | exact Kd.R_base ho0) hb); replace HOq1 := aM (Kd.V_elder' (vU HOq1.out) (by first | exact Kd.N_base ho0 | exact Kd.S_base ho0 | exact Kd.R_base ho0) hb); replace HLq0 := aM (Kd.V_elder' (vU HLq0.out) (by first | exact Kd.N_base ho0 | exact Kd.S_base ho0 | exact Kd.R_base ho0) hb); replace HLq1 := aM (Kd.V_elder' (vU HLq1.out) (by first | exact Kd.N_base ho0 | exact Kd.S_base ho0 | exact Kd.R_base ho0) hb); have HO248 := aM (Kd.N_lower (Kd.N_mono (ok' := fun k_ => ((P0_ k_ ∨ P1_1_ k_ ∨ P1_2_ k_) ∨ w.heap.size ≤ k_) ∧ some k_ ≠ (u10 : Value).ownBlock ∧ k_ ≠ gb223) (Kd.S_N (Kd.S_bound ho0)) (fun k_ hk_ => ⟨(.inr (Nat.le_trans (below_size (by repeat (first | (with_reducible first | exact HB.out | apply bA | apply bN | apply bD | refine bS ?_ GE223.out) | exact HB.out))) hk_.2.1)), (Kd.fresh' (Kd.N_lt (nU HO_10.out)) k_ hk_.2.1), (Kd.freshB (g := gb223) (o := .cells #[.int .i64 a1_0, .slice A1_1 l1_1.length c1_1, .slice A1_2 l1_2.length c1_2, .bool a1_3] 24 (0, 0)) (bU BK223.out) k_ hk_.2.1)⟩)) (below_size (by repeat (first | (with_reducible first | exact HB.out | apply bA | apply bN | apply bD | refine bS ?_ GE223.out) | exact HB.out)))); replace HO_10 := aM (Kd.N_elder' (nU HO_10.out) (by first | exact Kd.N_base ho0 | exact Kd.S_base ho0 | exact Kd.R_base ho0) hb); replace BK223 := aM (kB (g := gb223) (o := .cells #[.int .i64 a1_0, .slice A1_1 l1_1.length c1_1, .slice A1_2 l1_2.length c1_2, .bool a1_3] 24 (0, 0)) (bU BK223.out) hb); replace HRq0 := aM (Kd.C_below (cU HRq0.out) hb); replace HRq1 := aM (Kd.C_below (cU HRq1.out) hb); replace HB := aM (below_step (by repeat (first | (with_reducible first | exact HB.out | apply bA | apply bN | apply bD | refine bS ?_ GE223.out) | exact HB.out)) hb); (try clear hb); (try clear hk)))
            go_ret2
            exact ⟨_, by first | rfl | (simp [errW_none, errW_some] <;> rfl) | (simp [*, errW_none, errW_some] <;> rfl), by (with_reducible repeat (first | apply Kd.N_alloc | apply Kd.N_drewN | apply Kd.N_drew)); exact Kd.N_mono HO248.out (fun _ hk => hk.1), by repeat (first | (with_reducible first | exact HB.out | apply bA | apply bN | apply bD | refine bS ?_ GE223.out) | exact HB.out)⟩
           ·
            replace c36 := Bool.eq_false_iff.mpr c36
            subst c36
            have H1 : ((banksmanref10_Covers.f a1_0 l1_1 l1_2 a1_3 ((rd_T24 l0 x11_2).f0) ((rd_T24 l0 x11_2).f1) ((rd_T24 l0 x11_2).f2) ((rd_T24 l0 x11_2).f3)).bind fun t250 => (if t250 = true then (banksmanref10_Add.l0 k2 l0 a2 x10_2 (wrap64 (x11_2 + 1)) a1_0 l1_1 l1_2 a1_3) else ((some (([(⟨(rd_T24 l0 x11_2).f0, (rd_T24 l0 x11_2).f1, (rd_T24 l0 x11_2).f2, (rd_T24 l0 x11_2).f3⟩ : S24)] : List (S24)) : List (S24))).bind fun y252 => (if x10_2.length + y252.length < 2199023255552 then (banksmanref10_Add.l0 k2 l0 a2 (x10_2 ++ y252) (wrap64 (x11_2 + 1)) a1_0 l1_1 l1_2 a1_3) else (none))))) = some (r1, r2) := by rw [if_neg (show ¬ (false = true) by decide)] at H; exact H
            clear H
            have H := H1
            clear H1
            replace H := Option.bind_eq_some_iff.mp H
            obtain ⟨t250, A410, H⟩ := H
            replace H : (if t250 = true then (banksmanref10_Add.l0 k2 l0 a2 x10_2 (wrap64 (x11_2 + 1)) a1_0 l1_1 l1_2 a1_3) else ((some (([(⟨(rd_T24 l0 x11_2).f0, (rd_T24 l0 x11_2).f1, (rd_T24 l0 x11_2).f2, (rd_T24 l0 x11_2).f3⟩ : S24)] : List (S24)) : List (S24))).bind fun y252 => (if x10_2.length + y252.length < 2199023255552 then (banksmanref10_Add.l0 k2 l0 a2 (x10_2 ++ y252) (wrap64 (x11_2 + 1)) a1_0 l1_1 l1_2 a1_3) else (none)))) = some (r1, r2) := H
            have A41 := aM A410
            clear A410
            by_cases c42 : t250 = true
            ·
             subst c42
             have H1 : (banksmanref10_Add.l0 k2 l0 a2 x10_2 (wrap64 (x11_2 + 1)) a1_0 l1_1 l1_2 a1_3) = some (r1, r2) := by rw [if_pos rfl] at H; exact H
             clear H
             have H := H1
             clear H1
             have H' := aM H
             clear H
             try go_wp2
             have n0_ := aM (Kd.V_drew HO_0.out)
             have n1_ := aM (Kd.N_drew HO_10.out)
             have n2_ := aM (Kd.V_drew HOq0.out)
             have n3_ := aM (Kd.V_drew HOq1.out)
             have n4_ := aM (blk_drew BK223.out)
             have n5_ := aM (bD HB.out)
             clear HO_0
             clear HO_10
             clear HOq0
             clear HOq1
             clear BK223
             clear HB
             have HO_0 := n0_
             have HO_10 := n1_
             have HOq0 := n2_
             have HOq1 := n3_
             have BK223 := n4_
             have HB := n5_
             clear n0_ n1_ n2_ n3_ n4_ n5_
             have p244 : 0 ≤ (x11_2 : Int) := of_decide_eq_true (by first | (with_reducible assumption) | assumption)
             have q244 : x11_2 < (l0.length : Int) := of_decide_eq_true (by first | (with_reducible assumption) | assumption)
             obtain ⟨ad244, A244_1, c244_1, A244_2, c244_2, e244, hx244_0, hx244_1, hx244_2, hx244_3, hl244_1, hi244_1, hl244_2, hi244_2⟩ := at_T24 (Kd.V_reads' HO_0.out).2.2 x11_2 p244 q244
             cases e244
             obtain ⟨ce244, hce244, hMe244, hcc244⟩ := Kd.V_get HO_0.out z24 x11_2 p244 (by first | exact q244 | exact of_decide_eq_true (by first | (with_reducible assumption) | assumption) | (have e_ := (Kd.V_reads' HO_0.out).1; omega))
             obtain ⟨ua244_1, uc244_1, ua244_2, uc244_2, rfl, ul244_1, ge244_1, ul244_2, ge244_2⟩ := k24_openF hMe244
             have hv244_1 := hcc244 1 _ rfl
             rw [add_field _ _ 1 (by omega)] at hv244_1
             replace hv244_1 := Option.some.inj (hv244_1.symm.trans hx244_1)
             injection hv244_1 with hva_ hvn_ hvc_
             rw [hva_] at ge244_1
             rw [hvc_] at ul244_1
             have HLq0 := aM (show Kd.V (Kd.int .u8) 5 _ w.heap.size _ _ ((rd_T24 l0 x11_2).f1) from Kd.V_mk ul244_1 ge244_1)
             clear hva_ hvn_ hvc_ ge244_1 ul244_1
             have hv244_2 := hcc244 2 _ rfl
             rw [add_field _ _ 2 (by omega)] at hv244_2
             replace hv244_2 := Option.some.inj (hv244_2.symm.trans hx244_2)
             injection hv244_2 with hva_ hvn_ hvc_
             rw [hva_] at ge244_2
             rw [hvc_] at ul244_2
             have HLq1 := aM (show Kd.V (Kd.int .u8) 5 _ w.heap.size _ _ ((rd_T24 l0 x11_2).f2) from Kd.V_mk ul244_2 ge244_2)
             clear hva_ hvn_ hvc_ ge244_2 ul244_2
             clear hcc244 hce244
             have HRq0 := aM hi244_1
             have HCq0 := aM hl244_1
             clear hi244_1 hl244_1
             have HRq1 := aM hi244_2
             have HCq1 := aM hl244_2
             clear hi244_2 hl244_2
             replace p244 := eq_true p244
             replace q244 := eq_true q244
             refine start_ (n := 7) (S := fun w' => w'.cell? ⟨gb223, 0, none⟩ = some (.int .i64 a1_0) ∧ w'.cell? ⟨gb223, 1, none⟩ = some (.slice A1_1 l1_1.length c1_1) ∧ w'.cell? ⟨gb223, 2, none⟩ = some (.slice A1_2 l1_2.length c1_2) ∧ w'.cell? ⟨gb223, 3, none⟩ = some (.bool a1_3) ∧ w'.cell? (ad244.add ((x11_2).toNat * 4)) = some (.int .i64 ((rd_T24 l0 x11_2).f0)) ∧ w'.cell? ⟨(ad244.add ((x11_2).toNat * 4)).block, (ad244.add ((x11_2).toNat * 4)).off + 1, none⟩ = some (.slice A244_1 ((rd_T24 l0 x11_2).f1).length c244_1) ∧ w'.cell? ⟨(ad244.add ((x11_2).toNat * 4)).block, (ad244.add ((x11_2).toNat * 4)).off + 2, none⟩ = some (.slice A244_2 ((rd_T24 l0 x11_2).f2).length c244_2) ∧ w'.cell? ⟨(ad244.add ((x11_2).toNat * 4)).block, (ad244.add ((x11_2).toNat * 4)).off + 3, none⟩ = some (.bool ((rd_T24 l0 x11_2).f3))) (ds := []) #[F_,F_,F_,F_,F_,F_,F_] (by kernel_rfl) rfl rfl ⟨(kC BK223.out 0).trans rfl, (kC BK223.out 1).trans rfl, (kC BK223.out 2).trans rfl, (kC BK223.out 3).trans rfl, hx244_0, hx244_1, hx244_2, hx244_3⟩ (fun hHeld => ?_)
             generalize wr.drew = w43 at HO_0 HO_10 HOq0 HOq1 BK223 HB HLq0 HLq1 HRq0 HRq1 hx244_0 hx244_1 hx244_2 hx244_3 hHeld ⊢
             refine pure_ (i := 0) (N := some 49) (v := ?_) (a' := ?_) #[T_,F_,F_,F_,F_,F_,F_] rfl rfl (by kernel_rfl) (fun _ _ _ h => h) (Or.inl ⟨by rfl, ?_⟩) ?_ ?_
             rotate_left
             ·
              intro w'
              go_simp
              with_reducible rfl
             rotate_left
             ·
              simp only [Act.put, List.setIfInBounds_toArray, List.set_cons_zero, List.set_cons_succ, i64_w, i32_w]
              rfl
             refine pure_ (i := 1) (N := some 50) (v := ?_) (a' := ?_) #[T_,T_,F_,F_,F_,F_,F_] rfl rfl (by kernel_rfl) (fun _ _ _ h => h) (Or.inl ⟨by rfl, ?_⟩) ?_ ?_
             rotate_left
             ·
              intro w'
              go_simp
              with_reducible rfl
             rotate_left
             ·
              simp only [Act.put, List.setIfInBounds_toArray, List.set_cons_zero, List.set_cons_succ, i64_w, i32_w]
              rfl
             refine pure_ (i := 2) (N := some 51) (v := ?_) (a' := ?_) #[T_,T_,T_,F_,F_,F_,F_] rfl rfl (by kernel_rfl) (fun _ _ _ h => h) (Or.inl ⟨by rfl, ?_⟩) ?_ ?_
             rotate_left
             ·
              intro w'
              go_simp
              with_reducible rfl
             rotate_left
             ·
              simp only [Act.put, List.setIfInBounds_toArray, List.set_cons_zero, List.set_cons_succ, i64_w, i32_w]
              rfl
             refine take_ (i := 3) (N := some 52) (v := ?_) (a' := ?_) #[T_,T_,T_,T_,F_,F_,F_] rfl rfl (by kernel_rfl) (fun _ _ _ h => h) (Or.inl ⟨by rfl, ?_⟩) hHeld ?_ ?_
             rotate_left
             ·
              rintro w' ⟨s0, s1, s2, s3, s4, s5, s6, s7⟩
              go_simp
              with_reducible rfl
             rotate_left
             ·
              simp only [Act.put, List.setIfInBounds_toArray, List.set_cons_zero, List.set_cons_succ, i64_w, i32_w]
              rfl
             refine take_ (i := 4) (N := some 53) (v := ?_) (a' := ?_) #[T_,T_,T_,T_,T_,F_,F_] rfl rfl (by kernel_rfl) (fun _ _ _ h => h) (Or.inl ⟨by rfl, ?_⟩) hHeld ?_ ?_
             rotate_left
             ·
              rintro w' ⟨s0, s1, s2, s3, s4, s5, s6, s7⟩
              go_simp
              with_reducible rfl
             rotate_left
             ·
              simp only [Act.put, List.setIfInBounds_toArray, List.set_cons_zero, List.set_cons_succ, i64_w, i32_w]
              rfl
             refine one_ (i := 5) (N := some 54) #[T_,T_,T_,T_,T_,T_,F_] rfl rfl (by kernel_rfl) (by decide) (fun K hK => ?_)
             refine goes_ Try.func23 (by kernel_rfl) rfl #[.agg #[.int .i64 ((rd_T24 l0 x11_2).f0), .slice A244_1 ((rd_T24 l0 x11_2).f1).length c244_1, .slice A244_2 ((rd_T24 l0 x11_2).f2).length c244_2, .bool ((rd_T24 l0 x11_2).f3)], .agg #[.int .i64 a1_0, .slice A1_1 l1_1.length c1_1, .slice A1_2 l1_2.length c1_2, .bool a1_3]] (by rfl) rfl rfl (by (try simp only [List.map_toArray, List.map_cons, List.map_nil]); first | done | rfl | (simp only [List.length_drop, List.length_take]; rfl)) ?_
             with_reducible refine (banksmanref10_Covers.calls ((rd_T24 l0 x11_2).f0) _ _ ((rd_T24 l0 x11_2).f1) _ _ ((rd_T24 l0 x11_2).f2) ((rd_T24 l0 x11_2).f3) a1_0 _ _ l1_1 _ _ l1_2 a1_3 false _ ?side1 ?side2 ?side3 ?side4 ?side5 ?side6 ?side7 ?side8 A35.out).mono ?_
             (case side1 => repeat (first | exact (cU HRq0.out) | (with_reducible refine Kd.C_alloc ?_ _) | (with_reducible refine Kd.C_drewN ?_ _) | (with_reducible refine Kd.C_drew ?_)))
             (case side2 => exact HCq0.out)
             (case side3 => repeat (first | exact (cU HRq1.out) | (with_reducible refine Kd.C_alloc ?_ _) | (with_reducible refine Kd.C_drewN ?_ _) | (with_reducible refine Kd.C_drew ?_)))
             (case side4 => exact HCq1.out)
             (case side5 => repeat (first | exact (Kd.V_reads' HOq0.out).2.2 | (with_reducible refine Kd.C_alloc ?_ _) | (with_reducible refine Kd.C_drewN ?_ _) | (with_reducible refine Kd.C_drew ?_)))
             (case side6 => exact (Kd.V_reads' HOq0.out).2.1)
             (case side7 => repeat (first | exact (Kd.V_reads' HOq1.out).2.2 | (with_reducible refine Kd.C_alloc ?_ _) | (with_reducible refine Kd.C_drewN ?_ _) | (with_reducible refine Kd.C_drew ?_)))
             (case side8 => exact (Kd.V_reads' HOq1.out).2.1)
             rintro e w44 ⟨rfl, hb⟩
             have HS4_ := (hb.cell (World.block_lt_of_cell? _ _ (hHeld.2.2.2.2.1))).trans (hHeld.2.2.2.2.1)
             have HS5_ := (hb.cell (World.block_lt_of_cell? _ _ (hHeld.2.2.2.2.2.1))).trans (hHeld.2.2.2.2.2.1)
             have HS6_ := (hb.cell (World.block_lt_of_cell? _ _ (hHeld.2.2.2.2.2.2.1))).trans (hHeld.2.2.2.2.2.2.1)
             have HS7_ := (hb.cell (World.block_lt_of_cell? _ _ (hHeld.2.2.2.2.2.2.2))).trans (hHeld.2.2.2.2.2.2.2)
             refine ⟨_, rfl, ?_⟩
             have n0_ := aM (vB (vU HO_0.out) hb)
             have n1_ := aM (Kd.N_below (nU HO_10.out) hb)
             have n2_ := aM (vB (vU HOq0.out) hb)
             have n3_ := aM (vB (vU HOq1.out) hb)
             have n4_ := aM (vB (vU HLq0.out) hb)
             have n5_ := aM (vB (vU HLq1.out) hb)
             have n6_ := aM (kB (g := gb223) (o := .cells #[.int .i64 a1_0, .slice A1_1 l1_1.length c1_1, .slice A1_2 l1_2.length c1_2, .bool a1_3] 24 (0, 0)) (bU BK223.out) hb)
             have n7_ := aM (Kd.C_below (cU HRq0.out) hb)
             have n8_ := aM (Kd.C_below (cU HRq1.out) hb)
             have n9_ := aM (below_step (by repeat (first | (with_reducible first | exact HB.out | apply bA | apply bN | apply bD | refine bS ?_ GE223.out) | exact HB.out)) hb)
             clear HO_0
             clear HO_10
             clear HOq0
             clear HOq1
             clear HLq0
             clear HLq1
             clear BK223
             clear HRq0
             clear HRq1
             clear HB
             have HO_0 := n0_
             have HO_10 := n1_
             have HOq0 := n2_
             have HOq1 := n3_
             have HLq0 := n4_
             have HLq1 := n5_
             have BK223 := n6_
             have HRq0 := n7_
             have HRq1 := n8_
             have HB := n9_
             clear n0_ n1_ n2_ n3_ n4_ n5_ n6_ n7_ n8_ n9_
             (try clear hb)
             (try clear hb2)
             (try clear hk)
             (try clear hi)
             refine hK.out _ _ ⟨(kC BK223.out 0).trans rfl, (kC BK223.out 1).trans rfl, (kC BK223.out 2).trans rfl, (kC BK223.out 3).trans rfl, HS4_, HS5_, HS6_, HS7_⟩ (fun hHeld => ?_)
             clear hK K
             refine norm_ (a' := ?_) ?_ ?_
             rotate_left
             ·
              show Act.put _ (some 54) _ = _
              simp only [Act.put, List.setIfInBounds_toArray, List.set_cons_zero, List.set_cons_succ, i64_w, i32_w]
              rfl
             refine pure_ (i := 6) (N := some 12) (v := ?_) (a' := ?_) #[T_,T_,T_,T_,T_,T_,T_] rfl rfl (by kernel_rfl) (fun _ _ _ h => h) (Or.inl ⟨by rfl, ?_⟩) ?_ ?_
             rotate_left
             ·
              intro w'
              go_simp
              with_reducible rfl
             rotate_left
             ·
              simp only [Act.put, List.setIfInBounds_toArray, List.set_cons_zero, List.set_cons_succ, i64_w, i32_w]
              rfl
             refine done_ (by kernel_rfl) ?_
             try go_wp2
             have n0_ := aM (Kd.V_drew HO_0.out)
             have n1_ := aM (Kd.N_drew HO_10.out)
             have n2_ := aM (Kd.V_drew HOq0.out)
             have n3_ := aM (Kd.V_drew HOq1.out)
             have n4_ := aM (Kd.V_drew HLq0.out)
             have n5_ := aM (Kd.V_drew HLq1.out)
             have n6_ := aM (blk_drew BK223.out)
             have n7_ := aM (Kd.C_drew HRq0.out)
             have n8_ := aM (Kd.C_drew HRq1.out)
             have n9_ := aM (bD HB.out)
             clear HO_0
             clear HO_10
             clear HOq0
             clear HOq1
             clear HLq0
             clear HLq1
             clear BK223
             clear HRq0
             clear HRq1
             clear HB
             have HO_0 := n0_
             have HO_10 := n1_
             have HOq0 := n2_
             have HOq1 := n3_
             have HLq0 := n4_
             have HLq1 := n5_
             have BK223 := n6_
             have HRq0 := n7_
             have HRq1 := n8_
             have HB := n9_
             clear n0_ n1_ n2_ n3_ n4_ n5_ n6_ n7_ n8_ n9_
             have p249 : 0 ≤ (x11_2 : Int) := of_decide_eq_true (by first | (with_reducible assumption) | assumption)
             have q249 : x11_2 < (l0.length : Int) := of_decide_eq_true (by first | (with_reducible assumption) | assumption)
             obtain ⟨ad249, A249_1, c249_1, A249_2, c249_2, e249, hx249_0, hx249_1, hx249_2, hx249_3, hl249_1, hi249_1, hl249_2, hi249_2⟩ := at_T24 (Kd.V_reads' HO_0.out).2.2 x11_2 p249 q249
             obtain rfl : ad244 = ad249 := (by injection e249)
             (try obtain ⟨rfl, rfl⟩ := uE hx249_1 hx244_1)
             (try obtain ⟨rfl, rfl⟩ := uE hx249_2 hx244_2)
             (try obtain ⟨rfl, rfl⟩ := uE hx249_1 hx244_1)
             (try obtain ⟨rfl, rfl⟩ := uE hx249_2 hx244_2)
             (try obtain ⟨rfl, rfl⟩ := uE hx249_1 HS4_)
             (try obtain ⟨rfl, rfl⟩ := uE hx249_1 HS5_)
             (try obtain ⟨rfl, rfl⟩ := uE hx249_1 HS6_)
             (try obtain ⟨rfl, rfl⟩ := uE hx249_1 HS7_)
             (try obtain ⟨rfl, rfl⟩ := uE hx249_1 HS8_)
             (try obtain ⟨rfl, rfl⟩ := uE hx249_2 HS4_)
             (try obtain ⟨rfl, rfl⟩ := uE hx249_2 HS5_)
             (try obtain ⟨rfl, rfl⟩ := uE hx249_2 HS6_)
             (try obtain ⟨rfl, rfl⟩ := uE hx249_2 HS7_)
             (try obtain ⟨rfl, rfl⟩ := uE hx249_2 HS8_)
             obtain ⟨ce249, hce249, hMe249, hcc249⟩ := Kd.V_get HO_0.out z24 x11_2 p249 (by first | exact q249 | exact of_decide_eq_true (by first | (with_reducible assumption) | assumption) | (have e_ := (Kd.V_reads' HO_0.out).1; omega))
             obtain ⟨ua249_1, uc249_1, ua249_2, uc249_2, rfl, ul249_1, ge249_1, ul249_2, ge249_2⟩ := k24_openF hMe249
             have hv249_1 := hcc249 1 _ rfl
             rw [add_field _ _ 1 (by omega)] at hv249_1
             replace hv249_1 := Option.some.inj (hv249_1.symm.trans hx249_1)
             injection hv249_1 with hva_ hvn_ hvc_
             rw [hva_] at ge249_1
             rw [hvc_] at ul249_1
             have HLq4 := aM (show Kd.V (Kd.int .u8) 5 _ w.heap.size _ _ ((rd_T24 l0 x11_2).f1) from Kd.V_mk ul249_1 ge249_1)
             clear hva_ hvn_ hvc_ ge249_1 ul249_1
             have hv249_2 := hcc249 2 _ rfl
             rw [add_field _ _ 2 (by omega)] at hv249_2
             replace hv249_2 := Option.some.inj (hv249_2.symm.trans hx249_2)
             injection hv249_2 with hva_ hvn_ hvc_
             rw [hva_] at ge249_2
             rw [hvc_] at ul249_2
             have HLq5 := aM (show Kd.V (Kd.int .u8) 5 _ w.heap.size _ _ ((rd_T24 l0 x11_2).f2) from Kd.V_mk ul249_2 ge249_2)
             clear hva_ hvn_ hvc_ ge249_2 ul249_2
             clear hcc249 hce249
             have HRq2 := aM hi249_1
             have HCq2 := aM hl249_1
             clear hi249_1 hl249_1
             have HRq3 := aM hi249_2
             have HCq3 := aM hl249_2
             clear hi249_2 hl249_2
             replace p249 := eq_true p249
             replace q249 := eq_true q249
             refine start_ (n := 7) (S := fun w' => w'.cell? ⟨gb223, 0, none⟩ = some (.int .i64 a1_0) ∧ w'.cell? ⟨gb223, 1, none⟩ = some (.slice A1_1 l1_1.length c1_1) ∧ w'.cell? ⟨gb223, 2, none⟩ = some (.slice A1_2 l1_2.length c1_2) ∧ w'.cell? ⟨gb223, 3, none⟩ = some (.bool a1_3) ∧ w'.cell? (ad244.add ((x11_2).toNat * 4)) = some (.int .i64 ((rd_T24 l0 x11_2).f0)) ∧ w'.cell? ⟨(ad244.add ((x11_2).toNat * 4)).block, (ad244.add ((x11_2).toNat * 4)).off + 1, none⟩ = some (.slice A249_1 ((rd_T24 l0 x11_2).f1).length c249_1) ∧ w'.cell? ⟨(ad244.add ((x11_2).toNat * 4)).block, (ad244.add ((x11_2).toNat * 4)).off + 2, none⟩ = some (.slice A249_2 ((rd_T24 l0 x11_2).f2).length c249_2) ∧ w'.cell? ⟨(ad244.add ((x11_2).toNat * 4)).block, (ad244.add ((x11_2).toNat * 4)).off + 3, none⟩ = some (.bool ((rd_T24 l0 x11_2).f3))) (ds := []) #[F_,F_,F_,F_,F_,F_,F_] (by kernel_rfl) rfl rfl ⟨(kC BK223.out 0).trans rfl, (kC BK223.out 1).trans rfl, (kC BK223.out 2).trans rfl, (kC BK223.out 3).trans rfl, hx249_0, hx249_1, hx249_2, hx249_3⟩ (fun hHeld => ?_)
             generalize w44.drew = w45 at HO_0 HO_10 HOq0 HOq1 HLq0 HLq1 BK223 HRq0 HRq1 HB HLq4 HLq5 HRq2 HRq3 hx249_0 hx249_1 hx249_2 hx249_3 hHeld ⊢
             refine pure_ (i := 1) (N := some 59) (v := ?_) (a' := ?_) #[F_,T_,F_,F_,F_,F_,F_] rfl rfl (by kernel_rfl) (fun _ _ _ h => h) (Or.inl ⟨by rfl, ?_⟩) ?_ ?_
             rotate_left
             ·
              intro w'
              go_simp
              with_reducible rfl
             rotate_left
             ·
              simp only [Act.put, List.setIfInBounds_toArray, List.set_cons_zero, List.set_cons_succ, i64_w, i32_w]
              rfl
             refine pure_ (i := 2) (N := some 60) (v := ?_) (a' := ?_) #[F_,T_,T_,F_,F_,F_,F_] rfl rfl (by kernel_rfl) (fun _ _ _ h => h) (Or.inl ⟨by rfl, ?_⟩) ?_ ?_
             rotate_left
             ·
              intro w'
              go_simp
              with_reducible rfl
             rotate_left
             ·
              simp only [Act.put, List.setIfInBounds_toArray, List.set_cons_zero, List.set_cons_succ, i64_w, i32_w]
              rfl
             refine pure_ (i := 3) (N := some 61) (v := ?_) (a' := ?_) #[F_,T_,T_,T_,F_,F_,F_] rfl rfl (by kernel_rfl) (fun _ _ _ h => h) (Or.inl ⟨by rfl, ?_⟩) ?_ ?_
             rotate_left
             ·
              intro w'
              go_simp
              with_reducible rfl
             rotate_left
             ·
              simp only [Act.put, List.setIfInBounds_toArray, List.set_cons_zero, List.set_cons_succ, i64_w, i32_w]
              rfl
             refine take_ (i := 0) (N := some 58) (v := ?_) (a' := ?_) #[T_,T_,T_,T_,F_,F_,F_] rfl rfl (by kernel_rfl) (fun _ _ _ h => h) (Or.inl ⟨by rfl, ?_⟩) hHeld ?_ ?_
             rotate_left
             ·
              rintro w' ⟨s0, s1, s2, s3, s4, s5, s6, s7⟩
              go_simp
              with_reducible rfl
             rotate_left
             ·
              simp only [Act.put, List.setIfInBounds_toArray, List.set_cons_zero, List.set_cons_succ, i64_w, i32_w]
              rfl
             refine take_ (i := 4) (N := some 62) (v := ?_) (a' := ?_) #[T_,T_,T_,T_,T_,F_,F_] rfl rfl (by kernel_rfl) (fun _ _ _ h => h) (Or.inl ⟨by rfl, ?_⟩) hHeld ?_ ?_
             rotate_left
             ·
              rintro w' ⟨s0, s1, s2, s3, s4, s5, s6, s7⟩
              go_simp
              with_reducible rfl
             rotate_left
             ·
              simp only [Act.put, List.setIfInBounds_toArray, List.set_cons_zero, List.set_cons_succ, i64_w, i32_w]
              rfl
             refine one_ (i := 5) (N := some 63) #[T_,T_,T_,T_,T_,T_,F_] rfl rfl (by kernel_rfl) (by decide) (fun K hK => ?_)
             refine goes_ Try.func23 (by kernel_rfl) rfl #[.agg #[.int .i64 a1_0, .slice A1_1 l1_1.length c1_1, .slice A1_2 l1_2.length c1_2, .bool a1_3], .agg #[.int .i64 ((rd_T24 l0 x11_2).f0), .slice A249_1 ((rd_T24 l0 x11_2).f1).length c249_1, .slice A249_2 ((rd_T24 l0 x11_2).f2).length c249_2, .bool ((rd_T24 l0 x11_2).f3)]] (by rfl) rfl rfl (by (try simp only [List.map_toArray, List.map_cons, List.map_nil]); first | done | rfl | (simp only [List.length_drop, List.length_take]; rfl)) ?_
             with_reducible refine (banksmanref10_Covers.calls a1_0 _ _ l1_1 _ _ l1_2 a1_3 ((rd_T24 l0 x11_2).f0) _ _ ((rd_T24 l0 x11_2).f1) _ _ ((rd_T24 l0 x11_2).f2) ((rd_T24 l0 x11_2).f3) true _ ?side1 ?side2 ?side3 ?side4 ?side5 ?side6 ?side7 ?side8 A41.out).mono ?_
             (case side1 => repeat (first | exact (Kd.V_reads' HOq0.out).2.2 | (with_reducible refine Kd.C_alloc ?_ _) | (with_reducible refine Kd.C_drewN ?_ _) | (with_reducible refine Kd.C_drew ?_)))
             (case side2 => exact (Kd.V_reads' HOq0.out).2.1)
             (case side3 => repeat (first | exact (Kd.V_reads' HOq1.out).2.2 | (with_reducible refine Kd.C_alloc ?_ _) | (with_reducible refine Kd.C_drewN ?_ _) | (with_reducible refine Kd.C_drew ?_)))
             (case side4 => exact (Kd.V_reads' HOq1.out).2.1)
             (case side5 => repeat (first | exact (cU HRq2.out) | (with_reducible refine Kd.C_alloc ?_ _) | (with_reducible refine Kd.C_drewN ?_ _) | (with_reducible refine Kd.C_drew ?_)))
             (case side6 => exact HCq2.out)
             (case side7 => repeat (first | exact (cU HRq3.out) | (with_reducible refine Kd.C_alloc ?_ _) | (with_reducible refine Kd.C_drewN ?_ _) | (with_reducible refine Kd.C_drew ?_)))
             (case side8 => exact HCq3.out)
             rintro e w46 ⟨rfl, hb⟩
             have HS4_ := (hb.cell (World.block_lt_of_cell? _ _ (hHeld.2.2.2.2.1))).trans (hHeld.2.2.2.2.1)
             have HS5_ := (hb.cell (World.block_lt_of_cell? _ _ (hHeld.2.2.2.2.2.1))).trans (hHeld.2.2.2.2.2.1)
             have HS6_ := (hb.cell (World.block_lt_of_cell? _ _ (hHeld.2.2.2.2.2.2.1))).trans (hHeld.2.2.2.2.2.2.1)
             have HS7_ := (hb.cell (World.block_lt_of_cell? _ _ (hHeld.2.2.2.2.2.2.2))).trans (hHeld.2.2.2.2.2.2.2)
             refine ⟨_, rfl, ?_⟩
             have n0_ := aM (vB (vU HO_0.out) hb)
             have n1_ := aM (Kd.N_below (nU HO_10.out) hb)
             have n2_ := aM (vB (vU HOq0.out) hb)
             have n3_ := aM (vB (vU HOq1.out) hb)
             have n4_ := aM (vB (vU HLq0.out) hb)
             have n5_ := aM (vB (vU HLq1.out) hb)
             have n6_ := aM (vB (vU HLq4.out) hb)
             have n7_ := aM (vB (vU HLq5.out) hb)
             have n8_ := aM (kB (g := gb223) (o := .cells #[.int .i64 a1_0, .slice A1_1 l1_1.length c1_1, .slice A1_2 l1_2.length c1_2, .bool a1_3] 24 (0, 0)) (bU BK223.out) hb)
             have n9_ := aM (Kd.C_below (cU HRq0.out) hb)
             have n10_ := aM (Kd.C_below (cU HRq1.out) hb)
             have n11_ := aM (Kd.C_below (cU HRq2.out) hb)
             have n12_ := aM (Kd.C_below (cU HRq3.out) hb)
             have n13_ := aM (below_step (by repeat (first | (with_reducible first | exact HB.out | apply bA | apply bN | apply bD | refine bS ?_ GE223.out) | exact HB.out)) hb)
             clear HO_0
             clear HO_10
             clear HOq0
             clear HOq1
             clear HLq0
             clear HLq1
             clear HLq4
             clear HLq5
             clear BK223
             clear HRq0
             clear HRq1
             clear HRq2
             clear HRq3
             clear HB
             have HO_0 := n0_
             have HO_10 := n1_
             have HOq0 := n2_
             have HOq1 := n3_
             have HLq0 := n4_
             have HLq1 := n5_
             have HLq4 := n6_
             have HLq5 := n7_
             have BK223 := n8_
             have HRq0 := n9_
             have HRq1 := n10_
             have HRq2 := n11_
             have HRq3 := n12_
             have HB := n13_
             clear n0_ n1_ n2_ n3_ n4_ n5_ n6_ n7_ n8_ n9_ n10_ n11_ n12_ n13_
             (try clear hb)
             (try clear hb2)
             (try clear hk)
             (try clear hi)
             refine hK.out _ _ ⟨(kC BK223.out 0).trans rfl, (kC BK223.out 1).trans rfl, (kC BK223.out 2).trans rfl, (kC BK223.out 3).trans rfl, HS4_, HS5_, HS6_, HS7_⟩ (fun hHeld => ?_)
             clear hK K
             refine norm_ (a' := ?_) ?_ ?_
             rotate_left
             ·
              show Act.put _ (some 63) _ = _
              simp only [Act.put, List.setIfInBounds_toArray, List.set_cons_zero, List.set_cons_succ, i64_w, i32_w]
              rfl
             refine pure_ (i := 6) (N := some 13) (v := ?_) (a' := ?_) #[T_,T_,T_,T_,T_,T_,T_] rfl rfl (by kernel_rfl) (fun _ _ _ h => h) (Or.inl ⟨by rfl, ?_⟩) ?_ ?_
             rotate_left
             ·
              intro w'
              go_simp
              with_reducible rfl
             rotate_left
             ·
              simp only [Act.put, List.setIfInBounds_toArray, List.set_cons_zero, List.set_cons_succ, i64_w, i32_w]
              rfl
             refine done_ (by kernel_rfl) ?_
             try go_wp2
             go_roundg k2
             case measure => have := HJ6.out; have := HK2.out; omega
             case rel => exact ⟨(x10_2), (wrap64 (x11_2 + 1)), (by first | rfl | (simp; done) | (simp [*]; done)), H', ⟨by have := HJ6.out; have := HK2.out; omega⟩, ⟨by (with_reducible repeat (first | apply Kd.V_alloc | apply Kd.V_drewN | apply Kd.V_drew)); exact HO_0.out⟩, ⟨by (with_reducible repeat (first | apply Kd.N_alloc | apply Kd.N_drewN | apply Kd.N_drew)); exact HO_10.out⟩, ⟨by (with_reducible repeat (first | apply Kd.V_alloc | apply Kd.V_drewN | apply Kd.V_drew)); exact HOq0.out⟩, ⟨by (with_reducible repeat (first | apply Kd.V_alloc | apply Kd.V_drewN | apply Kd.V_drew)); exact HOq1.out⟩, ⟨by (with_reducible repeat (first | refine blk_drewN ?_ _ | refine blk_drew ?_ | refine blk_alloc ?_ _)); exact BK223.out⟩, ⟨by repeat (first | (with_reducible first | exact HB.out | apply bA | apply bN | apply bD | refine bS ?_ GE223.out) | exact HB.out)⟩⟩
            ·
             replace c42 := Bool.eq_false_iff.mpr c42
             subst c42
             have H1 : ((some (([(⟨(rd_T24 l0 x11_2).f0, (rd_T24 l0 x11_2).f1, (rd_T24 l0 x11_2).f2, (rd_T24 l0 x11_2).f3⟩ : S24)] : List (S24)) : List (S24))).bind fun y252 => (if x10_2.length + y252.length < 2199023255552 then (banksmanref10_Add.l0 k2 l0 a2 (x10_2 ++ y252) (wrap64 (x11_2 + 1)) a1_0 l1_1 l1_2 a1_3) else (none))) = some (r1, r2) := by rw [if_neg (show ¬ (false = true) by decide)] at H; exact H
             clear H
             have H := H1
             clear H1
             obtain ⟨y252, hy252⟩ : ∃ y_ : List (S24), y_ = (([(⟨(rd_T24 l0 x11_2).f0, (rd_T24 l0 x11_2).f1, (rd_T24 l0 x11_2).f2, (rd_T24 l0 x11_2).f3⟩ : S24)] : List (S24))) := ⟨_, rfl⟩
             replace H : (if x10_2.length + y252.length < 2199023255552 then (banksmanref10_Add.l0 k2 l0 a2 (x10_2 ++ y252) (wrap64 (x11_2 + 1)) a1_0 l1_1 l1_2 a1_3) else (none)) = some (r1, r2) := by first | (rw [hy252]; with_reducible exact H) | (have H2_ := (Option.bind_some _ _).symm.trans H; rw [hy252]; with_reducible exact H2_) | (have H2_ := (Option.bind_some _ _).symm.trans H; with_reducible exact H2_) | with_reducible exact H | (rw [hy252]; exact H) | exact H
             have Ny252 := aM hy252
             clear hy252
             by_cases c47 : x10_2.length + y252.length < 2199023255552
             ·
              rw [if_pos c47] at H
              have LMc47 := aM c47
              clear c47
              obtain ⟨y255, hy255⟩ : ∃ y_ : List (S24), y_ = (x10_2 ++ y252) := ⟨_, rfl⟩
              replace H : (banksmanref10_Add.l0 k2 l0 a2 y255 (wrap64 (x11_2 + 1)) a1_0 l1_1 l1_2 a1_3) = some (r1, r2) := by first | (rw [hy255]; with_reducible exact H) | (have H2_ := (Option.bind_some _ _).symm.trans H; rw [hy255]; with_reducible exact H2_) | (have H2_ := (Option.bind_some _ _).symm.trans H; with_reducible exact H2_) | with_reducible exact H | (rw [hy255]; exact H) | exact H
              have Ny255 := aM hy255
              clear hy255
              have H' := aM H
              clear H
              try go_wp2
              have n0_ := aM (Kd.V_drew HO_0.out)
              have n1_ := aM (Kd.N_drew HO_10.out)
              have n2_ := aM (Kd.V_drew HOq0.out)
              have n3_ := aM (Kd.V_drew HOq1.out)
              have n4_ := aM (blk_drew BK223.out)
              have n5_ := aM (bD HB.out)
              clear HO_0
              clear HO_10
              clear HOq0
              clear HOq1
              clear BK223
              clear HB
              have HO_0 := n0_
              have HO_10 := n1_
              have HOq0 := n2_
              have HOq1 := n3_
              have BK223 := n4_
              have HB := n5_
              clear n0_ n1_ n2_ n3_ n4_ n5_
              have p244 : 0 ≤ (x11_2 : Int) := of_decide_eq_true (by first | (with_reducible assumption) | assumption)
              have q244 : x11_2 < (l0.length : Int) := of_decide_eq_true (by first | (with_reducible assumption) | assumption)
              obtain ⟨ad244, A244_1, c244_1, A244_2, c244_2, e244, hx244_0, hx244_1, hx244_2, hx244_3, hl244_1, hi244_1, hl244_2, hi244_2⟩ := at_T24 (Kd.V_reads' HO_0.out).2.2 x11_2 p244 q244
              cases e244
              obtain ⟨ce244, hce244, hMe244, hcc244⟩ := Kd.V_get HO_0.out z24 x11_2 p244 (by first | exact q244 | exact of_decide_eq_true (by first | (with_reducible assumption) | assumption) | (have e_ := (Kd.V_reads' HO_0.out).1; omega))
              obtain ⟨ua244_1, uc244_1, ua244_2, uc244_2, rfl, ul244_1, ge244_1, ul244_2, ge244_2⟩ := k24_openF hMe244
              have hv244_1 := hcc244 1 _ rfl
              rw [add_field _ _ 1 (by omega)] at hv244_1
              replace hv244_1 := Option.some.inj (hv244_1.symm.trans hx244_1)
              injection hv244_1 with hva_ hvn_ hvc_
              rw [hva_] at ge244_1
              rw [hvc_] at ul244_1
              have HLq0 := aM (show Kd.V (Kd.int .u8) 5 _ w.heap.size _ _ ((rd_T24 l0 x11_2).f1) from Kd.V_mk ul244_1 ge244_1)
              clear hva_ hvn_ hvc_ ge244_1 ul244_1
              have hv244_2 := hcc244 2 _ rfl
              rw [add_field _ _ 2 (by omega)] at hv244_2
              replace hv244_2 := Option.some.inj (hv244_2.symm.trans hx244_2)
              injection hv244_2 with hva_ hvn_ hvc_
              rw [hva_] at ge244_2
              rw [hvc_] at ul244_2
              have HLq1 := aM (show Kd.V (Kd.int .u8) 5 _ w.heap.size _ _ ((rd_T24 l0 x11_2).f2) from Kd.V_mk ul244_2 ge244_2)
              clear hva_ hvn_ hvc_ ge244_2 ul244_2
              clear hcc244 hce244
              have HRq0 := aM hi244_1
              have HCq0 := aM hl244_1
              clear hi244_1 hl244_1
              have HRq1 := aM hi244_2
              have HCq1 := aM hl244_2
              clear hi244_2 hl244_2
              replace p244 := eq_true p244
              replace q244 := eq_true q244
              refine start_ (n := 7) (S := fun w' => w'.cell? ⟨gb223, 0, none⟩ = some (.int .i64 a1_0) ∧ w'.cell? ⟨gb223, 1, none⟩ = some (.slice A1_1 l1_1.length c1_1) ∧ w'.cell? ⟨gb223, 2, none⟩ = some (.slice A1_2 l1_2.length c1_2) ∧ w'.cell? ⟨gb223, 3, none⟩ = some (.bool a1_3) ∧ w'.cell? (ad244.add ((x11_2).toNat * 4)) = some (.int .i64 ((rd_T24 l0 x11_2).f0)) ∧ w'.cell? ⟨(ad244.add ((x11_2).toNat * 4)).block, (ad244.add ((x11_2).toNat * 4)).off + 1, none⟩ = some (.slice A244_1 ((rd_T24 l0 x11_2).f1).length c244_1) ∧ w'.cell? ⟨(ad244.add ((x11_2).toNat * 4)).block, (ad244.add ((x11_2).toNat * 4)).off + 2, none⟩ = some (.slice A244_2 ((rd_T24 l0 x11_2).f2).length c244_2) ∧ w'.cell? ⟨(ad244.add ((x11_2).toNat * 4)).block, (ad244.add ((x11_2).toNat * 4)).off + 3, none⟩ = some (.bool ((rd_T24 l0 x11_2).f3))) (ds := []) #[F_,F_,F_,F_,F_,F_,F_] (by kernel_rfl) rfl rfl ⟨(kC BK223.out 0).trans rfl, (kC BK223.out 1).trans rfl, (kC BK223.out 2).trans rfl, (kC BK223.out 3).trans rfl, hx244_0, hx244_1, hx244_2, hx244_3⟩ (fun hHeld => ?_)
              generalize wr.drew = w48 at HO_0 HO_10 HOq0 HOq1 BK223 HB HLq0 HLq1 HRq0 HRq1 hx244_0 hx244_1 hx244_2 hx244_3 hHeld ⊢
              refine pure_ (i := 0) (N := some 49) (v := ?_) (a' := ?_) #[T_,F_,F_,F_,F_,F_,F_] rfl rfl (by kernel_rfl) (fun _ _ _ h => h) (Or.inl ⟨by rfl, ?_⟩) ?_ ?_
              rotate_left
              ·
               intro w'
               go_simp
               with_reducible rfl
              rotate_left
              ·
               simp only [Act.put, List.setIfInBounds_toArray, List.set_cons_zero, List.set_cons_succ, i64_w, i32_w]
               rfl
              refine pure_ (i := 1) (N := some 50) (v := ?_) (a' := ?_) #[T_,T_,F_,F_,F_,F_,F_] rfl rfl (by kernel_rfl) (fun _ _ _ h => h) (Or.inl ⟨by rfl, ?_⟩) ?_ ?_
              rotate_left
              ·
               intro w'
               go_simp
               with_reducible rfl
              rotate_left
              ·
               simp only [Act.put, List.setIfInBounds_toArray, List.set_cons_zero, List.set_cons_succ, i64_w, i32_w]
               rfl
              refine pure_ (i := 2) (N := some 51) (v := ?_) (a' := ?_) #[T_,T_,T_,F_,F_,F_,F_] rfl rfl (by kernel_rfl) (fun _ _ _ h => h) (Or.inl ⟨by rfl, ?_⟩) ?_ ?_
              rotate_left
              ·
               intro w'
               go_simp
               with_reducible rfl
              rotate_left
              ·
               simp only [Act.put, List.setIfInBounds_toArray, List.set_cons_zero, List.set_cons_succ, i64_w, i32_w]
               rfl
              refine take_ (i := 3) (N := some 52) (v := ?_) (a' := ?_) #[T_,T_,T_,T_,F_,F_,F_] rfl rfl (by kernel_rfl) (fun _ _ _ h => h) (Or.inl ⟨by rfl, ?_⟩) hHeld ?_ ?_
              rotate_left
              ·
               rintro w' ⟨s0, s1, s2, s3, s4, s5, s6, s7⟩
               go_simp
               with_reducible rfl
              rotate_left
              ·
               simp only [Act.put, List.setIfInBounds_toArray, List.set_cons_zero, List.set_cons_succ, i64_w, i32_w]
               rfl
              refine take_ (i := 4) (N := some 53) (v := ?_) (a' := ?_) #[T_,T_,T_,T_,T_,F_,F_] rfl rfl (by kernel_rfl) (fun _ _ _ h => h) (Or.inl ⟨by rfl, ?_⟩) hHeld ?_ ?_
              rotate_left
              ·
               rintro w' ⟨s0, s1, s2, s3, s4, s5, s6, s7⟩
               go_simp
               with_reducible rfl
              rotate_left
              ·
               simp only [Act.put, List.setIfInBounds_toArray, List.set_cons_zero, List.set_cons_succ, i64_w, i32_w]
               rfl
              refine one_ (i := 5) (N := some 54) #[T_,T_,T_,T_,T_,T_,F_] rfl rfl (by kernel_rfl) (by decide) (fun K hK => ?_)
              refine goes_ Try.func23 (by kernel_rfl) rfl #[.agg #[.int .i64 ((rd_T24 l0 x11_2).f0), .slice A244_1 ((rd_T24 l0 x11_2).f1).length c244_1, .slice A244_2 ((rd_T24 l0 x11_2).f2).length c244_2, .bool ((rd_T24 l0 x11_2).f3)], .agg #[.int .i64 a1_0, .slice A1_1 l1_1.length c1_1, .slice A1_2 l1_2.length c1_2, .bool a1_3]] (by rfl) rfl rfl (by (try simp only [List.map_toArray, List.map_cons, List.map_nil]); first | done | rfl | (simp only [List.length_drop, List.length_take]; rfl)) ?_
              with_reducible refine (banksmanref10_Covers.calls ((rd_T24 l0 x11_2).f0) _ _ ((rd_T24 l0 x11_2).f1) _ _ ((rd_T24 l0 x11_2).f2) ((rd_T24 l0 x11_2).f3) a1_0 _ _ l1_1 _ _ l1_2 a1_3 false _ ?side1 ?side2 ?side3 ?side4 ?side5 ?side6 ?side7 ?side8 A35.out).mono ?_
              (case side1 => repeat (first | exact (cU HRq0.out) | (with_reducible refine Kd.C_alloc ?_ _) | (with_reducible refine Kd.C_drewN ?_ _) | (with_reducible refine Kd.C_drew ?_)))
              (case side2 => exact HCq0.out)
              (case side3 => repeat (first | exact (cU HRq1.out) | (with_reducible refine Kd.C_alloc ?_ _) | (with_reducible refine Kd.C_drewN ?_ _) | (with_reducible refine Kd.C_drew ?_)))
              (case side4 => exact HCq1.out)
              (case side5 => repeat (first | exact (Kd.V_reads' HOq0.out).2.2 | (with_reducible refine Kd.C_alloc ?_ _) | (with_reducible refine Kd.C_drewN ?_ _) | (with_reducible refine Kd.C_drew ?_)))
              (case side6 => exact (Kd.V_reads' HOq0.out).2.1)
              (case side7 => repeat (first | exact (Kd.V_reads' HOq1.out).2.2 | (with_reducible refine Kd.C_alloc ?_ _) | (with_reducible refine Kd.C_drewN ?_ _) | (with_reducible refine Kd.C_drew ?_)))
              (case side8 => exact (Kd.V_reads' HOq1.out).2.1)
              rintro e w49 ⟨rfl, hb⟩
              have HS4_ := (hb.cell (World.block_lt_of_cell? _ _ (hHeld.2.2.2.2.1))).trans (hHeld.2.2.2.2.1)
              have HS5_ := (hb.cell (World.block_lt_of_cell? _ _ (hHeld.2.2.2.2.2.1))).trans (hHeld.2.2.2.2.2.1)
              have HS6_ := (hb.cell (World.block_lt_of_cell? _ _ (hHeld.2.2.2.2.2.2.1))).trans (hHeld.2.2.2.2.2.2.1)
              have HS7_ := (hb.cell (World.block_lt_of_cell? _ _ (hHeld.2.2.2.2.2.2.2))).trans (hHeld.2.2.2.2.2.2.2)
              refine ⟨_, rfl, ?_⟩
              have n0_ := aM (vB (vU HO_0.out) hb)
              have n1_ := aM (Kd.N_below (nU HO_10.out) hb)
              have n2_ := aM (vB (vU HOq0.out) hb)
              have n3_ := aM (vB (vU HOq1.out) hb)
              have n4_ := aM (vB (vU HLq0.out) hb)
              have n5_ := aM (vB (vU HLq1.out) hb)
              have n6_ := aM (kB (g := gb223) (o := .cells #[.int .i64 a1_0, .slice A1_1 l1_1.length c1_1, .slice A1_2 l1_2.length c1_2, .bool a1_3] 24 (0, 0)) (bU BK223.out) hb)
              have n7_ := aM (Kd.C_below (cU HRq0.out) hb)
              have n8_ := aM (Kd.C_below (cU HRq1.out) hb)
              have n9_ := aM (below_step (by repeat (first | (with_reducible first | exact HB.out | apply bA | apply bN | apply bD | refine bS ?_ GE223.out) | exact HB.out)) hb)
              clear HO_0
              clear HO_10
              clear HOq0
              clear HOq1
              clear HLq0
              clear HLq1
              clear BK223
              clear HRq0
              clear HRq1
              clear HB
              have HO_0 := n0_
              have HO_10 := n1_
              have HOq0 := n2_
              have HOq1 := n3_
              have HLq0 := n4_
              have HLq1 := n5_
              have BK223 := n6_
              have HRq0 := n7_
              have HRq1 := n8_
              have HB := n9_
              clear n0_ n1_ n2_ n3_ n4_ n5_ n6_ n7_ n8_ n9_
              (try clear hb)
              (try clear hb2)
              (try clear hk)
              (try clear hi)
              refine hK.out _ _ ⟨(kC BK223.out 0).trans rfl, (kC BK223.out 1).trans rfl, (kC BK223.out 2).trans rfl, (kC BK223.out 3).trans rfl, HS4_, HS5_, HS6_, HS7_⟩ (fun hHeld => ?_)
              clear hK K
              refine norm_ (a' := ?_) ?_ ?_
              rotate_left
              ·
               show Act.put _ (some 54) _ = _
               simp only [Act.put, List.setIfInBounds_toArray, List.set_cons_zero, List.set_cons_succ, i64_w, i32_w]
               rfl
              refine pure_ (i := 6) (N := some 12) (v := ?_) (a' := ?_) #[T_,T_,T_,T_,T_,T_,T_] rfl rfl (by kernel_rfl) (fun _ _ _ h => h) (Or.inl ⟨by rfl, ?_⟩) ?_ ?_
              rotate_left
              ·
               intro w'
               go_simp
               with_reducible rfl
              rotate_left
              ·
               simp only [Act.put, List.setIfInBounds_toArray, List.set_cons_zero, List.set_cons_succ, i64_w, i32_w]
               rfl
              refine done_ (by kernel_rfl) ?_
              try go_wp2
              have n0_ := aM (Kd.V_drew HO_0.out)
              have n1_ := aM (Kd.N_drew HO_10.out)
              have n2_ := aM (Kd.V_drew HOq0.out)
              have n3_ := aM (Kd.V_drew HOq1.out)
              have n4_ := aM (Kd.V_drew HLq0.out)
              have n5_ := aM (Kd.V_drew HLq1.out)
              have n6_ := aM (blk_drew BK223.out)
              have n7_ := aM (Kd.C_drew HRq0.out)
              have n8_ := aM (Kd.C_drew HRq1.out)
              have n9_ := aM (bD HB.out)
              clear HO_0
              clear HO_10
              clear HOq0
              clear HOq1
              clear HLq0
              clear HLq1
              clear BK223
              clear HRq0
              clear HRq1
              clear HB
              have HO_0 := n0_
              have HO_10 := n1_
              have HOq0 := n2_
              have HOq1 := n3_
              have HLq0 := n4_
              have HLq1 := n5_
              have BK223 := n6_
              have HRq0 := n7_
              have HRq1 := n8_
              have HB := n9_
              clear n0_ n1_ n2_ n3_ n4_ n5_ n6_ n7_ n8_ n9_
              have p249 : 0 ≤ (x11_2 : Int) := of_decide_eq_true (by first | (with_reducible assumption) | assumption)
              have q249 : x11_2 < (l0.length : Int) := of_decide_eq_true (by first | (with_reducible assumption) | assumption)
              obtain ⟨ad249, A249_1, c249_1, A249_2, c249_2, e249, hx249_0, hx249_1, hx249_2, hx249_3, hl249_1, hi249_1, hl249_2, hi249_2⟩ := at_T24 (Kd.V_reads' HO_0.out).2.2 x11_2 p249 q249
              obtain rfl : ad244 = ad249 := (by injection e249)
              (try obtain ⟨rfl, rfl⟩ := uE hx249_1 hx244_1)
              (try obtain ⟨rfl, rfl⟩ := uE hx249_2 hx244_2)
              (try obtain ⟨rfl, rfl⟩ := uE hx249_1 hx244_1)
              (try obtain ⟨rfl, rfl⟩ := uE hx249_2 hx244_2)
              (try obtain ⟨rfl, rfl⟩ := uE hx249_1 hx244_1)
              (try obtain ⟨rfl, rfl⟩ := uE hx249_2 hx244_2)
              (try obtain ⟨rfl, rfl⟩ := uE hx249_1 HS4_)
              (try obtain ⟨rfl, rfl⟩ := uE hx249_1 HS5_)
              (try obtain ⟨rfl, rfl⟩ := uE hx249_1 HS6_)
              (try obtain ⟨rfl, rfl⟩ := uE hx249_1 HS7_)
              (try obtain ⟨rfl, rfl⟩ := uE hx249_1 HS8_)
              (try obtain ⟨rfl, rfl⟩ := uE hx249_2 HS4_)
              (try obtain ⟨rfl, rfl⟩ := uE hx249_2 HS5_)
              (try obtain ⟨rfl, rfl⟩ := uE hx249_2 HS6_)
              (try obtain ⟨rfl, rfl⟩ := uE hx249_2 HS7_)
              (try obtain ⟨rfl, rfl⟩ := uE hx249_2 HS8_)
              obtain ⟨ce249, hce249, hMe249, hcc249⟩ := Kd.V_get HO_0.out z24 x11_2 p249 (by first | exact q249 | exact of_decide_eq_true (by first | (with_reducible assumption) | assumption) | (have e_ := (Kd.V_reads' HO_0.out).1; omega))
              obtain ⟨ua249_1, uc249_1, ua249_2, uc249_2, rfl, ul249_1, ge249_1, ul249_2, ge249_2⟩ := k24_openF hMe249
              have hv249_1 := hcc249 1 _ rfl
              rw [add_field _ _ 1 (by omega)] at hv249_1
              replace hv249_1 := Option.some.inj (hv249_1.symm.trans hx249_1)
              injection hv249_1 with hva_ hvn_ hvc_
              rw [hva_] at ge249_1
              rw [hvc_] at ul249_1
              have HLq4 := aM (show Kd.V (Kd.int .u8) 5 _ w.heap.size _ _ ((rd_T24 l0 x11_2).f1) from Kd.V_mk ul249_1 ge249_1)
              clear hva_ hvn_ hvc_ ge249_1 ul249_1
              have hv249_2 := hcc249 2 _ rfl
              rw [add_field _ _ 2 (by omega)] at hv249_2
              replace hv249_2 := Option.some.inj (hv249_2.symm.trans hx249_2)
              injection hv249_2 with hva_ hvn_ hvc_
              rw [hva_] at ge249_2
              rw [hvc_] at ul249_2
              have HLq5 := aM (show Kd.V (Kd.int .u8) 5 _ w.heap.size _ _ ((rd_T24 l0 x11_2).f2) from Kd.V_mk ul249_2 ge249_2)
              clear hva_ hvn_ hvc_ ge249_2 ul249_2
              clear hcc249 hce249
              have HRq2 := aM hi249_1
              have HCq2 := aM hl249_1
              clear hi249_1 hl249_1
              have HRq3 := aM hi249_2
              have HCq3 := aM hl249_2
              clear hi249_2 hl249_2
              replace p249 := eq_true p249
              replace q249 := eq_true q249
              refine start_ (n := 7) (S := fun w' => w'.cell? ⟨gb223, 0, none⟩ = some (.int .i64 a1_0) ∧ w'.cell? ⟨gb223, 1, none⟩ = some (.slice A1_1 l1_1.length c1_1) ∧ w'.cell? ⟨gb223, 2, none⟩ = some (.slice A1_2 l1_2.length c1_2) ∧ w'.cell? ⟨gb223, 3, none⟩ = some (.bool a1_3) ∧ w'.cell? (ad244.add ((x11_2).toNat * 4)) = some (.int .i64 ((rd_T24 l0 x11_2).f0)) ∧ w'.cell? ⟨(ad244.add ((x11_2).toNat * 4)).block, (ad244.add ((x11_2).toNat * 4)).off + 1, none⟩ = some (.slice A249_1 ((rd_T24 l0 x11_2).f1).length c249_1) ∧ w'.cell? ⟨(ad244.add ((x11_2).toNat * 4)).block, (ad244.add ((x11_2).toNat * 4)).off + 2, none⟩ = some (.slice A249_2 ((rd_T24 l0 x11_2).f2).length c249_2) ∧ w'.cell? ⟨(ad244.add ((x11_2).toNat * 4)).block, (ad244.add ((x11_2).toNat * 4)).off + 3, none⟩ = some (.bool ((rd_T24 l0 x11_2).f3))) (ds := []) #[F_,F_,F_,F_,F_,F_,F_] (by kernel_rfl) rfl rfl ⟨(kC BK223.out 0).trans rfl, (kC BK223.out 1).trans rfl, (kC BK223.out 2).trans rfl, (kC BK223.out 3).trans rfl, hx249_0, hx249_1, hx249_2, hx249_3⟩ (fun hHeld => ?_)
              generalize w49.drew = w50 at HO_0 HO_10 HOq0 HOq1 HLq0 HLq1 BK223 HRq0 HRq1 HB HLq4 HLq5 HRq2 HRq3 hx249_0 hx249_1 hx249_2 hx249_3 hHeld ⊢
              refine pure_ (i := 1) (N := some 59) (v := ?_) (a' := ?_) #[F_,T_,F_,F_,F_,F_,F_] rfl rfl (by kernel_rfl) (fun _ _ _ h => h) (Or.inl ⟨by rfl, ?_⟩) ?_ ?_
              rotate_left
              ·
               intro w'
               go_simp
               with_reducible rfl
              rotate_left
              ·
               simp only [Act.put, List.setIfInBounds_toArray, List.set_cons_zero, List.set_cons_succ, i64_w, i32_w]
               rfl
              refine pure_ (i := 2) (N := some 60) (v := ?_) (a' := ?_) #[F_,T_,T_,F_,F_,F_,F_] rfl rfl (by kernel_rfl) (fun _ _ _ h => h) (Or.inl ⟨by rfl, ?_⟩) ?_ ?_
              rotate_left
              ·
               intro w'
               go_simp
               with_reducible rfl
              rotate_left
              ·
               simp only [Act.put, List.setIfInBounds_toArray, List.set_cons_zero, List.set_cons_succ, i64_w, i32_w]
               rfl
              refine pure_ (i := 3) (N := some 61) (v := ?_) (a' := ?_) #[F_,T_,T_,T_,F_,F_,F_] rfl rfl (by kernel_rfl) (fun _ _ _ h => h) (Or.inl ⟨by rfl, ?_⟩) ?_ ?_
              rotate_left
              ·
               intro w'
               go_simp
               with_reducible rfl
              rotate_left
              ·
               simp only [Act.put, List.setIfInBounds_toArray, List.set_cons_zero, List.set_cons_succ, i64_w, i32_w]
               rfl
              refine take_ (i := 0) (N := some 58) (v := ?_) (a' := ?_) #[T_,T_,T_,T_,F_,F_,F_] rfl rfl (by kernel_rfl) (fun _ _ _ h => h) (Or.inl ⟨by rfl, ?_⟩) hHeld ?_ ?_
              rotate_left
              ·
               rintro w' ⟨s0, s1, s2, s3, s4, s5, s6, s7⟩
               go_simp
               with_reducible rfl
              rotate_left
              ·
               simp only [Act.put, List.setIfInBounds_toArray, List.set_cons_zero, List.set_cons_succ, i64_w, i32_w]
               rfl
              refine take_ (i := 4) (N := some 62) (v := ?_) (a' := ?_) #[T_,T_,T_,T_,T_,F_,F_] rfl rfl (by kernel_rfl) (fun _ _ _ h => h) (Or.inl ⟨by rfl, ?_⟩) hHeld ?_ ?_
              rotate_left
              ·
               rintro w' ⟨s0, s1, s2, s3, s4, s5, s6, s7⟩
               go_simp
               with_reducible rfl
              rotate_left
              ·
               simp only [Act.put, List.setIfInBounds_toArray, List.set_cons_zero, List.set_cons_succ, i64_w, i32_w]
               rfl
              refine one_ (i := 5) (N := some 63) #[T_,T_,T_,T_,T_,T_,F_] rfl rfl (by kernel_rfl) (by decide) (fun K hK => ?_)
              refine goes_ Try.func23 (by kernel_rfl) rfl #[.agg #[.int .i64 a1_0, .slice A1_1 l1_1.length c1_1, .slice A1_2 l1_2.length c1_2, .bool a1_3], .agg #[.int .i64 ((rd_T24 l0 x11_2).f0), .slice A249_1 ((rd_T24 l0 x11_2).f1).length c249_1, .slice A249_2 ((rd_T24 l0 x11_2).f2).length c249_2, .bool ((rd_T24 l0 x11_2).f3)]] (by rfl) rfl rfl (by (try simp only [List.map_toArray, List.map_cons, List.map_nil]); first | done | rfl | (simp only [List.length_drop, List.length_take]; rfl)) ?_
              with_reducible refine (banksmanref10_Covers.calls a1_0 _ _ l1_1 _ _ l1_2 a1_3 ((rd_T24 l0 x11_2).f0) _ _ ((rd_T24 l0 x11_2).f1) _ _ ((rd_T24 l0 x11_2).f2) ((rd_T24 l0 x11_2).f3) false _ ?side1 ?side2 ?side3 ?side4 ?side5 ?side6 ?side7 ?side8 A41.out).mono ?_
              (case side1 => repeat (first | exact (Kd.V_reads' HOq0.out).2.2 | (with_reducible refine Kd.C_alloc ?_ _) | (with_reducible refine Kd.C_drewN ?_ _) | (with_reducible refine Kd.C_drew ?_)))
              (case side2 => exact (Kd.V_reads' HOq0.out).2.1)
              (case side3 => repeat (first | exact (Kd.V_reads' HOq1.out).2.2 | (with_reducible refine Kd.C_alloc ?_ _) | (with_reducible refine Kd.C_drewN ?_ _) | (with_reducible refine Kd.C_drew ?_)))
              (case side4 => exact (Kd.V_reads' HOq1.out).2.1)
              (case side5 => repeat (first | exact (cU HRq2.out) | (with_reducible refine Kd.C_alloc ?_ _) | (with_reducible refine Kd.C_drewN ?_ _) | (with_reducible refine Kd.C_drew ?_)))
              (case side6 => exact HCq2.out)
              (case side7 => repeat (first | exact (cU HRq3.out) | (with_reducible refine Kd.C_alloc ?_ _) | (with_reducible refine Kd.C_drewN ?_ _) | (with_reducible refine Kd.C_drew ?_)))
              (case side8 => exact HCq3.out)
              rintro e w51 ⟨rfl, hb⟩
              have HS4_ := (hb.cell (World.block_lt_of_cell? _ _ (hHeld.2.2.2.2.1))).trans (hHeld.2.2.2.2.1)
              have HS5_ := (hb.cell (World.block_lt_of_cell? _ _ (hHeld.2.2.2.2.2.1))).trans (hHeld.2.2.2.2.2.1)
              have HS6_ := (hb.cell (World.block_lt_of_cell? _ _ (hHeld.2.2.2.2.2.2.1))).trans (hHeld.2.2.2.2.2.2.1)
              have HS7_ := (hb.cell (World.block_lt_of_cell? _ _ (hHeld.2.2.2.2.2.2.2))).trans (hHeld.2.2.2.2.2.2.2)
              refine ⟨_, rfl, ?_⟩
              have n0_ := aM (vB (vU HO_0.out) hb)
              have n1_ := aM (Kd.N_below (nU HO_10.out) hb)
              have n2_ := aM (vB (vU HOq0.out) hb)
              have n3_ := aM (vB (vU HOq1.out) hb)
              have n4_ := aM (vB (vU HLq0.out) hb)
              have n5_ := aM (vB (vU HLq1.out) hb)
              have n6_ := aM (vB (vU HLq4.out) hb)
              have n7_ := aM (vB (vU HLq5.out) hb)
              have n8_ := aM (kB (g := gb223) (o := .cells #[.int .i64 a1_0, .slice A1_1 l1_1.length c1_1, .slice A1_2 l1_2.length c1_2, .bool a1_3] 24 (0, 0)) (bU BK223.out) hb)
              have n9_ := aM (Kd.C_below (cU HRq0.out) hb)
              have n10_ := aM (Kd.C_below (cU HRq1.out) hb)
              have n11_ := aM (Kd.C_below (cU HRq2.out) hb)
              have n12_ := aM (Kd.C_below (cU HRq3.out) hb)
              have n13_ := aM (below_step (by repeat (first | (with_reducible first | exact HB.out | apply bA | apply bN | apply bD | refine bS ?_ GE223.out) | exact HB.out)) hb)
              clear HO_0
              clear HO_10
              clear HOq0
              clear HOq1
              clear HLq0
              clear HLq1
              clear HLq4
              clear HLq5
              clear BK223
              clear HRq0
              clear HRq1
              clear HRq2
              clear HRq3
              clear HB
              have HO_0 := n0_
              have HO_10 := n1_
              have HOq0 := n2_
              have HOq1 := n3_
              have HLq0 := n4_
              have HLq1 := n5_
              have HLq4 := n6_
              have HLq5 := n7_
              have BK223 := n8_
              have HRq0 := n9_
              have HRq1 := n10_
              have HRq2 := n11_
              have HRq3 := n12_
              have HB := n13_
              clear n0_ n1_ n2_ n3_ n4_ n5_ n6_ n7_ n8_ n9_ n10_ n11_ n12_ n13_
              (try clear hb)
              (try clear hb2)
              (try clear hk)
              (try clear hi)
              refine hK.out _ _ ⟨(kC BK223.out 0).trans rfl, (kC BK223.out 1).trans rfl, (kC BK223.out 2).trans rfl, (kC BK223.out 3).trans rfl, HS4_, HS5_, HS6_, HS7_⟩ (fun hHeld => ?_)
              clear hK K
              refine norm_ (a' := ?_) ?_ ?_
              rotate_left
              ·
               show Act.put _ (some 63) _ = _
               simp only [Act.put, List.setIfInBounds_toArray, List.set_cons_zero, List.set_cons_succ, i64_w, i32_w]
               rfl
              refine pure_ (i := 6) (N := some 13) (v := ?_) (a' := ?_) #[T_,T_,T_,T_,T_,T_,T_] rfl rfl (by kernel_rfl) (fun _ _ _ h => h) (Or.inl ⟨by rfl, ?_⟩) ?_ ?_
              rotate_left
              ·
               intro w'
               go_simp
               with_reducible rfl
              rotate_left
              ·
               simp only [Act.put, List.setIfInBounds_toArray, List.set_cons_zero, List.set_cons_succ, i64_w, i32_w]
               rfl
              refine done_ (by kernel_rfl) ?_
              have p251 : 0 ≤ (x11_2 : Int) := of_decide_eq_true (by first | (with_reducible assumption) | assumption)
              have q251 : x11_2 < (l0.length : Int) := of_decide_eq_true (by first | (with_reducible assumption) | assumption)
              obtain ⟨ad251, A251_1, c251_1, A251_2, c251_2, e251, hx251_0, hx251_1, hx251_2, hx251_3, hl251_1, hi251_1, hl251_2, hi251_2⟩ := at_T24 (Kd.V_reads' HO_0.out).2.2 x11_2 p251 q251
              obtain rfl : ad244 = ad251 := (by injection e251)
              (try obtain ⟨rfl, rfl⟩ := uE hx251_1 hx244_1)
              (try obtain ⟨rfl, rfl⟩ := uE hx251_2 hx244_2)
              (try obtain ⟨rfl, rfl⟩ := uE hx251_1 hx244_1)
              (try obtain ⟨rfl, rfl⟩ := uE hx251_2 hx244_2)
              (try obtain ⟨rfl, rfl⟩ := uE hx251_1 hx249_1)
              (try obtain ⟨rfl, rfl⟩ := uE hx251_2 hx249_2)
              (try obtain ⟨rfl, rfl⟩ := uE hx251_1 hx244_1)
              (try obtain ⟨rfl, rfl⟩ := uE hx251_2 hx244_2)
              (try obtain ⟨rfl, rfl⟩ := uE hx251_1 hx249_1)
              (try obtain ⟨rfl, rfl⟩ := uE hx251_2 hx249_2)
              (try obtain ⟨rfl, rfl⟩ := uE hx251_1 HS4_)
              (try obtain ⟨rfl, rfl⟩ := uE hx251_1 HS5_)
              (try obtain ⟨rfl, rfl⟩ := uE hx251_1 HS6_)
              (try obtain ⟨rfl, rfl⟩ := uE hx251_1 HS7_)
              (try obtain ⟨rfl, rfl⟩ := uE hx251_1 HS8_)
              (try obtain ⟨rfl, rfl⟩ := uE hx251_2 HS4_)
              (try obtain ⟨rfl, rfl⟩ := uE hx251_2 HS5_)
              (try obtain ⟨rfl, rfl⟩ := uE hx251_2 HS6_)
              (try obtain ⟨rfl, rfl⟩ := uE hx251_2 HS7_)
              (try obtain ⟨rfl, rfl⟩ := uE hx251_2 HS8_)
              obtain ⟨ce251, hce251, hMe251, hcc251⟩ := Kd.V_get HO_0.out z24 x11_2 p251 (by first | exact q251 | exact of_decide_eq_true (by first | (with_reducible assumption) | assumption) | (have e_ := (Kd.V_reads' HO_0.out).1; omega))
              obtain ⟨ua251_1, uc251_1, ua251_2, uc251_2, rfl, ul251_1, ge251_1, ul251_2, ge251_2⟩ := k24_openF hMe251
              have hv251_1 := hcc251 1 _ rfl
              rw [add_field _ _ 1 (by omega)] at hv251_1
              replace hv251_1 := Option.some.inj (hv251_1.symm.trans hx251_1)
              injection hv251_1 with hva_ hvn_ hvc_
              rw [hva_] at ge251_1
              rw [hvc_] at ul251_1
              have HLq6 := aM (show Kd.V (Kd.int .u8) 5 _ w.heap.size _ _ ((rd_T24 l0 x11_2).f1) from Kd.V_mk ul251_1 ge251_1)
              clear hva_ hvn_ hvc_ ge251_1 ul251_1
              have hv251_2 := hcc251 2 _ rfl
              rw [add_field _ _ 2 (by omega)] at hv251_2
              replace hv251_2 := Option.some.inj (hv251_2.symm.trans hx251_2)
              injection hv251_2 with hva_ hvn_ hvc_
              rw [hva_] at ge251_2
              rw [hvc_] at ul251_2
              have HLq7 := aM (show Kd.V (Kd.int .u8) 5 _ w.heap.size _ _ ((rd_T24 l0 x11_2).f2) from Kd.V_mk ul251_2 ge251_2)
              clear hva_ hvn_ hvc_ ge251_2 ul251_2
              clear hcc251 hce251
              have HRq8 := aM hi251_1
              have HCq8 := aM hl251_1
              clear hi251_1 hl251_1
              have HRq9 := aM hi251_2
              have HCq9 := aM hl251_2
              clear hi251_2 hl251_2
              replace p251 := eq_true p251
              replace q251 := eq_true q251
              try go_wp2_with (first | ((with_reducible refine gate_dst (N := 71) rfl ?_); refine Kd.N_lit k24 _ 24 ?hg (N' := 71) ?hd (xs := ([(⟨(rd_T24 l0 x11_2).f0, (rd_T24 l0 x11_2).f1, (rd_T24 l0 x11_2).f2, (rd_T24 l0 x11_2).f3⟩ : S24)] : List (S24))) (inner := [.int .i64 ((rd_T24 l0 x11_2).f0), .slice A251_1 ((rd_T24 l0 x11_2).f1).length c251_1, .slice A251_2 ((rd_T24 l0 x11_2).f2).length c251_2, .bool ((rd_T24 l0 x11_2).f3)]) (ok := (fun k_ => ((P0_ k_ ∨ P1_1_ k_ ∨ P1_2_ k_) ∨ w.heap.size ≤ k_) ∧ some k_ ≠ (u10 : Value).ownBlock ∧ k_ ≠ gb223)) (okp := (fun k_ => ((P0_ k_ ∨ P1_1_ k_ ∨ P1_2_ k_) ∨ w.heap.size ≤ k_) ∧ some k_ ≠ (u10 : Value).ownBlock ∧ k_ ≠ gb223)) ?hr ?hp (fun _ hk => hk) ((show ∀ k_, w51.heap.size ≤ k_ → (fun k_ => ((P0_ k_ ∨ P1_1_ k_ ∨ P1_2_ k_) ∨ w.heap.size ≤ k_) ∧ some k_ ≠ (u10 : Value).ownBlock ∧ k_ ≠ gb223) k_ from fun k_ hk => ⟨(.inr (Nat.le_trans (below_size (by repeat (first | (with_reducible first | exact HB.out | apply bA | apply bN | apply bD | refine bS ?_ GE223.out) | exact HB.out))) hk)), Kd.fresh' (Kd.N_lt (nU HO_10.out)) k_ hk, Kd.freshB (g := gb223) (o := .cells #[.int .i64 a1_0, .slice A1_1 l1_1.length c1_1, .slice A1_2 l1_2.length c1_2, .bool a1_3] 24 (0, 0)) (bU BK223.out) k_ hk⟩) _ (Nat.le_refl _)) (Below.refl _ _) (Nat.le_refl _) (by simp) ?_; (case hd => rfl); (case hg => rfl); (case hr => first | (go_simp; done) | (go_simp; rfl)); (case hp => exact (Reps.c4 (show Kd.FK k24 _ _ (⟨(rd_T24 l0 x11_2).f0, (rd_T24 l0 x11_2).f1, (rd_T24 l0 x11_2).f2, (rd_T24 l0 x11_2).f3⟩ : S24) [.int .i64 ((rd_T24 l0 x11_2).f0), .slice A251_1 ((rd_T24 l0 x11_2).f1).length c251_1, .slice A251_2 ((rd_T24 l0 x11_2).f2).length c251_2, .bool ((rd_T24 l0 x11_2).f3)] from (k24_mkF _ _ (⟨(rd_T24 l0 x11_2).f0, (rd_T24 l0 x11_2).f1, (rd_T24 l0 x11_2).f2, (rd_T24 l0 x11_2).f3⟩ : S24) (Kd.V_reads' (Kd.V_mono (ok' := (fun k_ => ((P0_ k_ ∨ P1_1_ k_ ∨ P1_2_ k_) ∨ w.heap.size ≤ k_) ∧ some k_ ≠ (u10 : Value).ownBlock ∧ k_ ≠ gb223)) (HLq6.out) (fun k_ hk => ⟨hk.1, ⟨hk.2.1, hk.2.2⟩⟩))).2.1 (Kd.V_F (Kd.V_mono (ok' := (fun k_ => ((P0_ k_ ∨ P1_1_ k_ ∨ P1_2_ k_) ∨ w.heap.size ≤ k_) ∧ some k_ ≠ (u10 : Value).ownBlock ∧ k_ ≠ gb223)) (HLq6.out) (fun k_ hk => ⟨hk.1, ⟨hk.2.1, hk.2.2⟩⟩))) (Kd.V_reads' (Kd.V_mono (ok' := (fun k_ => ((P0_ k_ ∨ P1_1_ k_ ∨ P1_2_ k_) ∨ w.heap.size ≤ k_) ∧ some k_ ≠ (u10 : Value).ownBlock ∧ k_ ≠ gb223)) (HLq7.out) (fun k_ hk => ⟨hk.1, ⟨hk.2.1, hk.2.2⟩⟩))).2.1 (Kd.V_F (Kd.V_mono (ok' := (fun k_ => ((P0_ k_ ∨ P1_1_ k_ ∨ P1_2_ k_) ∨ w.heap.size ≤ k_) ∧ some k_ ≠ (u10 : Value).ownBlock ∧ k_ ≠ gb223)) (HLq7.out) (fun k_ hk => ⟨hk.1, ⟨hk.2.1, hk.2.2⟩⟩))))) (Reps.none _ _))); intro v253 w52 ho53 hb hg_ hnew_; clear hg_ hnew_; (first | rw [← Ny252.out] at ho53 | (simp only [Int.reduceToNat] at ho53; rw [← Ny252.out] at ho53)); replace HO_0 := aM (Kd.V_elder' (vU HO_0.out) (by first | exact Kd.N_base ho53 | exact Kd.S_base ho53 | exact Kd.R_base ho53) hb); replace HO_10 := aM (Kd.N_elder' (nU HO_10.out) (by first | exact Kd.N_base ho53 | exact Kd.S_base ho53 | exact Kd.R_base ho53) hb); replace HOq0 := aM (Kd.V_elder' (vU HOq0.out) (by first | exact Kd.N_base ho53 | exact Kd.S_base ho53 | exact Kd.R_base ho53) hb); replace HOq1 := aM (Kd.V_elder' (vU HOq1.out) (by first | exact Kd.N_base ho53 | exact Kd.S_base ho53 | exact Kd.R_base ho53) hb); replace HLq0 := aM (Kd.V_elder' (vU HLq0.out) (by first | exact Kd.N_base ho53 | exact Kd.S_base ho53 | exact Kd.R_base ho53) hb); replace HLq1 := aM (Kd.V_elder' (vU HLq1.out) (by first | exact Kd.N_base ho53 | exact Kd.S_base ho53 | exact Kd.R_base ho53) hb); replace HLq4 := aM (Kd.V_elder' (vU HLq4.out) (by first | exact Kd.N_base ho53 | exact Kd.S_base ho53 | exact Kd.R_base ho53) hb); replace HLq5 := aM (Kd.V_elder' (vU HLq5.out) (by first | exact Kd.N_base ho53 | exact Kd.S_base ho53 | exact Kd.R_base ho53) hb); replace HLq6 := aM (Kd.V_elder' (vU HLq6.out) (by first | exact Kd.N_base ho53 | exact Kd.S_base ho53 | exact Kd.R_base ho53) hb); replace HLq7 := aM (Kd.V_elder' (vU HLq7.out) (by first | exact Kd.N_base ho53 | exact Kd.S_base ho53 | exact Kd.R_base ho53) hb); have HO254 := aM (Kd.N_lower ho53 (below_size (by repeat (first | (with_reducible first | exact HB.out | apply bA | apply bN | apply bD | refine bS ?_ GE223.out) | exact HB.out)))); replace BK223 := aM (kB (g := gb223) (o := .cells #[.int .i64 a1_0, .slice A1_1 l1_1.length c1_1, .slice A1_2 l1_2.length c1_2, .bool a1_3] 24 (0, 0)) (bU BK223.out) hb); replace HRq0 := aM (Kd.C_below (cU HRq0.out) hb); replace HRq1 := aM (Kd.C_below (cU HRq1.out) hb); replace HRq2 := aM (Kd.C_below (cU HRq2.out) hb); replace HRq3 := aM (Kd.C_below (cU HRq3.out) hb); replace HRq8 := aM (Kd.C_below (cU HRq8.out) hb); replace HRq9 := aM (Kd.C_below (cU HRq9.out) hb); replace HB := aM (below_step (by repeat (first | (with_reducible first | exact HB.out | apply bA | apply bN | apply bD | refine bS ?_ GE223.out) | exact HB.out)) hb); clear hb ho53; obtain ⟨Ao55, co55, eo55⟩ := Kd.N_slice HO254.out; subst eo55) | ((with_reducible refine gate_builtin (b := .append) (xs := #[.tmp 66, .tmp 71]) rfl ?_); at_builtin; refine Kd.N_append_rows k24 (w0 := w) w.heap.size rfl (.tmp 66) (.tmp 71) 32 24 (.agg #[(.int .i64 0), (.slice none 0 0), (.slice none 0 0), (.bool false)]) 64 rfl Try.underlying32 info24 rfl (by decide) (by omega) u10 x10_2 y252 _ _ _ (fun k_ => ((P0_ k_ ∨ P1_1_ k_ ∨ P1_2_ k_) ∨ w.heap.size ≤ k_) ∧ k_ ≠ gb223) (fun k_ => ((fun k_ => ((P0_ k_ ∨ P1_1_ k_ ∨ P1_2_ k_) ∨ w.heap.size ≤ k_) ∧ k_ ≠ gb223)) k_ ∧ some k_ ≠ (u10 : Value).ownBlock) rfl rfl ?aO ?aR (fun _ hk => hk) ?aF ?aB ?aS ?aL ?_; (case aR => exact (by skip; exact Kd.N_F (Kd.N_mono (ok' := (fun k_ => ((fun k_ => ((P0_ k_ ∨ P1_1_ k_ ∨ P1_2_ k_) ∨ w.heap.size ≤ k_) ∧ k_ ≠ gb223)) k_ ∧ some k_ ≠ (u10 : Value).ownBlock)) (HO254.out) (fun k_ hk => ⟨⟨hk.1, hk.2.2⟩, hk.2.1⟩)))); (case aB => exact (by repeat (first | (with_reducible first | exact HB.out | apply bA | apply bN | apply bD | refine bS ?_ GE223.out) | exact HB.out))); (case aF => exact (fun k_ hk => ⟨(.inr (Nat.le_trans (below_size (by repeat (first | (with_reducible first | exact HB.out | apply bA | apply bN | apply bD | refine bS ?_ GE223.out) | exact HB.out))) hk)), Kd.freshB (g := gb223) (o := .cells #[.int .i64 a1_0, .slice A1_1 l1_1.length c1_1, .slice A1_2 l1_2.length c1_2, .bool a1_3] 24 (0, 0)) (bU BK223.out) k_ hk⟩)); (case aO => exact (by (with_reducible repeat (first | apply Kd.N_alloc | apply Kd.N_drewN | apply Kd.N_drew)); exact Kd.N_mono HO_10.out (fun _ hk => ⟨hk.1.1, hk.1.2⟩))); (case aS => exact (below_size (by repeat (first | (with_reducible first | exact HB.out | apply bA | apply bN | apply bD | refine bS ?_ GE223.out) | exact HB.out)))); (case aL => have := LMc47.out; omega); intro v256 w54 ho hb hg hat; rw [← Ny255.out] at ho; have n0_ := aM (Kd.V_afterv (ok := (fun k_ => ((P0_ k_ ∨ P1_1_ k_ ∨ P1_2_ k_) ∨ w.heap.size ≤ k_) ∧ some k_ ≠ (.slice Ao55 y252.length co55 : Value).ownBlock ∧ k_ ≠ gb223)) (by (with_reducible repeat (first | apply Kd.V_alloc | apply Kd.V_drewN | apply Kd.V_drew)); exact Kd.V_mono HO_0.out (fun _ hk => ⟨⟨hk.1.1, ⟨hk.2, hk.1.2.2⟩⟩, hk.1.2.1⟩)) hg hat); have n1_ := aM (Kd.V_afterv (ok := (fun k_ => ((P0_ k_ ∨ P1_1_ k_ ∨ P1_2_ k_) ∨ w.heap.size ≤ k_) ∧ some k_ ≠ (.slice Ao55 y252.length co55 : Value).ownBlock ∧ k_ ≠ gb223)) (by (with_reducible repeat (first | apply Kd.V_alloc | apply Kd.V_drewN | apply Kd.V_drew)); exact Kd.V_mono HOq0.out (fun _ hk => ⟨⟨hk.1.1, ⟨hk.2, hk.1.2.2⟩⟩, hk.1.2.1⟩)) hg hat); have n2_ := aM (Kd.V_afterv (ok := (fun k_ => ((P0_ k_ ∨ P1_1_ k_ ∨ P1_2_ k_) ∨ w.heap.size ≤ k_) ∧ some k_ ≠ (.slice Ao55 y252.length co55 : Value).ownBlock ∧ k_ ≠ gb223)) (by (with_reducible repeat (first | apply Kd.V_alloc | apply Kd.V_drewN | apply Kd.V_drew)); exact Kd.V_mono HOq1.out (fun _ hk => ⟨⟨hk.1.1, ⟨hk.2, hk.1.2.2⟩⟩, hk.1.2.1⟩)) hg hat); have n3_ := aM (blk_grown (g := gb223) (o := .cells #[.int .i64 a1_0, .slice A1_1 l1_1.length c1_1, .slice A1_2 l1_2.length c1_2, .bool a1_3] 24 (0, 0)) (bU BK223.out) hg (Kd.N_away HO_10.out (fun _ hk => hk.1.2))); have n4_ := aM (Kd.V_afterv (ok := (fun k_ => ((P0_ k_ ∨ P1_1_ k_ ∨ P1_2_ k_) ∨ w.heap.size ≤ k_) ∧ some k_ ≠ (.slice Ao55 y252.length co55 : Value).ownBlock ∧ k_ ≠ gb223)) (by (with_reducible repeat (first | apply Kd.V_alloc | apply Kd.V_drewN | apply Kd.V_drew)); exact Kd.V_mono HLq0.out (fun _ hk => ⟨⟨hk.1.1, ⟨hk.2, hk.1.2.2⟩⟩, hk.1.2.1⟩)) hg hat); have n5_ := aM (Kd.V_afterv (ok := (fun k_ => ((P0_ k_ ∨ P1_1_ k_ ∨ P1_2_ k_) ∨ w.heap.size ≤ k_) ∧ some k_ ≠ (.slice Ao55 y252.length co55 : Value).ownBlock ∧ k_ ≠ gb223)) (by (with_reducible repeat (first | apply Kd.V_alloc | apply Kd.V_drewN | apply Kd.V_drew)); exact Kd.V_mono HLq1.out (fun _ hk => ⟨⟨hk.1.1, ⟨hk.2, hk.1.2.2⟩⟩, hk.1.2.1⟩)) hg hat); have n6_ := aM (Kd.V_afterv (ok := (fun k_ => ((P0_ k_ ∨ P1_1_ k_ ∨ P1_2_ k_) ∨ w.heap.size ≤ k_) ∧ some k_ ≠ (.slice Ao55 y252.length co55 : Value).ownBlock ∧ k_ ≠ gb223)) (by (with_reducible repeat (first | apply Kd.V_alloc | apply Kd.V_drewN | apply Kd.V_drew)); exact Kd.V_mono HLq4.out (fun _ hk => ⟨⟨hk.1.1, ⟨hk.2, hk.1.2.2⟩⟩, hk.1.2.1⟩)) hg hat); have n7_ := aM (Kd.V_afterv (ok := (fun k_ => ((P0_ k_ ∨ P1_1_ k_ ∨ P1_2_ k_) ∨ w.heap.size ≤ k_) ∧ some k_ ≠ (.slice Ao55 y252.length co55 : Value).ownBlock ∧ k_ ≠ gb223)) (by (with_reducible repeat (first | apply Kd.V_alloc | apply Kd.V_drewN | apply Kd.V_drew)); exact Kd.V_mono HLq5.out (fun _ hk => ⟨⟨hk.1.1, ⟨hk.2, hk.1.2.2⟩⟩, hk.1.2.1⟩)) hg hat); have n8_ := aM (Kd.V_afterv (ok := (fun k_ => ((P0_ k_ ∨ P1_1_ k_ ∨ P1_2_ k_) ∨ w.heap.size ≤ k_) ∧ some k_ ≠ (.slice Ao55 y252.length co55 : Value).ownBlock ∧ k_ ≠ gb223)) (by (with_reducible repeat (first | apply Kd.V_alloc | apply Kd.V_drewN | apply Kd.V_drew)); exact Kd.V_mono HLq6.out (fun _ hk => ⟨⟨hk.1.1, ⟨hk.2, hk.1.2.2⟩⟩, hk.1.2.1⟩)) hg hat); have n9_ := aM (Kd.V_afterv (ok := (fun k_ => ((P0_ k_ ∨ P1_1_ k_ ∨ P1_2_ k_) ∨ w.heap.size ≤ k_) ∧ some k_ ≠ (.slice Ao55 y252.length co55 : Value).ownBlock ∧ k_ ≠ gb223)) (by (with_reducible repeat (first | apply Kd.V_alloc | apply Kd.V_drewN | apply Kd.V_drew)); exact Kd.V_mono HLq7.out (fun _ hk => ⟨⟨hk.1.1, ⟨hk.2, hk.1.2.2⟩⟩, hk.1.2.1⟩)) hg hat); have n10_ := aM (Kd.N_afterv (ok := (fun k_ => ((P0_ k_ ∨ P1_1_ k_ ∨ P1_2_ k_) ∨ w.heap.size ≤ k_) ∧ k_ ≠ gb223)) (by (with_reducible repeat (first | apply Kd.N_alloc | apply Kd.N_drewN | apply Kd.N_drew)); exact Kd.N_mono HO254.out (fun _ hk => ⟨⟨hk.1, hk.2.2⟩, hk.2.1⟩)) hg hat); have n11_ := aM (hb); have n12_ := aM (ho); clear HO_0; clear HOq0; clear HOq1; clear BK223; clear HLq0; clear HLq1; clear HLq4; clear HLq5; clear HLq6; clear HLq7; clear HO254; clear HB; clear HO_10; have HO_0 := n0_; have HOq0 := n1_; have HOq1 := n2_; have BK223 := n3_; have HLq0 := n4_; have HLq1 := n5_; have HLq4 := n6_; have HLq5 := n7_; have HLq6 := n8_; have HLq7 := n9_; have HO254 := n10_; have HB := n11_; have HO257 := n12_; clear n0_ n1_ n2_ n3_ n4_ n5_ n6_ n7_ n8_ n9_ n10_ n11_ n12_; clear ho hb hg hat))
              go_roundg k2
              case measure => have := HJ6.out; have := HK2.out; omega
              case rel => exact ⟨(y255), (wrap64 (x11_2 + 1)), (by first | rfl | (simp; done) | (simp [*]; done)), H', ⟨by have := HJ6.out; have := HK2.out; omega⟩, ⟨by (with_reducible repeat (first | apply Kd.V_alloc | apply Kd.V_drewN | apply Kd.V_drew)); exact Kd.V_mono HO_0.out (fun _ hk => ⟨hk.1.1, ⟨hk.2, hk.1.2.2⟩⟩)⟩, ⟨by (with_reducible repeat (first | apply Kd.N_alloc | apply Kd.N_drewN | apply Kd.N_drew)); exact HO257.out⟩, ⟨by (with_reducible repeat (first | apply Kd.V_alloc | apply Kd.V_drewN | apply Kd.V_drew)); exact Kd.V_mono HOq0.out (fun _ hk => ⟨hk.1.1, ⟨hk.2, hk.1.2.2⟩⟩)⟩, ⟨by (with_reducible repeat (first | apply Kd.V_alloc | apply Kd.V_drewN | apply Kd.V_drew)); exact Kd.V_mono HOq1.out (fun _ hk => ⟨hk.1.1, ⟨hk.2, hk.1.2.2⟩⟩)⟩, ⟨by (with_reducible repeat (first | refine blk_drewN ?_ _ | refine blk_drew ?_ | refine blk_alloc ?_ _)); exact BK223.out⟩, ⟨by repeat (first | (with_reducible first | exact HB.out | apply bA | apply bN | apply bD | refine bS ?_ GE223.out) | exact HB.out)⟩⟩
             ·
              rw [if_neg c47] at H
              exact absurd H (by simp)
          ·
           rw [if_neg c34] at H
           exact absurd H (by simp)
         ·
          rw [if_neg c33] at H
          have c33b0 : decide (x11_2 < (l0.length : Int)) = false := decide_eq_false c33
          clear c33
          obtain ⟨y258, hy258⟩ : ∃ y_ : List (S24), y_ = (([(⟨a1_0, l1_1, l1_2, a1_3⟩ : S24)] : List (S24))) := ⟨_, rfl⟩
          replace H : (if x10_2.length + y258.length < 2199023255552 then (banksmanref10_Add.l1 k2 a2 (x10_2 ++ y258) 0 0 a1_0 l1_1 l1_2 a1_3) else (none)) = some (r1, r2) := by first | (rw [hy258]; with_reducible exact H) | (have H2_ := (Option.bind_some _ _).symm.trans H; rw [hy258]; with_reducible exact H2_) | (have H2_ := (Option.bind_some _ _).symm.trans H; with_reducible exact H2_) | with_reducible exact H | (rw [hy258]; exact H) | exact H
          have Ny258 := aM hy258
          clear hy258
          by_cases c56 : x10_2.length + y258.length < 2199023255552
          ·
           rw [if_pos c56] at H
           have LMc56 := aM c56
           clear c56
           obtain ⟨y261, hy261⟩ : ∃ y_ : List (S24), y_ = (x10_2 ++ y258) := ⟨_, rfl⟩
           replace H : (banksmanref10_Add.l1 k2 a2 y261 0 0 a1_0 l1_1 l1_2 a1_3) = some (r1, r2) := by first | (rw [hy261]; with_reducible exact H) | (have H2_ := (Option.bind_some _ _).symm.trans H; rw [hy261]; with_reducible exact H2_) | (have H2_ := (Option.bind_some _ _).symm.trans H; with_reducible exact H2_) | with_reducible exact H | (rw [hy261]; exact H) | exact H
           have Ny261 := aM hy261
           clear hy261
           have H' := aM H
           clear H
           have hcz57_0 : wr.cell? ⟨gb223, 0, none⟩ = some (.int .i64 a1_0) := (kC BK223.out 0).trans rfl
           have hcz57_1 : wr.cell? ⟨gb223, 1, none⟩ = some (.slice A1_1 l1_1.length c1_1) := (kC BK223.out 1).trans rfl
           have hcz57_2 : wr.cell? ⟨gb223, 2, none⟩ = some (.slice A1_2 l1_2.length c1_2) := (kC BK223.out 2).trans rfl
           have hcz57_3 : wr.cell? ⟨gb223, 3, none⟩ = some (.bool a1_3) := (kC BK223.out 3).trans rfl
           have hfz57_0 := kF BK223.out 0
           have hfz57_1 := kF BK223.out 1
           have hfz57_2 := kF BK223.out 2
           have hfz57_3 := kF BK223.out 3
           go_wp2_with (first | ((with_reducible refine gate_dst (N := 75) rfl ?_); refine Kd.N_lit k24 _ 24 ?hg (N' := 75) ?hd (xs := ([(⟨a1_0, l1_1, l1_2, a1_3⟩ : S24)] : List (S24))) (inner := [.int .i64 a1_0, .slice A1_1 l1_1.length c1_1, .slice A1_2 l1_2.length c1_2, .bool a1_3]) (ok := (fun k_ => ((P0_ k_ ∨ P1_1_ k_ ∨ P1_2_ k_) ∨ w.heap.size ≤ k_) ∧ some k_ ≠ (u10 : Value).ownBlock ∧ k_ ≠ gb223)) (okp := (fun k_ => ((P0_ k_ ∨ P1_1_ k_ ∨ P1_2_ k_) ∨ w.heap.size ≤ k_) ∧ some k_ ≠ (u10 : Value).ownBlock ∧ k_ ≠ gb223)) ?hr ?hp (fun _ hk => hk) ((show ∀ k_, wr.heap.size ≤ k_ → (fun k_ => ((P0_ k_ ∨ P1_1_ k_ ∨ P1_2_ k_) ∨ w.heap.size ≤ k_) ∧ some k_ ≠ (u10 : Value).ownBlock ∧ k_ ≠ gb223) k_ from fun k_ hk => ⟨(.inr (Nat.le_trans (below_size (by repeat (first | (with_reducible first | exact HB.out | apply bA | apply bN | apply bD | refine bS ?_ GE223.out) | exact HB.out))) hk)), Kd.fresh' (Kd.N_lt (nU HO_10.out)) k_ hk, Kd.freshB (g := gb223) (o := .cells #[.int .i64 a1_0, .slice A1_1 l1_1.length c1_1, .slice A1_2 l1_2.length c1_2, .bool a1_3] 24 (0, 0)) (bU BK223.out) k_ hk⟩) _ (Nat.le_refl _)) (Below.refl _ _) (Nat.le_refl _) (by simp) ?_; (case hd => rfl); (case hg => rfl); (case hr => first | (go_simp; done) | (go_simp; rfl)); (case hp => exact (Reps.c4 (show Kd.FK k24 _ _ (⟨a1_0, l1_1, l1_2, a1_3⟩ : S24) [.int .i64 a1_0, .slice A1_1 l1_1.length c1_1, .slice A1_2 l1_2.length c1_2, .bool a1_3] from (k24_mkF _ _ (⟨a1_0, l1_1, l1_2, a1_3⟩ : S24) (Kd.V_reads' (Kd.V_mono (ok' := (fun k_ => ((P0_ k_ ∨ P1_1_ k_ ∨ P1_2_ k_) ∨ w.heap.size ≤ k_) ∧ some k_ ≠ (u10 : Value).ownBlock ∧ k_ ≠ gb223)) (HOq0.out) (fun k_ hk => ⟨hk.1, ⟨hk.2.1, hk.2.2⟩⟩))).2.1 (Kd.V_F (Kd.V_mono (ok' := (fun k_ => ((P0_ k_ ∨ P1_1_ k_ ∨ P1_2_ k_) ∨ w.heap.size ≤ k_) ∧ some k_ ≠ (u10 : Value).ownBlock ∧ k_ ≠ gb223)) (HOq0.out) (fun k_ hk => ⟨hk.1, ⟨hk.2.1, hk.2.2⟩⟩))) (Kd.V_reads' (Kd.V_mono (ok' := (fun k_ => ((P0_ k_ ∨ P1_1_ k_ ∨ P1_2_ k_) ∨ w.heap.size ≤ k_) ∧ some k_ ≠ (u10 : Value).ownBlock ∧ k_ ≠ gb223)) (HOq1.out) (fun k_ hk => ⟨hk.1, ⟨hk.2.1, hk.2.2⟩⟩))).2.1 (Kd.V_F (Kd.V_mono (ok' := (fun k_ => ((P0_ k_ ∨ P1_1_ k_ ∨ P1_2_ k_) ∨ w.heap.size ≤ k_) ∧ some k_ ≠ (u10 : Value).ownBlock ∧ k_ ≠ gb223)) (HOq1.out) (fun k_ hk => ⟨hk.1, ⟨hk.2.1, hk.2.2⟩⟩))))) (Reps.none _ _))); intro v259 w58 ho59 hb hg_ hnew_; clear hg_ hnew_; (first | rw [← Ny258.out] at ho59 | (simp only [Int.reduceToNat] at ho59; rw [← Ny258.out] at ho59)); replace HO_0 := aM (Kd.V_elder' (vU HO_0.out) (by first | exact Kd.N_base ho59 | exact Kd.S_base ho59 | exact Kd.R_base ho59) hb); replace HO_10 := aM (Kd.N_elder' (nU HO_10.out) (by first | exact Kd.N_base ho59 | exact Kd.S_base ho59 | exact Kd.R_base ho59) hb); replace HOq0 := aM (Kd.V_elder' (vU HOq0.out) (by first | exact Kd.N_base ho59 | exact Kd.S_base ho59 | exact Kd.R_base ho59) hb); replace HOq1 := aM (Kd.V_elder' (vU HOq1.out) (by first | exact Kd.N_base ho59 | exact Kd.S_base ho59 | exact Kd.R_base ho59) hb); have HO260 := aM (Kd.N_lower ho59 (below_size (by repeat (first | (with_reducible first | exact HB.out | apply bA | apply bN | apply bD | refine bS ?_ GE223.out) | exact HB.out)))); replace BK223 := aM (kB (g := gb223) (o := .cells #[.int .i64 a1_0, .slice A1_1 l1_1.length c1_1, .slice A1_2 l1_2.length c1_2, .bool a1_3] 24 (0, 0)) (bU BK223.out) hb); replace HB := aM (below_step (by repeat (first | (with_reducible first | exact HB.out | apply bA | apply bN | apply bD | refine bS ?_ GE223.out) | exact HB.out)) hb); clear hb ho59; obtain ⟨Ao61, co61, eo61⟩ := Kd.N_slice HO260.out; subst eo61) | ((with_reducible refine gate_builtin (b := .append) (xs := #[.tmp 73, .tmp 75]) rfl ?_); at_builtin; refine Kd.N_append_rows k24 (w0 := w) w.heap.size rfl (.tmp 73) (.tmp 75) 32 24 (.agg #[(.int .i64 0), (.slice none 0 0), (.slice none 0 0), (.bool false)]) 64 rfl Try.underlying32 info24 rfl (by decide) (by omega) u10 x10_2 y258 _ _ _ (fun k_ => ((P0_ k_ ∨ P1_1_ k_ ∨ P1_2_ k_) ∨ w.heap.size ≤ k_) ∧ k_ ≠ gb223) (fun k_ => ((fun k_ => ((P0_ k_ ∨ P1_1_ k_ ∨ P1_2_ k_) ∨ w.heap.size ≤ k_) ∧ k_ ≠ gb223)) k_ ∧ some k_ ≠ (u10 : Value).ownBlock) rfl rfl ?aO ?aR (fun _ hk => hk) ?aF ?aB ?aS ?aL ?_; (case aR => exact (by skip; exact Kd.N_F (Kd.N_mono (ok' := (fun k_ => ((fun k_ => ((P0_ k_ ∨ P1_1_ k_ ∨ P1_2_ k_) ∨ w.heap.size ≤ k_) ∧ k_ ≠ gb223)) k_ ∧ some k_ ≠ (u10 : Value).ownBlock)) (HO260.out) (fun k_ hk => ⟨⟨hk.1, hk.2.2⟩, hk.2.1⟩)))); (case aB => exact (by repeat (first | (with_reducible first | exact HB.out | apply bA | apply bN | apply bD | refine bS ?_ GE223.out) | exact HB.out))); (case aF => exact (fun k_ hk => ⟨(.inr (Nat.le_trans (below_size (by repeat (first | (with_reducible first | exact HB.out | apply bA | apply bN | apply bD | refine bS ?_ GE223.out) | exact HB.out))) hk)), Kd.freshB (g := gb223) (o := .cells #[.int .i64 a1_0, .slice A1_1 l1_1.length c1_1, .slice A1_2 l1_2.length c1_2, .bool a1_3] 24 (0, 0)) (bU BK223.out) k_ hk⟩)); (case aO => exact (by (with_reducible repeat (first | apply Kd.N_alloc | apply Kd.N_drewN | apply Kd.N_drew)); exact Kd.N_mono HO_10.out (fun _ hk => ⟨hk.1.1, hk.1.2⟩))); (case aS => exact (below_size (by repeat (first | (with_reducible first | exact HB.out | apply bA | apply bN | apply bD | refine bS ?_ GE223.out) | exact HB.out)))); (case aL => have := LMc56.out; omega); intro v262 w60 ho hb hg hat; rw [← Ny261.out] at ho; have n0_ := aM (Kd.V_afterv (ok := (fun k_ => ((P0_ k_ ∨ P1_1_ k_ ∨ P1_2_ k_) ∨ w.heap.size ≤ k_) ∧ some k_ ≠ (.slice Ao61 y258.length co61 : Value).ownBlock ∧ k_ ≠ gb223)) (by (with_reducible repeat (first | apply Kd.V_alloc | apply Kd.V_drewN | apply Kd.V_drew)); exact Kd.V_mono HO_0.out (fun _ hk => ⟨⟨hk.1.1, ⟨hk.2, hk.1.2.2⟩⟩, hk.1.2.1⟩)) hg hat); have n1_ := aM (Kd.V_afterv (ok := (fun k_ => ((P0_ k_ ∨ P1_1_ k_ ∨ P1_2_ k_) ∨ w.heap.size ≤ k_) ∧ some k_ ≠ (.slice Ao61 y258.length co61 : Value).ownBlock ∧ k_ ≠ gb223)) (by (with_reducible repeat (first | apply Kd.V_alloc | apply Kd.V_drewN | apply Kd.V_drew)); exact Kd.V_mono HOq0.out (fun _ hk => ⟨⟨hk.1.1, ⟨hk.2, hk.1.2.2⟩⟩, hk.1.2.1⟩)) hg hat); have n2_ := aM (Kd.V_afterv (ok := (fun k_ => ((P0_ k_ ∨ P1_1_ k_ ∨ P1_2_ k_) ∨ w.heap.size ≤ k_) ∧ some k_ ≠ (.slice Ao61 y258.length co61 : Value).ownBlock ∧ k_ ≠ gb223)) (by (with_reducible repeat (first | apply Kd.V_alloc | apply Kd.V_drewN | apply Kd.V_drew)); exact Kd.V_mono HOq1.out (fun _ hk => ⟨⟨hk.1.1, ⟨hk.2, hk.1.2.2⟩⟩, hk.1.2.1⟩)) hg hat); have n3_ := aM (blk_grown (g := gb223) (o := .cells #[.int .i64 a1_0, .slice A1_1 l1_1.length c1_1, .slice A1_2 l1_2.length c1_2, .bool a1_3] 24 (0, 0)) (bU BK223.out) hg (Kd.N_away HO_10.out (fun _ hk => hk.1.2))); have n4_ := aM (Kd.N_afterv (ok := (fun k_ => ((P0_ k_ ∨ P1_1_ k_ ∨ P1_2_ k_) ∨ w.heap.size ≤ k_) ∧ k_ ≠ gb223)) (by (with_reducible repeat (first | apply Kd.N_alloc | apply Kd.N_drewN | apply Kd.N_drew)); exact Kd.N_mono HO260.out (fun _ hk => ⟨⟨hk.1, hk.2.2⟩, hk.2.1⟩)) hg hat); have n5_ := aM (hb); have n6_ := aM (ho); clear HO_0; clear HOq0; clear HOq1; clear BK223; clear HO260; clear HB; clear HO_10; have HO_0 := n0_; have HOq0 := n1_; have HOq1 := n2_; have BK223 := n3_; have HO260 := n4_; have HB := n5_; have HO263 := n6_; clear n0_ n1_ n2_ n3_ n4_ n5_ n6_; clear ho hb hg hat))
           go_loopg [14, 15] k2 (fun kq v14 v15 w' => ∃ (x14_3 : Int) (x15_3 : Int), v14 = .int .i64 x14_3 ∧ v15 = .int .i64 x15_3 ∧ Aside0 (banksmanref10_Add.l1 kq a2 y261 x14_3 x15_3 a1_0 l1_1 l1_2 a1_3 = some (r1, r2)) ∧ Aside0 (kq ≤ k2) ∧ Aside0 (Kd.N k24 24 w' w.heap.size (fun k_ => ((P0_ k_ ∨ P1_1_ k_ ∨ P1_2_ k_) ∨ w.heap.size ≤ k_) ∧ k_ ≠ gb223) v262 y261) ∧ Aside0 (Kd.V (Kd.int .u8) 5 w' w.heap.size (fun k_ => ((P0_ k_ ∨ P1_1_ k_ ∨ P1_2_ k_) ∨ w.heap.size ≤ k_) ∧ some k_ ≠ (v262 : Value).ownBlock ∧ k_ ≠ gb223) (.slice A1_1 l1_1.length c1_1) l1_1) ∧ Aside0 (Kd.V (Kd.int .u8) 5 w' w.heap.size (fun k_ => ((P0_ k_ ∨ P1_1_ k_ ∨ P1_2_ k_) ∨ w.heap.size ≤ k_) ∧ some k_ ≠ (v262 : Value).ownBlock ∧ k_ ≠ gb223) (.slice A1_2 l1_2.length c1_2) l1_2) ∧ Aside0 (w'.heap[gb223]? = some (.cells #[.int .i64 a1_0, (.slice A1_1 l1_1.length c1_1), (.slice A1_2 l1_2.length c1_2), .bool a1_3] 24 (0, 0))) ∧ Aside0 (Below w.heap.size w w'))
           case atStart => exact ⟨(0), (0), (by first | rfl | (simp; done) | (simp [*]; done)), (by first | rfl | (simp; done) | (simp [*]; done)), H', ⟨Nat.le_refl _⟩, ⟨by (with_reducible repeat (first | apply Kd.N_alloc | apply Kd.N_drewN | apply Kd.N_drew)); exact HO263.out⟩, ⟨by (with_reducible repeat (first | apply Kd.V_alloc | apply Kd.V_drewN | apply Kd.V_drew)); exact Kd.V_mono HOq0.out (fun _ hk => ⟨hk.1.1, ⟨hk.2, hk.1.2.2⟩⟩)⟩, ⟨by (with_reducible repeat (first | apply Kd.V_alloc | apply Kd.V_drewN | apply Kd.V_drew)); exact Kd.V_mono HOq1.out (fun _ hk => ⟨hk.1.1, ⟨hk.2, hk.1.2.2⟩⟩)⟩, ⟨by (with_reducible repeat (first | refine blk_drewN ?_ _ | refine blk_drew ?_ | refine blk_alloc ?_ _)); exact BK223.out⟩, ⟨by repeat (first | (with_reducible first | exact HB.out | apply bA | apply bN | apply bD | refine bS ?_ GE223.out) | exact HB.out)⟩⟩
           case round =>
            clear H'
            try clear c1
            try clear c2
            try clear p2
            try clear q2
            try clear hx2
            try clear c3
            try clear c4
            try clear c5
            try clear p6
            try clear c23
            try clear c24
            try clear p24
            try clear q24
            try clear hx24
            try clear c25
            try clear p25
            try clear q25
            try clear hx25
            try clear c33
            try clear c33b0
            try clear c34
            try clear c42
            try clear c47
            try clear c56
            try clear hcz57_0
            try clear hcz57_1
            try clear hcz57_2
            try clear hcz57_3
            try clear hfz57_0
            try clear hfz57_1
            try clear hfz57_2
            try clear hfz57_3
            try clear hx244_0
            try clear hx244_1
            try clear hx244_2
            try clear hx244_3
            try clear hx249_0
            try clear hx249_1
            try clear hx249_2
            try clear hx249_3
            try clear hx251_0
            try clear hx251_1
            try clear hx251_2
            try clear hx251_3
            try clear p244
            try clear p249
            try clear p251
            try clear q244
            try clear q249
            try clear q251
            obtain ⟨x14_3, x15_3, rfl, rfl, HA, HK3, HO_10, HOq0, HOq1, BK223, HB⟩ := hrel
            cases gk with
            | zero => exact absurd HA.out (by simp [banksmanref10_Add.l1])
            | succ k3 =>
             have H := HA.out
             clear HA
             simp only [banksmanref10_Add.l1] at H
             by_cases c62 : x15_3 < (y261.length : Int)
             ·
              rw [if_pos c62] at H
              have c62b0 : decide (x15_3 < (y261.length : Int)) = true := decide_eq_true c62
              clear c62
              by_cases c63 : 0 ≤ x15_3
              ·
               rw [if_pos c63] at H
               have c63b0 : decide (0 ≤ x15_3) = true := decide_eq_true c63
               clear c63
               by_cases c64 : ((rd_T24 y261 x15_3).f0) = a1_0
               ·
                rw [if_pos c64] at H
                have c64b0 : (((rd_T24 y261 x15_3).f0) == a1_0) = true := beq_iff_eq.mpr c64
                have c64b1 : (((rd_T24 y261 x15_3).f0) != a1_0) = false := bne_eq_false_iff_eq.mpr c64
                clear c64
                have H' := aM H
                clear H
                obtain ⟨Ao65, co65, eo65⟩ := Kd.N_slice HO_10.out
                subst eo65
                try go_wp2
                have n0_ := aM (Kd.N_drew HO_10.out)
                have n1_ := aM (Kd.V_drew HOq0.out)
                have n2_ := aM (Kd.V_drew HOq1.out)
                have n3_ := aM (blk_drew BK223.out)
                have n4_ := aM (bD HB.out)
                clear HO_10
                clear HOq0
                clear HOq1
                clear BK223
                clear HB
                have HO_10 := n0_
                have HOq0 := n1_
                have HOq1 := n2_
                have BK223 := n3_
                have HB := n4_
                clear n0_ n1_ n2_ n3_ n4_
                have p264 : 0 ≤ (x15_3 : Int) := of_decide_eq_true (by first | (with_reducible assumption) | assumption)
                have q264 : x15_3 < (y261.length : Int) := of_decide_eq_true (by first | (with_reducible assumption) | assumption)
                obtain ⟨ad264, A264_1, c264_1, A264_2, c264_2, e264, hx264_0, hx264_1, hx264_2, hx264_3, hl264_1, hi264_1, hl264_2, hi264_2⟩ := at_T24 (Kd.N_reads' HO_10.out).2.2 x15_3 p264 q264
                cases e264
                obtain ⟨ce264, hce264, hMe264, hcc264⟩ := Kd.N_get HO_10.out z24 x15_3 p264 (by first | exact q264 | exact of_decide_eq_true (by first | (with_reducible assumption) | assumption) | (have e_ := (Kd.N_reads' HO_10.out).1; omega))
                obtain ⟨ua264_1, uc264_1, ua264_2, uc264_2, rfl, ul264_1, ge264_1, ul264_2, ge264_2⟩ := k24_openF hMe264
                have hv264_1 := hcc264 1 _ rfl
                rw [add_field _ _ 1 (by omega)] at hv264_1
                replace hv264_1 := Option.some.inj (hv264_1.symm.trans hx264_1)
                injection hv264_1 with hva_ hvn_ hvc_
                rw [hva_] at ge264_1
                rw [hvc_] at ul264_1
                have HLq10 := aM (show Kd.V (Kd.int .u8) 5 _ w.heap.size _ _ ((rd_T24 y261 x15_3).f1) from Kd.V_mk ul264_1 ge264_1)
                clear hva_ hvn_ hvc_ ge264_1 ul264_1
                have hv264_2 := hcc264 2 _ rfl
                rw [add_field _ _ 2 (by omega)] at hv264_2
                replace hv264_2 := Option.some.inj (hv264_2.symm.trans hx264_2)
                injection hv264_2 with hva_ hvn_ hvc_
                rw [hva_] at ge264_2
                rw [hvc_] at ul264_2
                have HLq11 := aM (show Kd.V (Kd.int .u8) 5 _ w.heap.size _ _ ((rd_T24 y261 x15_3).f2) from Kd.V_mk ul264_2 ge264_2)
                clear hva_ hvn_ hvc_ ge264_2 ul264_2
                clear hcc264 hce264
                have HRq6 := aM hi264_1
                have HCq6 := aM hl264_1
                clear hi264_1 hl264_1
                have HRq7 := aM hi264_2
                have HCq7 := aM hl264_2
                clear hi264_2 hl264_2
                replace p264 := eq_true p264
                replace q264 := eq_true q264
                refine start_ (n := 8) (S := fun w' => w'.cell? ⟨gb223, 0, none⟩ = some (.int .i64 a1_0) ∧ w'.cell? ⟨gb223, 1, none⟩ = some (.slice A1_1 l1_1.length c1_1) ∧ w'.cell? ⟨gb223, 2, none⟩ = some (.slice A1_2 l1_2.length c1_2) ∧ w'.cell? ⟨gb223, 3, none⟩ = some (.bool a1_3) ∧ w'.cell? (ad264.add ((x15_3).toNat * 4)) = some (.int .i64 ((rd_T24 y261 x15_3).f0)) ∧ w'.cell? ⟨(ad264.add ((x15_3).toNat * 4)).block, (ad264.add ((x15_3).toNat * 4)).off + 1, none⟩ = some (.slice A264_1 ((rd_T24 y261 x15_3).f1).length c264_1) ∧ w'.cell? ⟨(ad264.add ((x15_3).toNat * 4)).block, (ad264.add ((x15_3).toNat * 4)).off + 2, none⟩ = some (.slice A264_2 ((rd_T24 y261 x15_3).f2).length c264_2) ∧ w'.cell? ⟨(ad264.add ((x15_3).toNat * 4)).block, (ad264.add ((x15_3).toNat * 4)).off + 3, none⟩ = some (.bool ((rd_T24 y261 x15_3).f3))) (ds := []) #[F_,F_,F_,F_,F_,F_,F_,F_] (by kernel_rfl) rfl rfl ⟨(kC BK223.out 0).trans rfl, (kC BK223.out 1).trans rfl, (kC BK223.out 2).trans rfl, (kC BK223.out 3).trans rfl, hx264_0, hx264_1, hx264_2, hx264_3⟩ (fun hHeld => ?_); refine with_tabW banksmanref10_Add.tab22 banksmanref10_Add.bits22 (fun HT_ HW_ => ?_)
                generalize wr.drew = w66 at HO_10 HOq0 HOq1 BK223 HB HLq10 HLq11 HRq6 HRq7 hx264_0 hx264_1 hx264_2 hx264_3 hHeld ⊢
                refine pure_ (i := 0) (N := some 83) (v := ?_) (a' := ?_) #[T_,F_,F_,F_,F_,F_,F_,F_] rfl rfl (any_of HT_.out (by kernel_rfl)) (fun _ _ _ h => h) (Or.inl ⟨by rfl, ?_⟩) ?_ ?_
                rotate_left
                ·
                 intro w'
                 go_simp
                 with_reducible rfl
                rotate_left
                ·
                 simp only [Act.put, List.setIfInBounds_toArray, List.set_cons_zero, List.set_cons_succ, i64_w, i32_w]
                 rfl
                refine pure_ (i := 1) (N := some 84) (v := ?_) (a' := ?_) #[T_,T_,F_,F_,F_,F_,F_,F_] rfl rfl (any_of HT_.out (by kernel_rfl)) (fun _ _ _ h => h) (Or.inl ⟨by rfl, ?_⟩) ?_ ?_
                rotate_left
                ·
                 intro w'
                 go_simp
                 with_reducible rfl
                rotate_left
                ·
                 simp only [Act.put, List.setIfInBounds_toArray, List.set_cons_zero, List.set_cons_succ, i64_w, i32_w]
                 rfl
                refine pure_ (i := 2) (N := some 85) (v := ?_) (a' := ?_) #[T_,T_,T_,F_,F_,F_,F_,F_] rfl rfl (any_of HT_.out (by kernel_rfl)) (fun _ _ _ h => h) (Or.inl ⟨by rfl, ?_⟩) ?_ ?_
                rotate_left
                ·
                 intro w'
                 go_simp
                 with_reducible rfl
                rotate_left
                ·
                 simp only [Act.put, List.setIfInBounds_toArray, List.set_cons_zero, List.set_cons_succ, i64_w, i32_w]
                 rfl
                refine pure_ (i := 3) (N := some 86) (v := ?_) (a' := ?_) #[T_,T_,T_,T_,F_,F_,F_,F_] rfl rfl (any_of HT_.out (by kernel_rfl)) (fun _ _ _ h => h) (Or.inl ⟨by rfl, ?_⟩) ?_ ?_
                rotate_left
                ·
                 intro w'
                 go_simp
                 with_reducible rfl
                rotate_left
                ·
                 simp only [Act.put, List.setIfInBounds_toArray, List.set_cons_zero, List.set_cons_succ, i64_w, i32_w]
                 rfl
                refine pure_ (i := 5) (N := some 88) (v := ?_) (a' := ?_) #[T_,T_,T_,T_,F_,T_,F_,F_] rfl rfl (any_of HT_.out (by kernel_rfl)) (fun _ _ _ h => h) (Or.inl ⟨by rfl, ?_⟩) ?_ ?_
                rotate_left
                ·
                 intro w'
                 go_simp
                 with_reducible rfl
                rotate_left
                ·
                 simp only [Act.put, List.setIfInBounds_toArray, List.set_cons_zero, List.set_cons_succ, i64_w, i32_w]
                 rfl
                refine take_ (i := 4) (N := some 87) (v := ?_) (a' := ?_) #[T_,T_,T_,T_,T_,T_,F_,F_] rfl rfl (take_ofW HT_.out HW_.out (by kernel_rfl)) (fun _ _ _ h => h) (Or.inl ⟨by rfl, ?_⟩) hHeld ?_ ?_
                rotate_left
                ·
                 rintro w' ⟨s0, s1, s2, s3, s4, s5, s6, s7⟩
                 go_simp
                 with_reducible rfl
                rotate_left
                ·
                 simp only [Act.put, List.setIfInBounds_toArray, List.set_cons_zero, List.set_cons_succ, i64_w, i32_w]
                 rfl
                refine take_ (i := 6) (N := some 89) (v := ?_) (a' := ?_) #[T_,T_,T_,T_,T_,T_,T_,F_] rfl rfl (take_ofW HT_.out HW_.out (by kernel_rfl)) (fun _ _ _ h => h) (Or.inl ⟨by rfl, ?_⟩) hHeld ?_ ?_
                rotate_left
                ·
                 rintro w' ⟨s0, s1, s2, s3, s4, s5, s6, s7⟩
                 go_simp
                 with_reducible rfl
                rotate_left
                ·
                 simp only [Act.put, List.setIfInBounds_toArray, List.set_cons_zero, List.set_cons_succ, i64_w, i32_w]
                 rfl
                refine pure_ (i := 7) (N := some 90) (v := ?_) (a' := ?_) #[T_,T_,T_,T_,T_,T_,T_,T_] rfl rfl (any_of HT_.out (by kernel_rfl)) (fun _ _ _ h => h) (Or.inl ⟨by rfl, ?_⟩) ?_ ?_
                rotate_left
                ·
                 intro w'
                 go_simp
                 with_reducible rfl
                rotate_left
                ·
                 simp only [Act.put, List.setIfInBounds_toArray, List.set_cons_zero, List.set_cons_succ, i64_w, i32_w]
                 rfl
                refine done_ (done_of HT_.out (by kernel_rfl)) ?_
                try go_wp2
                go_roundg k3
                case measure => have := HJ6.out; have := HK2.out; have := HK3.out; omega
                case rel => exact ⟨(wrap64 (x14_3 + 1)), (wrap64 (x15_3 + 1)), (by first | rfl | (simp; done) | (simp [*]; done)), (by first | rfl | (simp; done) | (simp [*]; done)), H', ⟨by have := HJ6.out; have := HK2.out; have := HK3.out; omega⟩, ⟨by (with_reducible repeat (first | apply Kd.N_alloc | apply Kd.N_drewN | apply Kd.N_drew)); exact HO_10.out⟩, ⟨by (with_reducible repeat (first | apply Kd.V_alloc | apply Kd.V_drewN | apply Kd.V_drew)); exact HOq0.out⟩, ⟨by (with_reducible repeat (first | apply Kd.V_alloc | apply Kd.V_drewN | apply Kd.V_drew)); exact HOq1.out⟩, ⟨by (with_reducible repeat (first | refine blk_drewN ?_ _ | refine blk_drew ?_ | refine blk_alloc ?_ _)); exact BK223.out⟩, ⟨by repeat (first | (with_reducible first | exact HB.out | apply bA | apply bN | apply bD | refine bS ?_ GE223.out) | exact HB.out)⟩⟩
               ·
                rw [if_neg c64] at H
                have c64b0 : (((rd_T24 y261 x15_3).f0) == a1_0) = false := beq_eq_false_iff_ne.mpr c64
                have c64b1 : (((rd_T24 y261 x15_3).f0) != a1_0) = true := bne_iff_ne.mpr c64
                have H' := aM H
                clear H
                obtain ⟨Ao67, co67, eo67⟩ := Kd.N_slice HO_10.out
                subst eo67
                try go_wp2
                have n0_ := aM (Kd.N_drew HO_10.out)
                have n1_ := aM (Kd.V_drew HOq0.out)
                have n2_ := aM (Kd.V_drew HOq1.out)
                have n3_ := aM (blk_drew BK223.out)
                have n4_ := aM (bD HB.out)
                clear HO_10
                clear HOq0
                clear HOq1
                clear BK223
                clear HB
                have HO_10 := n0_
                have HOq0 := n1_
                have HOq1 := n2_
                have BK223 := n3_
                have HB := n4_
                clear n0_ n1_ n2_ n3_ n4_
                have p264 : 0 ≤ (x15_3 : Int) := of_decide_eq_true (by first | (with_reducible assumption) | assumption)
                have q264 : x15_3 < (y261.length : Int) := of_decide_eq_true (by first | (with_reducible assumption) | assumption)
                obtain ⟨ad264, A264_1, c264_1, A264_2, c264_2, e264, hx264_0, hx264_1, hx264_2, hx264_3, hl264_1, hi264_1, hl264_2, hi264_2⟩ := at_T24 (Kd.N_reads' HO_10.out).2.2 x15_3 p264 q264
                cases e264
                obtain ⟨ce264, hce264, hMe264, hcc264⟩ := Kd.N_get HO_10.out z24 x15_3 p264 (by first | exact q264 | exact of_decide_eq_true (by first | (with_reducible assumption) | assumption) | (have e_ := (Kd.N_reads' HO_10.out).1; omega))
                obtain ⟨ua264_1, uc264_1, ua264_2, uc264_2, rfl, ul264_1, ge264_1, ul264_2, ge264_2⟩ := k24_openF hMe264
                have hv264_1 := hcc264 1 _ rfl
                rw [add_field _ _ 1 (by omega)] at hv264_1
                replace hv264_1 := Option.some.inj (hv264_1.symm.trans hx264_1)
                injection hv264_1 with hva_ hvn_ hvc_
                rw [hva_] at ge264_1
                rw [hvc_] at ul264_1
                have HLq10 := aM (show Kd.V (Kd.int .u8) 5 _ w.heap.size _ _ ((rd_T24 y261 x15_3).f1) from Kd.V_mk ul264_1 ge264_1)
                clear hva_ hvn_ hvc_ ge264_1 ul264_1
                have hv264_2 := hcc264 2 _ rfl
                rw [add_field _ _ 2 (by omega)] at hv264_2
                replace hv264_2 := Option.some.inj (hv264_2.symm.trans hx264_2)
                injection hv264_2 with hva_ hvn_ hvc_
                rw [hva_] at ge264_2
                rw [hvc_] at ul264_2
                have HLq11 := aM (show Kd.V (Kd.int .u8) 5 _ w.heap.size _ _ ((rd_T24 y261 x15_3).f2) from Kd.V_mk ul264_2 ge264_2)
                clear hva_ hvn_ hvc_ ge264_2 ul264_2
                clear hcc264 hce264
                have HRq6 := aM hi264_1
                have HCq6 := aM hl264_1
                clear hi264_1 hl264_1
                have HRq7 := aM hi264_2
                have HCq7 := aM hl264_2
                clear hi264_2 hl264_2
                replace p264 := eq_true p264
                replace q264 := eq_true q264
                refine start_ (n := 8) (S := fun w' => w'.cell? ⟨gb223, 0, none⟩ = some (.int .i64 a1_0) ∧ w'.cell? ⟨gb223, 1, none⟩ = some (.slice A1_1 l1_1.length c1_1) ∧ w'.cell? ⟨gb223, 2, none⟩ = some (.slice A1_2 l1_2.length c1_2) ∧ w'.cell? ⟨gb223, 3, none⟩ = some (.bool a1_3) ∧ w'.cell? (ad264.add ((x15_3).toNat * 4)) = some (.int .i64 ((rd_T24 y261 x15_3).f0)) ∧ w'.cell? ⟨(ad264.add ((x15_3).toNat * 4)).block, (ad264.add ((x15_3).toNat * 4)).off + 1, none⟩ = some (.slice A264_1 ((rd_T24 y261 x15_3).f1).length c264_1) ∧ w'.cell? ⟨(ad264.add ((x15_3).toNat * 4)).block, (ad264.add ((x15_3).toNat * 4)).off + 2, none⟩ = some (.slice A264_2 ((rd_T24 y261 x15_3).f2).length c264_2) ∧ w'.cell? ⟨(ad264.add ((x15_3).toNat * 4)).block, (ad264.add ((x15_3).toNat * 4)).off + 3, none⟩ = some (.bool ((rd_T24 y261 x15_3).f3))) (ds := []) #[F_,F_,F_,F_,F_,F_,F_,F_] (by kernel_rfl) rfl rfl ⟨(kC BK223.out 0).trans rfl, (kC BK223.out 1).trans rfl, (kC BK223.out 2).trans rfl, (kC BK223.out 3).trans rfl, hx264_0, hx264_1, hx264_2, hx264_3⟩ (fun hHeld => ?_); refine with_tabW banksmanref10_Add.tab22 banksmanref10_Add.bits22 (fun HT_ HW_ => ?_)
                generalize wr.drew = w68 at HO_10 HOq0 HOq1 BK223 HB HLq10 HLq11 HRq6 HRq7 hx264_0 hx264_1 hx264_2 hx264_3 hHeld ⊢
                refine pure_ (i := 0) (N := some 83) (v := ?_) (a' := ?_) #[T_,F_,F_,F_,F_,F_,F_,F_] rfl rfl (any_of HT_.out (by kernel_rfl)) (fun _ _ _ h => h) (Or.inl ⟨by rfl, ?_⟩) ?_ ?_
                rotate_left
                ·
                 intro w'
                 go_simp
                 with_reducible rfl
                rotate_left
                ·
                 simp only [Act.put, List.setIfInBounds_toArray, List.set_cons_zero, List.set_cons_succ, i64_w, i32_w]
                 rfl
                refine pure_ (i := 1) (N := some 84) (v := ?_) (a' := ?_) #[T_,T_,F_,F_,F_,F_,F_,F_] rfl rfl (any_of HT_.out (by kernel_rfl)) (fun _ _ _ h => h) (Or.inl ⟨by rfl, ?_⟩) ?_ ?_
                rotate_left
                ·
                 intro w'
                 go_simp
                 with_reducible rfl
                rotate_left
                ·
                 simp only [Act.put, List.setIfInBounds_toArray, List.set_cons_zero, List.set_cons_succ, i64_w, i32_w]
                 rfl
                refine pure_ (i := 2) (N := some 85) (v := ?_) (a' := ?_) #[T_,T_,T_,F_,F_,F_,F_,F_] rfl rfl (any_of HT_.out (by kernel_rfl)) (fun _ _ _ h => h) (Or.inl ⟨by rfl, ?_⟩) ?_ ?_
                rotate_left
                ·
                 intro w'
                 go_simp
                 with_reducible rfl
                rotate_left
                ·
                 simp only [Act.put, List.setIfInBounds_toArray, List.set_cons_zero, List.set_cons_succ, i64_w, i32_w]
                 rfl
                refine pure_ (i := 3) (N := some 86) (v := ?_) (a' := ?_) #[T_,T_,T_,T_,F_,F_,F_,F_] rfl rfl (any_of HT_.out (by kernel_rfl)) (fun _ _ _ h => h) (Or.inl ⟨by rfl, ?_⟩) ?_ ?_
                rotate_left
                ·
                 intro w'
                 go_simp
                 with_reducible rfl
                rotate_left
                ·
                 simp only [Act.put, List.setIfInBounds_toArray, List.set_cons_zero, List.set_cons_succ, i64_w, i32_w]
                 rfl
                refine pure_ (i := 5) (N := some 88) (v := ?_) (a' := ?_) #[T_,T_,T_,T_,F_,T_,F_,F_] rfl rfl (any_of HT_.out (by kernel_rfl)) (fun _ _ _ h => h) (Or.inl ⟨by rfl, ?_⟩) ?_ ?_
                rotate_left
                ·
                 intro w'
                 go_simp
                 with_reducible rfl
                rotate_left
                ·
                 simp only [Act.put, List.setIfInBounds_toArray, List.set_cons_zero, List.set_cons_succ, i64_w, i32_w]
                 rfl
                refine take_ (i := 4) (N := some 87) (v := ?_) (a' := ?_) #[T_,T_,T_,T_,T_,T_,F_,F_] rfl rfl (take_ofW HT_.out HW_.out (by kernel_rfl)) (fun _ _ _ h => h) (Or.inl ⟨by rfl, ?_⟩) hHeld ?_ ?_
                rotate_left
                ·
                 rintro w' ⟨s0, s1, s2, s3, s4, s5, s6, s7⟩
                 go_simp
                 with_reducible rfl
                rotate_left
                ·
                 simp only [Act.put, List.setIfInBounds_toArray, List.set_cons_zero, List.set_cons_succ, i64_w, i32_w]
                 rfl
                refine take_ (i := 6) (N := some 89) (v := ?_) (a' := ?_) #[T_,T_,T_,T_,T_,T_,T_,F_] rfl rfl (take_ofW HT_.out HW_.out (by kernel_rfl)) (fun _ _ _ h => h) (Or.inl ⟨by rfl, ?_⟩) hHeld ?_ ?_
                rotate_left
                ·
                 rintro w' ⟨s0, s1, s2, s3, s4, s5, s6, s7⟩
                 go_simp
                 with_reducible rfl
                rotate_left
                ·
                 simp only [Act.put, List.setIfInBounds_toArray, List.set_cons_zero, List.set_cons_succ, i64_w, i32_w]
                 rfl
                refine pure_ (i := 7) (N := some 90) (v := ?_) (a' := ?_) #[T_,T_,T_,T_,T_,T_,T_,T_] rfl rfl (any_of HT_.out (by kernel_rfl)) (fun _ _ _ h => h) (Or.inl ⟨by rfl, ?_⟩) ?_ ?_
                rotate_left
                ·
                 intro w'
                 go_simp
                 with_reducible rfl
                rotate_left
                ·
                 simp only [Act.put, List.setIfInBounds_toArray, List.set_cons_zero, List.set_cons_succ, i64_w, i32_w]
                 rfl
                refine done_ (done_of HT_.out (by kernel_rfl)) ?_
                try go_wp2
                go_roundg k3
                case measure => have := HJ6.out; have := HK2.out; have := HK3.out; omega
                case rel => exact ⟨(x14_3), (wrap64 (x15_3 + 1)), (by first | rfl | (simp; done) | (simp [*]; done)), (by first | rfl | (simp; done) | (simp [*]; done)), H', ⟨by have := HJ6.out; have := HK2.out; have := HK3.out; omega⟩, ⟨by (with_reducible repeat (first | apply Kd.N_alloc | apply Kd.N_drewN | apply Kd.N_drew)); exact HO_10.out⟩, ⟨by (with_reducible repeat (first | apply Kd.V_alloc | apply Kd.V_drewN | apply Kd.V_drew)); exact HOq0.out⟩, ⟨by (with_reducible repeat (first | apply Kd.V_alloc | apply Kd.V_drewN | apply Kd.V_drew)); exact HOq1.out⟩, ⟨by (with_reducible repeat (first | refine blk_drewN ?_ _ | refine blk_drew ?_ | refine blk_alloc ?_ _)); exact BK223.out⟩, ⟨by repeat (first | (with_reducible first | exact HB.out | apply bA | apply bN | apply bD | refine bS ?_ GE223.out) | exact HB.out)⟩⟩
              ·
               rw [if_neg c63] at H
               exact absurd H (by simp)
             ·
              rw [if_neg c62] at H
              have c62b0 : decide (x15_3 < (y261.length : Int)) = false := decide_eq_false c62
              clear c62
              by_cases c69 : x14_3 ≤ a2
              ·
               rw [if_pos c69] at H
               have c69b0 : decide (x14_3 ≤ a2) = true := decide_eq_true c69
               clear c69
               replace H := Option.bind_eq_some_iff.mp H
               obtain ⟨t265, A700, H⟩ := H
               replace H : (some (t265, 0)) = some (r1, r2) := H
               have A70 := aM A700
               clear A700
               simp only [Option.some.injEq, Prod.mk.injEq] at H
               obtain ⟨rfl, rfl⟩ := H
               obtain ⟨Ao71, co71, eo71⟩ := Kd.N_slice HO_10.out
               subst eo71
               go_wp2_with (first | ((with_reducible refine gate_callee (f := 42) rfl ?_); refine goesL_ (some 97) rfl rfl Try.func42 (by kernel_rfl) rfl #[.slice Ao71 y261.length co71] rfl (by (try simp only [List.map_toArray, List.map_cons, List.map_nil]); first | done | rfl | (simp only [List.length_drop, List.length_take]; rfl)) ?_; (with_reducible refine (banksmanref10_Copy.calls k3 _ _ y261 t265 _ ?side1 ?side2 A70.out).mono ?_); (case side1 => repeat (first | exact (Kd.N_reads' HO_10.out).2.2 | (with_reducible refine Kd.C_alloc ?_ _) | (with_reducible refine Kd.C_drewN ?_ _) | (with_reducible refine Kd.C_drew ?_))); (case side2 => exact (Kd.N_reads' HO_10.out).2.1); rintro e w72 ⟨v266, rfl, ho0, hb⟩; refine ⟨_, rfl, ?_⟩; replace HOq0 := aM (Kd.V_elder' (vU HOq0.out) (by first | exact Kd.N_base ho0 | exact Kd.S_base ho0 | exact Kd.R_base ho0) hb); replace HOq1 := aM (Kd.V_elder' (vU HOq1.out) (by first | exact Kd.N_base ho0 | exact Kd.S_base ho0 | exact Kd.R_base ho0) hb); have HO267 := aM (Kd.N_lower (Kd.N_mono (ok' := fun k_ => ((P0_ k_ ∨ P1_1_ k_ ∨ P1_2_ k_) ∨ w.heap.size ≤ k_) ∧ some k_ ≠ (.slice Ao71 y261.length co71 : Value).ownBlock ∧ k_ ≠ gb223) (Kd.S_N (Kd.S_bound ho0)) (fun k_ hk_ => ⟨(.inr (Nat.le_trans (below_size (by repeat (first | (with_reducible first | exact HB.out | apply bA | apply bN | apply bD | refine bS ?_ GE223.out) | exact HB.out))) hk_.2.1)), (Kd.fresh' (Kd.N_lt (nU HO_10.out)) k_ hk_.2.1), (Kd.freshB (g := gb223) (o := .cells #[.int .i64 a1_0, .slice A1_1 l1_1.length c1_1, .slice A1_2 l1_2.length c1_2, .bool a1_3] 24 (0, 0)) (bU BK223.out) k_ hk_.2.1)⟩)) (below_size (by repeat (first | (with_reducible first | exact HB.out | apply bA | apply bN | apply bD | refine bS ?_ GE223.out) | exact HB.out)))); replace HO_10 := aM (Kd.N_elder' (nU HO_10.out) (by first | exact Kd.N_base ho0 | exact Kd.S_base ho0 | exact Kd.R_base ho0) hb); replace BK223 := aM (kB (g := gb223) (o := .cells #[.int .i64 a1_0, .slice A1_1 l1_1.length c1_1, .slice A1_2 l1_2.length c1_2, .bool a1_3] 24 (0, 0)) (bU BK223.out) hb); replace HB := aM (below_step (by repeat (first | (with_reducible first | exact HB.out | apply bA | apply bN | apply bD | refine bS ?_ GE223.out) | exact HB.out)) hb); (try clear hb); (try clear hk)))
               go_ret2
               exact ⟨_, by first | rfl | (simp [errW_none, errW_some] <;> rfl) | (simp [*, errW_none, errW_some] <;> rfl), by (with_reducible repeat (first | apply Kd.N_alloc | apply Kd.N_drewN | apply Kd.N_drew)); exact Kd.N_mono HO267.out (fun _ hk => hk.1), by repeat (first | (with_reducible first | exact HB.out | apply bA | apply bN | apply bD | refine bS ?_ GE223.out) | exact HB.out)⟩
              ·
               rw [if_neg c69] at H
               have c69b0 : decide (x14_3 ≤ a2) = false := decide_eq_false c69
               clear c69
               have H' := aM H
               clear H
               obtain ⟨Ao73, co73, eo73⟩ := Kd.N_slice HO_10.out
               subst eo73
               go_wp2
               go_loopg [16, 17, 18] k3 (fun kq v16 v17 v18 w' => ∃ (x16_4 : List (S24)) (x17_4 : Bool) (x18_4 : Int), v17 = .bool x17_4 ∧ v18 = .int .i64 x18_4 ∧ Aside0 (banksmanref10_Add.l2 kq y261 x16_4 x17_4 x18_4 a1_0 l1_1 l1_2 a1_3 = some (r1, r2)) ∧ Aside0 (kq ≤ k3) ∧ Aside0 (Kd.N k24 24 w' w.heap.size (fun k_ => ((P0_ k_ ∨ P1_1_ k_ ∨ P1_2_ k_) ∨ w.heap.size ≤ k_) ∧ some k_ ≠ (v16 : Value).ownBlock ∧ k_ ≠ gb223) (.slice Ao73 y261.length co73) y261) ∧ Aside0 (Kd.N k24 24 w' w.heap.size (fun k_ => ((P0_ k_ ∨ P1_1_ k_ ∨ P1_2_ k_) ∨ w.heap.size ≤ k_) ∧ some k_ ≠ ((.slice Ao73 y261.length co73) : Value).ownBlock ∧ k_ ≠ gb223) v16 x16_4) ∧ Aside0 (Kd.V (Kd.int .u8) 5 w' w.heap.size (fun k_ => ((P0_ k_ ∨ P1_1_ k_ ∨ P1_2_ k_) ∨ w.heap.size ≤ k_) ∧ some k_ ≠ ((.slice Ao73 y261.length co73) : Value).ownBlock ∧ some k_ ≠ (v16 : Value).ownBlock ∧ k_ ≠ gb223) (.slice A1_1 l1_1.length c1_1) l1_1) ∧ Aside0 (Kd.V (Kd.int .u8) 5 w' w.heap.size (fun k_ => ((P0_ k_ ∨ P1_1_ k_ ∨ P1_2_ k_) ∨ w.heap.size ≤ k_) ∧ some k_ ≠ ((.slice Ao73 y261.length co73) : Value).ownBlock ∧ some k_ ≠ (v16 : Value).ownBlock ∧ k_ ≠ gb223) (.slice A1_2 l1_2.length c1_2) l1_2) ∧ Aside0 (w'.heap[gb223]? = some (.cells #[.int .i64 a1_0, (.slice A1_1 l1_1.length c1_1), (.slice A1_2 l1_2.length c1_2), .bool a1_3] 24 (0, 0))) ∧ Aside0 (Below w.heap.size w w'))
               case atStart => exact ⟨(([] : List (S24))), (false), (0), (by first | rfl | (simp; done) | (simp [*]; done)), (by first | rfl | (simp; done) | (simp [*]; done)), H', ⟨Nat.le_refl _⟩, ⟨by (with_reducible repeat (first | apply Kd.N_alloc | apply Kd.N_drewN | apply Kd.N_drew)); exact Kd.N_mono HO_10.out (fun _ hk => ⟨hk.1, ⟨(by simp [Value.ownBlock]), hk.2⟩⟩)⟩, ⟨by first | exact Kd.S_nil _ _ _ _ _ | exact Kd.N_nil _ _ _ _ _ | exact Kd.V_nil _ _ _ _ _ | exact Kd.Q_nil _ _ _ _ _ | exact Kd.R_nil _ _ _ _ _⟩, ⟨by (with_reducible repeat (first | apply Kd.V_alloc | apply Kd.V_drewN | apply Kd.V_drew)); exact Kd.V_mono HOq0.out (fun _ hk => ⟨hk.1, ⟨hk.2.1, ⟨(by simp [Value.ownBlock]), hk.2.2⟩⟩⟩)⟩, ⟨by (with_reducible repeat (first | apply Kd.V_alloc | apply Kd.V_drewN | apply Kd.V_drew)); exact Kd.V_mono HOq1.out (fun _ hk => ⟨hk.1, ⟨hk.2.1, ⟨(by simp [Value.ownBlock]), hk.2.2⟩⟩⟩)⟩, ⟨by (with_reducible repeat (first | refine blk_drewN ?_ _ | refine blk_drew ?_ | refine blk_alloc ?_ _)); exact BK223.out⟩, ⟨by repeat (first | (with_reducible first | exact HB.out | apply bA | apply bN | apply bD | refine bS ?_ GE223.out) | exact HB.out)⟩⟩
               case round =>
                clear H'
                try clear c1
                try clear c2
                try clear p2
                try clear q2
                try clear hx2
                try clear c3
                try clear c4
                try clear c5
                try clear c6
                try clear p6
                try clear c23
                try clear c24
                try clear p24
                try clear q24
                try clear hx24
                try clear c25
                try clear p25
                try clear q25
                try clear hx25
                try clear c26
                try clear p26
                try clear q26
                try clear hx26
                try clear c33
                try clear c33b0
                try clear c34
                try clear c42
                try clear c47
                try clear c56
                try clear c62
                try clear c62b0
                try clear c63
                try clear c63b0
                try clear c64
                try clear c64b0
                try clear c64b1
                try clear p64
                try clear c69
                try clear c69b0
                try clear hcz57_0
                try clear hcz57_1
                try clear hcz57_2
                try clear hcz57_3
                try clear hfz57_0
                try clear hfz57_1
                try clear hfz57_2
                try clear hfz57_3
                try clear hx244_0
                try clear hx244_1
                try clear hx244_2
                try clear hx244_3
                try clear hx249_0
                try clear hx249_1
                try clear hx249_2
                try clear hx249_3
                try clear hx251_0
                try clear hx251_1
                try clear hx251_2
                try clear hx251_3
                try clear hx264_0
                try clear hx264_1
                try clear hx264_2
                try clear hx264_3
                try clear p2
                try clear p24
                try clear p244
                try clear p249
                try clear p25
                try clear p251
                try clear p264
                try clear p6
                try clear q2
                try clear q24
                try clear q244
                try clear q249
                try clear q25
                try clear q251
                try clear q264
                obtain ⟨x16_4, x17_4, x18_4, rfl, rfl, HA, HK4, HO_10, HO_16, HOq0, HOq1, BK223, HB⟩ := hrel
                cases gk with
                | zero => exact absurd HA.out (by simp [banksmanref10_Add.l2])
                | succ k4 =>
                 have H := HA.out
                 clear HA
                 simp only [banksmanref10_Add.l2] at H
                 by_cases c74 : x18_4 < (y261.length : Int)
                 ·
                  rw [if_pos c74] at H
                  have c74b0 : decide (x18_4 < (y261.length : Int)) = true := decide_eq_true c74
                  clear c74
                  by_cases c75 : 0 ≤ x18_4
                  ·
                   rw [if_pos c75] at H
                   have c75b0 : decide (0 ≤ x18_4) = true := decide_eq_true c75
                   clear c75
                   by_cases c76 : ((rd_T24 y261 x18_4).f0) = a1_0
                   ·
                    rw [if_pos c76] at H
                    have c76b0 : (((rd_T24 y261 x18_4).f0) == a1_0) = true := beq_iff_eq.mpr c76
                    have c76b1 : (((rd_T24 y261 x18_4).f0) != a1_0) = false := bne_eq_false_iff_eq.mpr c76
                    clear c76
                    by_cases c77 : x17_4 = true
                    ·
                     subst c77
                     have H1 : (banksmanref10_Add.l2 k4 y261 x16_4 true (wrap64 (x18_4 + 1)) a1_0 l1_1 l1_2 a1_3) = some (r1, r2) := by rw [if_pos rfl] at H; exact H
                     clear H
                     have H := H1
                     clear H1
                     have H' := aM H
                     clear H
                     try go_wp2
                     have n0_ := aM (Kd.N_drew HO_10.out)
                     have n1_ := aM (Kd.N_drew HO_16.out)
                     have n2_ := aM (Kd.V_drew HOq0.out)
                     have n3_ := aM (Kd.V_drew HOq1.out)
                     have n4_ := aM (blk_drew BK223.out)
                     have n5_ := aM (bD HB.out)
                     clear HO_10
                     clear HO_16
                     clear HOq0
                     clear HOq1
                     clear BK223
                     clear HB
                     have HO_10 := n0_
                     have HO_16 := n1_
                     have HOq0 := n2_
                     have HOq1 := n3_
                     have BK223 := n4_
                     have HB := n5_
                     clear n0_ n1_ n2_ n3_ n4_ n5_
                     have p271 : 0 ≤ (x18_4 : Int) := of_decide_eq_true (by first | (with_reducible assumption) | assumption)
                     have q271 : x18_4 < (y261.length : Int) := of_decide_eq_true (by first | (with_reducible assumption) | assumption)
                     obtain ⟨ad271, A271_1, c271_1, A271_2, c271_2, e271, hx271_0, hx271_1, hx271_2, hx271_3, hl271_1, hi271_1, hl271_2, hi271_2⟩ := at_T24 (Kd.N_reads' HO_10.out).2.2 x18_4 p271 q271
                     cases e271
                     obtain ⟨ce271, hce271, hMe271, hcc271⟩ := Kd.N_get HO_10.out z24 x18_4 p271 (by first | exact q271 | exact of_decide_eq_true (by first | (with_reducible assumption) | assumption) | (have e_ := (Kd.N_reads' HO_10.out).1; omega))
                     obtain ⟨ua271_1, uc271_1, ua271_2, uc271_2, rfl, ul271_1, ge271_1, ul271_2, ge271_2⟩ := k24_openF hMe271
                     have hv271_1 := hcc271 1 _ rfl
                     rw [add_field _ _ 1 (by omega)] at hv271_1
                     replace hv271_1 := Option.some.inj (hv271_1.symm.trans hx271_1)
                     injection hv271_1 with hva_ hvn_ hvc_
                     rw [hva_] at ge271_1
                     rw [hvc_] at ul271_1
                     have HLq2 := aM (show Kd.V (Kd.int .u8) 5 _ w.heap.size _ _ ((rd_T24 y261 x18_4).f1) from Kd.V_mk ul271_1 ge271_1)
                     clear hva_ hvn_ hvc_ ge271_1 ul271_1
                     have hv271_2 := hcc271 2 _ rfl
                     rw [add_field _ _ 2 (by omega)] at hv271_2
                     replace hv271_2 := Option.some.inj (hv271_2.symm.trans hx271_2)
                     injection hv271_2 with hva_ hvn_ hvc_
                     rw [hva_] at ge271_2
                     rw [hvc_] at ul271_2
                     have HLq3 := aM (show Kd.V (Kd.int .u8) 5 _ w.heap.size _ _ ((rd_T24 y261 x18_4).f2) from Kd.V_mk ul271_2 ge271_2)
                     clear hva_ hvn_ hvc_ ge271_2 ul271_2
                     clear hcc271 hce271
                     have HRq4 := aM hi271_1
                     have HCq4 := aM hl271_1
                     clear hi271_1 hl271_1
                     have HRq5 := aM hi271_2
                     have HCq5 := aM hl271_2
                     clear hi271_2 hl271_2
                     replace p271 := eq_true p271
                     replace q271 := eq_true q271
                     refine start_ (n := 8) (S := fun w' => w'.cell? ⟨gb223, 0, none⟩ = some (.int .i64 a1_0) ∧ w'.cell? ⟨gb223, 1, none⟩ = some (.slice A1_1 l1_1.length c1_1) ∧ w'.cell? ⟨gb223, 2, none⟩ = some (.slice A1_2 l1_2.length c1_2) ∧ w'.cell? ⟨gb223, 3, none⟩ = some (.bool a1_3) ∧ w'.cell? (ad271.add ((x18_4).toNat * 4)) = some (.int .i64 ((rd_T24 y261 x18_4).f0)) ∧ w'.cell? ⟨(ad271.add ((x18_4).toNat * 4)).block, (ad271.add ((x18_4).toNat * 4)).off + 1, none⟩ = some (.slice A271_1 ((rd_T24 y261 x18_4).f1).length c271_1) ∧ w'.cell? ⟨(ad271.add ((x18_4).toNat * 4)).block, (ad271.add ((x18_4).toNat * 4)).off + 2, none⟩ = some (.slice A271_2 ((rd_T24 y261 x18_4).f2).length c271_2) ∧ w'.cell? ⟨(ad271.add ((x18_4).toNat * 4)).block, (ad271.add ((x18_4).toNat * 4)).off + 3, none⟩ = some (.bool ((rd_T24 y261 x18_4).f3))) (ds := []) #[F_,F_,F_,F_,F_,F_,F_,F_] (by kernel_rfl) rfl rfl ⟨(kC BK223.out 0).trans rfl, (kC BK223.out 1).trans rfl, (kC BK223.out 2).trans rfl, (kC BK223.out 3).trans rfl, hx271_0, hx271_1, hx271_2, hx271_3⟩ (fun hHeld => ?_); refine with_tabW banksmanref10_Add.tab31 banksmanref10_Add.bits31 (fun HT_ HW_ => ?_)
                     generalize wr.drew = w78 at HO_10 HO_16 HOq0 HOq1 BK223 HB HLq2 HLq3 HRq4 HRq5 hx271_0 hx271_1 hx271_2 hx271_3 hHeld ⊢
                     refine pure_ (i := 0) (N := some 104) (v := ?_) (a' := ?_) #[T_,F_,F_,F_,F_,F_,F_,F_] rfl rfl (any_of HT_.out (by kernel_rfl)) (fun _ _ _ h => h) (Or.inl ⟨by rfl, ?_⟩) ?_ ?_
                     rotate_left
                     ·
                      intro w'
                      go_simp
                      with_reducible rfl
                     rotate_left
                     ·
                      simp only [Act.put, List.setIfInBounds_toArray, List.set_cons_zero, List.set_cons_succ, i64_w, i32_w]
                      rfl
                     refine pure_ (i := 1) (N := some 105) (v := ?_) (a' := ?_) #[T_,T_,F_,F_,F_,F_,F_,F_] rfl rfl (any_of HT_.out (by kernel_rfl)) (fun _ _ _ h => h) (Or.inl ⟨by rfl, ?_⟩) ?_ ?_
                     rotate_left
                     ·
                      intro w'
                      go_simp
                      with_reducible rfl
                     rotate_left
                     ·
                      simp only [Act.put, List.setIfInBounds_toArray, List.set_cons_zero, List.set_cons_succ, i64_w, i32_w]
                      rfl
                     refine pure_ (i := 2) (N := some 106) (v := ?_) (a' := ?_) #[T_,T_,T_,F_,F_,F_,F_,F_] rfl rfl (any_of HT_.out (by kernel_rfl)) (fun _ _ _ h => h) (Or.inl ⟨by rfl, ?_⟩) ?_ ?_
                     rotate_left
                     ·
                      intro w'
                      go_simp
                      with_reducible rfl
                     rotate_left
                     ·
                      simp only [Act.put, List.setIfInBounds_toArray, List.set_cons_zero, List.set_cons_succ, i64_w, i32_w]
                      rfl
                     refine pure_ (i := 3) (N := some 107) (v := ?_) (a' := ?_) #[T_,T_,T_,T_,F_,F_,F_,F_] rfl rfl (any_of HT_.out (by kernel_rfl)) (fun _ _ _ h => h) (Or.inl ⟨by rfl, ?_⟩) ?_ ?_
                     rotate_left
                     ·
                      intro w'
                      go_simp
                      with_reducible rfl
                     rotate_left
                     ·
                      simp only [Act.put, List.setIfInBounds_toArray, List.set_cons_zero, List.set_cons_succ, i64_w, i32_w]
                      rfl
                     refine pure_ (i := 5) (N := some 109) (v := ?_) (a' := ?_) #[T_,T_,T_,T_,F_,T_,F_,F_] rfl rfl (any_of HT_.out (by kernel_rfl)) (fun _ _ _ h => h) (Or.inl ⟨by rfl, ?_⟩) ?_ ?_
                     rotate_left
                     ·
                      intro w'
                      go_simp
                      with_reducible rfl
                     rotate_left
                     ·
                      simp only [Act.put, List.setIfInBounds_toArray, List.set_cons_zero, List.set_cons_succ, i64_w, i32_w]
                      rfl
                     refine take_ (i := 4) (N := some 108) (v := ?_) (a' := ?_) #[T_,T_,T_,T_,T_,T_,F_,F_] rfl rfl (take_ofW HT_.out HW_.out (by kernel_rfl)) (fun _ _ _ h => h) (Or.inl ⟨by rfl, ?_⟩) hHeld ?_ ?_
                     rotate_left
                     ·
                      rintro w' ⟨s0, s1, s2, s3, s4, s5, s6, s7⟩
                      go_simp
                      with_reducible rfl
                     rotate_left
                     ·
                      simp only [Act.put, List.setIfInBounds_toArray, List.set_cons_zero, List.set_cons_succ, i64_w, i32_w]
                      rfl
                     refine take_ (i := 6) (N := some 110) (v := ?_) (a' := ?_) #[T_,T_,T_,T_,T_,T_,T_,F_] rfl rfl (take_ofW HT_.out HW_.out (by kernel_rfl)) (fun _ _ _ h => h) (Or.inl ⟨by rfl, ?_⟩) hHeld ?_ ?_
                     rotate_left
                     ·
                      rintro w' ⟨s0, s1, s2, s3, s4, s5, s6, s7⟩
                      go_simp
                      with_reducible rfl
                     rotate_left
                     ·
                      simp only [Act.put, List.setIfInBounds_toArray, List.set_cons_zero, List.set_cons_succ, i64_w, i32_w]
                      rfl
                     refine pure_ (i := 7) (N := some 111) (v := ?_) (a' := ?_) #[T_,T_,T_,T_,T_,T_,T_,T_] rfl rfl (any_of HT_.out (by kernel_rfl)) (fun _ _ _ h => h) (Or.inl ⟨by rfl, ?_⟩) ?_ ?_
                     rotate_left
                     ·
                      intro w'
                      go_simp
                      with_reducible rfl
                     rotate_left
                     ·
                      simp only [Act.put, List.setIfInBounds_toArray, List.set_cons_zero, List.set_cons_succ, i64_w, i32_w]
                      rfl
                     refine done_ (done_of HT_.out (by kernel_rfl)) ?_
                     try go_wp2
                     go_roundg k4
                     case measure => have := HJ6.out; have := HK2.out; have := HK3.out; have := HK4.out; omega
                     case rel => exact ⟨(x16_4), (true), (wrap64 (x18_4 + 1)), (by first | rfl | (simp; done) | (simp [*]; done)), (by first | rfl | (simp; done) | (simp [*]; done)), H', ⟨by have := HJ6.out; have := HK2.out; have := HK3.out; have := HK4.out; omega⟩, ⟨by (with_reducible repeat (first | apply Kd.N_alloc | apply Kd.N_drewN | apply Kd.N_drew)); exact HO_10.out⟩, ⟨by (with_reducible repeat (first | apply Kd.N_alloc | apply Kd.N_drewN | apply Kd.N_drew)); exact HO_16.out⟩, ⟨by (with_reducible repeat (first | apply Kd.V_alloc | apply Kd.V_drewN | apply Kd.V_drew)); exact HOq0.out⟩, ⟨by (with_reducible repeat (first | apply Kd.V_alloc | apply Kd.V_drewN | apply Kd.V_drew)); exact HOq1.out⟩, ⟨by (with_reducible repeat (first | refine blk_drewN ?_ _ | refine blk_drew ?_ | refine blk_alloc ?_ _)); exact BK223.out⟩, ⟨by repeat (first | (with_reducible first | exact HB.out | apply bA | apply bN | apply bD | refine bS ?_ GE223.out) | exact HB.out)⟩⟩
                    ·
                     replace c77 := Bool.eq_false_iff.mpr c77
                     subst c77
                     have H1 : ((some (([(⟨a1_0, ([] : List Int), ([] : List Int), true⟩ : S24)] : List (S24)) : List (S24))).bind fun y272 => (if x16_4.length + y272.length < 2199023255552 then (banksmanref10_Add.l2 k4 y261 (x16_4 ++ y272) true (wrap64 (x18_4 + 1)) a1_0 l1_1 l1_2 a1_3) else (none))) = some (r1, r2) := by rw [if_neg (show ¬ (false = true) by decide)] at H; exact H
                     clear H
                     have H := H1
                     clear H1
                     obtain ⟨y272, hy272⟩ : ∃ y_ : List (S24), y_ = (([(⟨a1_0, ([] : List Int), ([] : List Int), true⟩ : S24)] : List (S24))) := ⟨_, rfl⟩
                     replace H : (if x16_4.length + y272.length < 2199023255552 then (banksmanref10_Add.l2 k4 y261 (x16_4 ++ y272) true (wrap64 (x18_4 + 1)) a1_0 l1_1 l1_2 a1_3) else (none)) = some (r1, r2) := by first | (rw [hy272]; with_reducible exact H) | (have H2_ := (Option.bind_some _ _).symm.trans H; rw [hy272]; with_reducible exact H2_) | (have H2_ := (Option.bind_some _ _).symm.trans H; with_reducible exact H2_) | with_reducible exact H | (rw [hy272]; exact H) | exact H
                     have Ny272 := aM hy272
                     clear hy272
                     by_cases c79 : x16_4.length + y272.length < 2199023255552
                     ·
                      rw [if_pos c79] at H
                      have LMc79 := aM c79
                      clear c79
                      obtain ⟨y275, hy275⟩ : ∃ y_ : List (S24), y_ = (x16_4 ++ y272) := ⟨_, rfl⟩
                      replace H : (banksmanref10_Add.l2 k4 y261 y275 true (wrap64 (x18_4 + 1)) a1_0 l1_1 l1_2 a1_3) = some (r1, r2) := by first | (rw [hy275]; with_reducible exact H) | (have H2_ := (Option.bind_some _ _).symm.trans H; rw [hy275]; with_reducible exact H2_) | (have H2_ := (Option.bind_some _ _).symm.trans H; with_reducible exact H2_) | with_reducible exact H | (rw [hy275]; exact H) | exact H
                      have Ny275 := aM hy275
                      clear hy275
                      have H' := aM H
                      clear H
                      try go_wp2
                      have n0_ := aM (Kd.N_drew HO_10.out)
                      have n1_ := aM (Kd.N_drew HO_16.out)
                      have n2_ := aM (Kd.V_drew HOq0.out)
                      have n3_ := aM (Kd.V_drew HOq1.out)
                      have n4_ := aM (blk_drew BK223.out)
                      have n5_ := aM (bD HB.out)
                      clear HO_10
                      clear HO_16
                      clear HOq0
                      clear HOq1
                      clear BK223
                      clear HB
                      have HO_10 := n0_
                      have HO_16 := n1_
                      have HOq0 := n2_
                      have HOq1 := n3_
                      have BK223 := n4_
                      have HB := n5_
                      clear n0_ n1_ n2_ n3_ n4_ n5_
                      have p271 : 0 ≤ (x18_4 : Int) := of_decide_eq_true (by first | (with_reducible assumption) | assumption)
                      have q271 : x18_4 < (y261.length : Int) := of_decide_eq_true (by first | (with_reducible assumption) | assumption)
                      obtain ⟨ad271, A271_1, c271_1, A271_2, c271_2, e271, hx271_0, hx271_1, hx271_2, hx271_3, hl271_1, hi271_1, hl271_2, hi271_2⟩ := at_T24 (Kd.N_reads' HO_10.out).2.2 x18_4 p271 q271
                      cases e271
                      obtain ⟨ce271, hce271, hMe271, hcc271⟩ := Kd.N_get HO_10.out z24 x18_4 p271 (by first | exact q271 | exact of_decide_eq_true (by first | (with_reducible assumption) | assumption) | (have e_ := (Kd.N_reads' HO_10.out).1; omega))
                      obtain ⟨ua271_1, uc271_1, ua271_2, uc271_2, rfl, ul271_1, ge271_1, ul271_2, ge271_2⟩ := k24_openF hMe271
                      have hv271_1 := hcc271 1 _ rfl
                      rw [add_field _ _ 1 (by omega)] at hv271_1
                      replace hv271_1 := Option.some.inj (hv271_1.symm.trans hx271_1)
                      injection hv271_1 with hva_ hvn_ hvc_
                      rw [hva_] at ge271_1
                      rw [hvc_] at ul271_1
                      have HLq2 := aM (show Kd.V (Kd.int .u8) 5 _ w.heap.size _ _ ((rd_T24 y261 x18_4).f1) from Kd.V_mk ul271_1 ge271_1)
                      clear hva_ hvn_ hvc_ ge271_1 ul271_1
                      have hv271_2 := hcc271 2 _ rfl
                      rw [add_field _ _ 2 (by omega)] at hv271_2
                      replace hv271_2 := Option.some.inj (hv271_2.symm.trans hx271_2)
                      injection hv271_2 with hva_ hvn_ hvc_
                      rw [hva_] at ge271_2
                      rw [hvc_] at ul271_2
                      have HLq3 := aM (show Kd.V (Kd.int .u8) 5 _ w.heap.size _ _ ((rd_T24 y261 x18_4).f2) from Kd.V_mk ul271_2 ge271_2)
                      clear hva_ hvn_ hvc_ ge271_2 ul271_2
                      clear hcc271 hce271
                      have HRq4 := aM hi271_1
                      have HCq4 := aM hl271_1
                      clear hi271_1 hl271_1
                      have HRq5 := aM hi271_2
                      have HCq5 := aM hl271_2
                      clear hi271_2 hl271_2
                      replace p271 := eq_true p271
                      replace q271 := eq_true q271
                      refine start_ (n := 8) (S := fun w' => w'.cell? ⟨gb223, 0, none⟩ = some (.int .i64 a1_0) ∧ w'.cell? ⟨gb223, 1, none⟩ = some (.slice A1_1 l1_1.length c1_1) ∧ w'.cell? ⟨gb223, 2, none⟩ = some (.slice A1_2 l1_2.length c1_2) ∧ w'.cell? ⟨gb223, 3, none⟩ = some (.bool a1_3) ∧ w'.cell? (ad271.add ((x18_4).toNat * 4)) = some (.int .i64 ((rd_T24 y261 x18_4).f0)) ∧ w'.cell? ⟨(ad271.add ((x18_4).toNat * 4)).block, (ad271.add ((x18_4).toNat * 4)).off + 1, none⟩ = some (.slice A271_1 ((rd_T24 y261 x18_4).f1).length c271_1) ∧ w'.cell? ⟨(ad271.add ((x18_4).toNat * 4)).block, (ad271.add ((x18_4).toNat * 4)).off + 2, none⟩ = some (.slice A271_2 ((rd_T24 y261 x18_4).f2).length c271_2) ∧ w'.cell? ⟨(ad271.add ((x18_4).toNat * 4)).block, (ad271.add ((x18_4).toNat * 4)).off + 3, none⟩ = some (.bool ((rd_T24 y261 x18_4).f3))) (ds := []) #[F_,F_,F_,F_,F_,F_,F_,F_] (by kernel_rfl) rfl rfl ⟨(kC BK223.out 0).trans rfl, (kC BK223.out 1).trans rfl, (kC BK223.out 2).trans rfl, (kC BK223.out 3).trans rfl, hx271_0, hx271_1, hx271_2, hx271_3⟩ (fun hHeld => ?_); refine with_tabW banksmanref10_Add.tab31 banksmanref10_Add.bits31 (fun HT_ HW_ => ?_)
                      generalize wr.drew = w80 at HO_10 HO_16 HOq0 HOq1 BK223 HB HLq2 HLq3 HRq4 HRq5 hx271_0 hx271_1 hx271_2 hx271_3 hHeld ⊢
                      refine pure_ (i := 0) (N := some 104) (v := ?_) (a' := ?_) #[T_,F_,F_,F_,F_,F_,F_,F_] rfl rfl (any_of HT_.out (by kernel_rfl)) (fun _ _ _ h => h) (Or.inl ⟨by rfl, ?_⟩) ?_ ?_
                      rotate_left
                      ·
                       intro w'
                       go_simp
                       with_reducible rfl
                      rotate_left
                      ·
                       simp only [Act.put, List.setIfInBounds_toArray, List.set_cons_zero, List.set_cons_succ, i64_w, i32_w]
                       rfl
                      refine pure_ (i := 1) (N := some 105) (v := ?_) (a' := ?_) #[T_,T_,F_,F_,F_,F_,F_,F_] rfl rfl (any_of HT_.out (by kernel_rfl)) (fun _ _ _ h => h) (Or.inl ⟨by rfl, ?_⟩) ?_ ?_
                      rotate_left
                      ·
                       intro w'
                       go_simp
                       with_reducible rfl
                      rotate_left
                      ·
                       simp only [Act.put, List.setIfInBounds_toArray, List.set_cons_zero, List.set_cons_succ, i64_w, i32_w]
                       rfl
                      refine pure_ (i := 2) (N := some 106) (v := ?_) (a' := ?_) #[T_,T_,T_,F_,F_,F_,F_,F_] rfl rfl (any_of HT_.out (by kernel_rfl)) (fun _ _ _ h => h) (Or.inl ⟨by rfl, ?_⟩) ?_ ?_
                      rotate_left
                      ·
                       intro w'
                       go_simp
                       with_reducible rfl
                      rotate_left
                      ·
                       simp only [Act.put, List.setIfInBounds_toArray, List.set_cons_zero, List.set_cons_succ, i64_w, i32_w]
                       rfl
                      refine pure_ (i := 3) (N := some 107) (v := ?_) (a' := ?_) #[T_,T_,T_,T_,F_,F_,F_,F_] rfl rfl (any_of HT_.out (by kernel_rfl)) (fun _ _ _ h => h) (Or.inl ⟨by rfl, ?_⟩) ?_ ?_
                      rotate_left
                      ·
                       intro w'
                       go_simp
                       with_reducible rfl
                      rotate_left
                      ·
                       simp only [Act.put, List.setIfInBounds_toArray, List.set_cons_zero, List.set_cons_succ, i64_w, i32_w]
                       rfl
                      refine pure_ (i := 5) (N := some 109) (v := ?_) (a' := ?_) #[T_,T_,T_,T_,F_,T_,F_,F_] rfl rfl (any_of HT_.out (by kernel_rfl)) (fun _ _ _ h => h) (Or.inl ⟨by rfl, ?_⟩) ?_ ?_
                      rotate_left
                      ·
                       intro w'
                       go_simp
                       with_reducible rfl
                      rotate_left
                      ·
                       simp only [Act.put, List.setIfInBounds_toArray, List.set_cons_zero, List.set_cons_succ, i64_w, i32_w]
                       rfl
                      refine take_ (i := 4) (N := some 108) (v := ?_) (a' := ?_) #[T_,T_,T_,T_,T_,T_,F_,F_] rfl rfl (take_ofW HT_.out HW_.out (by kernel_rfl)) (fun _ _ _ h => h) (Or.inl ⟨by rfl, ?_⟩) hHeld ?_ ?_
                      rotate_left
                      ·
                       rintro w' ⟨s0, s1, s2, s3, s4, s5, s6, s7⟩
                       go_simp
                       with_reducible rfl
                      rotate_left
                      ·
                       simp only [Act.put, List.setIfInBounds_toArray, List.set_cons_zero, List.set_cons_succ, i64_w, i32_w]
                       rfl
                      refine take_ (i := 6) (N := some 110) (v := ?_) (a' := ?_) #[T_,T_,T_,T_,T_,T_,T_,F_] rfl rfl (take_ofW HT_.out HW_.out (by kernel_rfl)) (fun _ _ _ h => h) (Or.inl ⟨by rfl, ?_⟩) hHeld ?_ ?_
                      rotate_left
                      ·
                       rintro w' ⟨s0, s1, s2, s3, s4, s5, s6, s7⟩
                       go_simp
                       with_reducible rfl
                      rotate_left
                      ·
                       simp only [Act.put, List.setIfInBounds_toArray, List.set_cons_zero, List.set_cons_succ, i64_w, i32_w]
                       rfl
                      refine pure_ (i := 7) (N := some 111) (v := ?_) (a' := ?_) #[T_,T_,T_,T_,T_,T_,T_,T_] rfl rfl (any_of HT_.out (by kernel_rfl)) (fun _ _ _ h => h) (Or.inl ⟨by rfl, ?_⟩) ?_ ?_
                      rotate_left
                      ·
                       intro w'
                       go_simp
                       with_reducible rfl
                      rotate_left
                      ·
                       simp only [Act.put, List.setIfInBounds_toArray, List.set_cons_zero, List.set_cons_succ, i64_w, i32_w]
                       rfl
                      refine done_ (done_of HT_.out (by kernel_rfl)) ?_
                      have hcz81_0 : w80.cell? ⟨gb223, 0, none⟩ = some (.int .i64 a1_0) := (kC BK223.out 0).trans rfl
                      have hcz81_1 : w80.cell? ⟨gb223, 1, none⟩ = some (.slice A1_1 l1_1.length c1_1) := (kC BK223.out 1).trans rfl
                      have hcz81_2 : w80.cell? ⟨gb223, 2, none⟩ = some (.slice A1_2 l1_2.length c1_2) := (kC BK223.out 2).trans rfl
                      have hcz81_3 : w80.cell? ⟨gb223, 3, none⟩ = some (.bool a1_3) := (kC BK223.out 3).trans rfl
                      have hfz81_0 := kF BK223.out 0
                      have hfz81_1 := kF BK223.out 1
                      have hfz81_2 := kF BK223.out 2
                      have hfz81_3 := kF BK223.out 3
                      try go_wp2_with (first | ((with_reducible refine gate_dst (N := 125) rfl ?_); refine Kd.N_lit k24 _ 24 ?hg (N' := 125) ?hd (xs := ([(⟨a1_0, ([] : List Int), ([] : List Int), true⟩ : S24)] : List (S24))) (inner := [.int .i64 a1_0, .slice none 0 0, .slice none 0 0, .bool true]) (ok := (fun k_ => ((P0_ k_ ∨ P1_1_ k_ ∨ P1_2_ k_) ∨ w.heap.size ≤ k_) ∧ some k_ ≠ (.slice (some ad271) y261.length co73 : Value).ownBlock ∧ some k_ ≠ (u16 : Value).ownBlock ∧ k_ ≠ gb223)) (okp := (fun k_ => ((P0_ k_ ∨ P1_1_ k_ ∨ P1_2_ k_) ∨ w.heap.size ≤ k_) ∧ some k_ ≠ (.slice (some ad271) y261.length co73 : Value).ownBlock ∧ some k_ ≠ (u16 : Value).ownBlock ∧ k_ ≠ gb223)) ?hr ?hp (fun _ hk => hk) ((show ∀ k_, w80.heap.size ≤ k_ → (fun k_ => ((P0_ k_ ∨ P1_1_ k_ ∨ P1_2_ k_) ∨ w.heap.size ≤ k_) ∧ some k_ ≠ (.slice (some ad271) y261.length co73 : Value).ownBlock ∧ some k_ ≠ (u16 : Value).ownBlock ∧ k_ ≠ gb223) k_ from fun k_ hk => ⟨(.inr (Nat.le_trans (below_size (by repeat (first | (with_reducible first | exact HB.out | apply bA | apply bN | apply bD | refine bS ?_ GE223.out) | exact HB.out))) hk)), Kd.fresh' (Kd.N_lt (nU HO_10.out)) k_ hk, Kd.fresh' (Kd.N_lt (nU HO_16.out)) k_ hk, Kd.freshB (g := gb223) (o := .cells #[.int .i64 a1_0, .slice A1_1 l1_1.length c1_1, .slice A1_2 l1_2.length c1_2, .bool a1_3] 24 (0, 0)) (bU BK223.out) k_ hk⟩) _ (Nat.le_refl _)) (Below.refl _ _) (Nat.le_refl _) (by simp) ?_; (case hd => rfl); (case hg => rfl); (case hr => first | (go_simp; done) | (go_simp; rfl)); (case hp => exact (Reps.c4 (show Kd.FK k24 _ _ (⟨a1_0, ([] : List Int), ([] : List Int), true⟩ : S24) [.int .i64 a1_0, .slice none 0 0, .slice none 0 0, .bool true] from (k24_mkF _ _ (⟨a1_0, ([] : List Int), ([] : List Int), true⟩ : S24) (Nat.le_refl _) (Kd.F_nil _ _ _) (Nat.le_refl _) (Kd.F_nil _ _ _))) (Reps.none _ _))); intro v273 w82 ho83 hb hg_ hnew_; clear hg_ hnew_; (first | rw [← Ny272.out] at ho83 | (simp only [Int.reduceToNat] at ho83; rw [← Ny272.out] at ho83)); replace HO_10 := aM (Kd.N_elder' (nU HO_10.out) (by first | exact Kd.N_base ho83 | exact Kd.S_base ho83 | exact Kd.R_base ho83) hb); replace HO_16 := aM (Kd.N_elder' (nU HO_16.out) (by first | exact Kd.N_base ho83 | exact Kd.S_base ho83 | exact Kd.R_base ho83) hb); replace HOq0 := aM (Kd.V_elder' (vU HOq0.out) (by first | exact Kd.N_base ho83 | exact Kd.S_base ho83 | exact Kd.R_base ho83) hb); replace HOq1 := aM (Kd.V_elder' (vU HOq1.out) (by first | exact Kd.N_base ho83 | exact Kd.S_base ho83 | exact Kd.R_base ho83) hb); replace HLq2 := aM (Kd.V_elder' (vU HLq2.out) (by first | exact Kd.N_base ho83 | exact Kd.S_base ho83 | exact Kd.R_base ho83) hb); replace HLq3 := aM (Kd.V_elder' (vU HLq3.out) (by first | exact Kd.N_base ho83 | exact Kd.S_base ho83 | exact Kd.R_base ho83) hb); have HO274 := aM (Kd.N_lower ho83 (below_size (by repeat (first | (with_reducible first | exact HB.out | apply bA | apply bN | apply bD | refine bS ?_ GE223.out) | exact HB.out)))); replace BK223 := aM (kB (g := gb223) (o := .cells #[.int .i64 a1_0, .slice A1_1 l1_1.length c1_1, .slice A1_2 l1_2.length c1_2, .bool a1_3] 24 (0, 0)) (bU BK223.out) hb); replace HRq4 := aM (Kd.C_below (cU HRq4.out) hb); replace HRq5 := aM (Kd.C_below (cU HRq5.out) hb); replace HB := aM (below_step (by repeat (first | (with_reducible first | exact HB.out | apply bA | apply bN | apply bD | refine bS ?_ GE223.out) | exact HB.out)) hb); clear hb ho83; obtain ⟨Ao85, co85, eo85⟩ := Kd.N_slice HO274.out; subst eo85) | ((with_reducible refine gate_builtin (b := .append) (xs := #[.tmp 121, .tmp 125]) rfl ?_); at_builtin; refine Kd.N_append_rows k24 (w0 := w) w.heap.size rfl (.tmp 121) (.tmp 125) 32 24 (.agg #[(.int .i64 0), (.slice none 0 0), (.slice none 0 0), (.bool false)]) 64 rfl Try.underlying32 info24 rfl (by decide) (by omega) u16 x16_4 y272 _ _ _ (fun k_ => ((P0_ k_ ∨ P1_1_ k_ ∨ P1_2_ k_) ∨ w.heap.size ≤ k_) ∧ some k_ ≠ (.slice (some ad271) y261.length co73 : Value).ownBlock ∧ k_ ≠ gb223) (fun k_ => ((fun k_ => ((P0_ k_ ∨ P1_1_ k_ ∨ P1_2_ k_) ∨ w.heap.size ≤ k_) ∧ some k_ ≠ (.slice (some ad271) y261.length co73 : Value).ownBlock ∧ k_ ≠ gb223)) k_ ∧ some k_ ≠ (u16 : Value).ownBlock) rfl rfl ?aO ?aR (fun _ hk => hk) ?aF ?aB ?aS ?aL ?_; (case aR => exact (by skip; exact Kd.N_F (Kd.N_mono (ok' := (fun k_ => ((fun k_ => ((P0_ k_ ∨ P1_1_ k_ ∨ P1_2_ k_) ∨ w.heap.size ≤ k_) ∧ some k_ ≠ (.slice (some ad271) y261.length co73 : Value).ownBlock ∧ k_ ≠ gb223)) k_ ∧ some k_ ≠ (u16 : Value).ownBlock)) (HO274.out) (fun k_ hk => ⟨⟨hk.1, ⟨hk.2.1, hk.2.2.2⟩⟩, hk.2.2.1⟩)))); (case aB => exact (by repeat (first | (with_reducible first | exact HB.out | apply bA | apply bN | apply bD | refine bS ?_ GE223.out) | exact HB.out))); (case aF => exact (fun k_ hk => ⟨(.inr (Nat.le_trans (below_size (by repeat (first | (with_reducible first | exact HB.out | apply bA | apply bN | apply bD | refine bS ?_ GE223.out) | exact HB.out))) hk)), Kd.fresh' (Kd.N_lt (nU HO_10.out)) k_ hk, Kd.freshB (g := gb223) (o := .cells #[.int .i64 a1_0, .slice A1_1 l1_1.length c1_1, .slice A1_2 l1_2.length c1_2, .bool a1_3] 24 (0, 0)) (bU BK223.out) k_ hk⟩)); (case aO => exact (by (with_reducible repeat (first | apply Kd.N_alloc | apply Kd.N_drewN | apply Kd.N_drew)); exact Kd.N_mono HO_16.out (fun _ hk => ⟨hk.1.1, ⟨hk.1.2.1, hk.1.2.2⟩⟩))); (case aS => exact (below_size (by repeat (first | (with_reducible first | exact HB.out | apply bA | apply bN | apply bD | refine bS ?_ GE223.out) | exact HB.out)))); (case aL => have := LMc79.out; omega); intro v276 w84 ho hb hg hat; rw [← Ny275.out] at ho; have n0_ := aM (Kd.N_afterv (ok := (fun k_ => ((P0_ k_ ∨ P1_1_ k_ ∨ P1_2_ k_) ∨ w.heap.size ≤ k_) ∧ some k_ ≠ (.slice Ao85 y272.length co85 : Value).ownBlock ∧ k_ ≠ gb223)) (by (with_reducible repeat (first | apply Kd.N_alloc | apply Kd.N_drewN | apply Kd.N_drew)); exact Kd.N_mono HO_10.out (fun _ hk => ⟨⟨hk.1.1, ⟨hk.2, hk.1.2.2⟩⟩, hk.1.2.1⟩)) hg hat); have n1_ := aM (Kd.V_afterv (ok := (fun k_ => ((P0_ k_ ∨ P1_1_ k_ ∨ P1_2_ k_) ∨ w.heap.size ≤ k_) ∧ some k_ ≠ (.slice (some ad271) y261.length co73 : Value).ownBlock ∧ some k_ ≠ (.slice Ao85 y272.length co85 : Value).ownBlock ∧ k_ ≠ gb223)) (by (with_reducible repeat (first | apply Kd.V_alloc | apply Kd.V_drewN | apply Kd.V_drew)); exact Kd.V_mono HOq0.out (fun _ hk => ⟨⟨hk.1.1, ⟨hk.1.2.1, ⟨hk.2, hk.1.2.2.2⟩⟩⟩, hk.1.2.2.1⟩)) hg hat); have n2_ := aM (Kd.V_afterv (ok := (fun k_ => ((P0_ k_ ∨ P1_1_ k_ ∨ P1_2_ k_) ∨ w.heap.size ≤ k_) ∧ some k_ ≠ (.slice (some ad271) y261.length co73 : Value).ownBlock ∧ some k_ ≠ (.slice Ao85 y272.length co85 : Value).ownBlock ∧ k_ ≠ gb223)) (by (with_reducible repeat (first | apply Kd.V_alloc | apply Kd.V_drewN | apply Kd.V_drew)); exact Kd.V_mono HOq1.out (fun _ hk => ⟨⟨hk.1.1, ⟨hk.1.2.1, ⟨hk.2, hk.1.2.2.2⟩⟩⟩, hk.1.2.2.1⟩)) hg hat); have n3_ := aM (blk_grown (g := gb223) (o := .cells #[.int .i64 a1_0, .slice A1_1 l1_1.length c1_1, .slice A1_2 l1_2.length c1_2, .bool a1_3] 24 (0, 0)) (bU BK223.out) hg (Kd.N_away HO_16.out (fun _ hk => hk.1.2.2))); have n4_ := aM (Kd.V_afterv (ok := (fun k_ => ((P0_ k_ ∨ P1_1_ k_ ∨ P1_2_ k_) ∨ w.heap.size ≤ k_) ∧ some k_ ≠ (.slice (some ad271) y261.length co73 : Value).ownBlock ∧ some k_ ≠ (.slice Ao85 y272.length co85 : Value).ownBlock ∧ k_ ≠ gb223)) (by (with_reducible repeat (first | apply Kd.V_alloc | apply Kd.V_drewN | apply Kd.V_drew)); exact Kd.V_mono HLq2.out (fun _ hk => ⟨⟨hk.1.1.1, ⟨hk.1.2, ⟨hk.2, hk.1.1.2.2⟩⟩⟩, hk.1.1.2.1⟩)) hg hat); have n5_ := aM (Kd.V_afterv (ok := (fun k_ => ((P0_ k_ ∨ P1_1_ k_ ∨ P1_2_ k_) ∨ w.heap.size ≤ k_) ∧ some k_ ≠ (.slice (some ad271) y261.length co73 : Value).ownBlock ∧ some k_ ≠ (.slice Ao85 y272.length co85 : Value).ownBlock ∧ k_ ≠ gb223)) (by (with_reducible repeat (first | apply Kd.V_alloc | apply Kd.V_drewN | apply Kd.V_drew)); exact Kd.V_mono HLq3.out (fun _ hk => ⟨⟨hk.1.1.1, ⟨hk.1.2, ⟨hk.2, hk.1.1.2.2⟩⟩⟩, hk.1.1.2.1⟩)) hg hat); have n6_ := aM (Kd.N_afterv (ok := (fun k_ => ((P0_ k_ ∨ P1_1_ k_ ∨ P1_2_ k_) ∨ w.heap.size ≤ k_) ∧ some k_ ≠ (.slice (some ad271) y261.length co73 : Value).ownBlock ∧ k_ ≠ gb223)) (by (with_reducible repeat (first | apply Kd.N_alloc | apply Kd.N_drewN | apply Kd.N_drew)); exact Kd.N_mono HO274.out (fun _ hk => ⟨⟨hk.1, ⟨hk.2.1, hk.2.2.2⟩⟩, hk.2.2.1⟩)) hg hat); have n7_ := aM (hb); have n8_ := aM (ho); clear HO_10; clear HOq0; clear HOq1; clear BK223; clear HLq2; clear HLq3; clear HO274; clear HB; clear HO_16; have HO_10 := n0_; have HOq0 := n1_; have HOq1 := n2_; have BK223 := n3_; have HLq2 := n4_; have HLq3 := n5_; have HO274 := n6_; have HB := n7_; have HO277 := n8_; clear n0_ n1_ n2_ n3_ n4_ n5_ n6_ n7_ n8_; clear ho hb hg hat))
                      go_roundg k4
                      case measure => have := HJ6.out; have := HK2.out; have := HK3.out; have := HK4.out; omega
                      case rel => exact ⟨(y275), (true), (wrap64 (x18_4 + 1)), (by first | rfl | (simp; done) | (simp [*]; done)), (by first | rfl | (simp; done) | (simp [*]; done)), H', ⟨by have := HJ6.out; have := HK2.out; have := HK3.out; have := HK4.out; omega⟩, ⟨by (with_reducible repeat (first | apply Kd.N_alloc | apply Kd.N_drewN | apply Kd.N_drew)); exact Kd.N_mono HO_10.out (fun _ hk => ⟨hk.1.1, ⟨hk.2, hk.1.2.2⟩⟩)⟩, ⟨by (with_reducible repeat (first | apply Kd.N_alloc | apply Kd.N_drewN | apply Kd.N_drew)); exact HO277.out⟩, ⟨by (with_reducible repeat (first | apply Kd.V_alloc | apply Kd.V_drewN | apply Kd.V_drew)); exact Kd.V_mono HOq0.out (fun _ hk => ⟨hk.1.1, ⟨hk.1.2.1, ⟨hk.2, hk.1.2.2.2⟩⟩⟩)⟩, ⟨by (with_reducible repeat (first | apply Kd.V_alloc | apply Kd.V_drewN | apply Kd.V_drew)); exact Kd.V_mono HOq1.out (fun _ hk => ⟨hk.1.1, ⟨hk.1.2.1, ⟨hk.2, hk.1.2.2.2⟩⟩⟩)⟩, ⟨by (with_reducible repeat (first | refine blk_drewN ?_ _ | refine blk_drew ?_ | refine blk_alloc ?_ _)); exact BK223.out⟩, ⟨by repeat (first | (with_reducible first | exact HB.out | apply bA | apply bN | apply bD | refine bS ?_ GE223.out) | exact HB.out)⟩⟩
                     ·
                      rw [if_neg c79] at H
                      exact absurd H (by simp)
                   ·
                    rw [if_neg c76] at H
                    have c76b0 : (((rd_T24 y261 x18_4).f0) == a1_0) = false := beq_eq_false_iff_ne.mpr c76
                    have c76b1 : (((rd_T24 y261 x18_4).f0) != a1_0) = true := bne_iff_ne.mpr c76
                    obtain ⟨y279, hy279⟩ : ∃ y_ : List (S24), y_ = (([(⟨(rd_T24 y261 x18_4).f0, (rd_T24 y261 x18_4).f1, (rd_T24 y261 x18_4).f2, (rd_T24 y261 x18_4).f3⟩ : S24)] : List (S24))) := ⟨_, rfl⟩
                    replace H : (if x16_4.length + y279.length < 2199023255552 then (banksmanref10_Add.l2 k4 y261 (x16_4 ++ y279) x17_4 (wrap64 (x18_4 + 1)) a1_0 l1_1 l1_2 a1_3) else (none)) = some (r1, r2) := by first | (rw [hy279]; with_reducible exact H) | (have H2_ := (Option.bind_some _ _).symm.trans H; rw [hy279]; with_reducible exact H2_) | (have H2_ := (Option.bind_some _ _).symm.trans H; with_reducible exact H2_) | with_reducible exact H | (rw [hy279]; exact H) | exact H
                    have Ny279 := aM hy279
                    clear hy279
                    by_cases c86 : x16_4.length + y279.length < 2199023255552
                    ·
                     rw [if_pos c86] at H
                     have LMc86 := aM c86
                     clear c86
                     obtain ⟨y282, hy282⟩ : ∃ y_ : List (S24), y_ = (x16_4 ++ y279) := ⟨_, rfl⟩
                     replace H : (banksmanref10_Add.l2 k4 y261 y282 x17_4 (wrap64 (x18_4 + 1)) a1_0 l1_1 l1_2 a1_3) = some (r1, r2) := by first | (rw [hy282]; with_reducible exact H) | (have H2_ := (Option.bind_some _ _).symm.trans H; rw [hy282]; with_reducible exact H2_) | (have H2_ := (Option.bind_some _ _).symm.trans H; with_reducible exact H2_) | with_reducible exact H | (rw [hy282]; exact H) | exact H
                     have Ny282 := aM hy282
                     clear hy282
                     have H' := aM H
                     clear H
                     try go_wp2
                     have n0_ := aM (Kd.N_drew HO_10.out)
                     have n1_ := aM (Kd.N_drew HO_16.out)
                     have n2_ := aM (Kd.V_drew HOq0.out)
                     have n3_ := aM (Kd.V_drew HOq1.out)
                     have n4_ := aM (blk_drew BK223.out)
                     have n5_ := aM (bD HB.out)
                     clear HO_10
                     clear HO_16
                     clear HOq0
                     clear HOq1
                     clear BK223
                     clear HB
                     have HO_10 := n0_
                     have HO_16 := n1_
                     have HOq0 := n2_
                     have HOq1 := n3_
                     have BK223 := n4_
                     have HB := n5_
                     clear n0_ n1_ n2_ n3_ n4_ n5_
                     have p271 : 0 ≤ (x18_4 : Int) := of_decide_eq_true (by first | (with_reducible assumption) | assumption)
                     have q271 : x18_4 < (y261.length : Int) := of_decide_eq_true (by first | (with_reducible assumption) | assumption)
                     obtain ⟨ad271, A271_1, c271_1, A271_2, c271_2, e271, hx271_0, hx271_1, hx271_2, hx271_3, hl271_1, hi271_1, hl271_2, hi271_2⟩ := at_T24 (Kd.N_reads' HO_10.out).2.2 x18_4 p271 q271
                     cases e271
                     obtain ⟨ce271, hce271, hMe271, hcc271⟩ := Kd.N_get HO_10.out z24 x18_4 p271 (by first | exact q271 | exact of_decide_eq_true (by first | (with_reducible assumption) | assumption) | (have e_ := (Kd.N_reads' HO_10.out).1; omega))
                     obtain ⟨ua271_1, uc271_1, ua271_2, uc271_2, rfl, ul271_1, ge271_1, ul271_2, ge271_2⟩ := k24_openF hMe271
                     have hv271_1 := hcc271 1 _ rfl
                     rw [add_field _ _ 1 (by omega)] at hv271_1
                     replace hv271_1 := Option.some.inj (hv271_1.symm.trans hx271_1)
                     injection hv271_1 with hva_ hvn_ hvc_
                     rw [hva_] at ge271_1
                     rw [hvc_] at ul271_1
                     have HLq2 := aM (show Kd.V (Kd.int .u8) 5 _ w.heap.size _ _ ((rd_T24 y261 x18_4).f1) from Kd.V_mk ul271_1 ge271_1)
                     clear hva_ hvn_ hvc_ ge271_1 ul271_1
                     have hv271_2 := hcc271 2 _ rfl
                     rw [add_field _ _ 2 (by omega)] at hv271_2
                     replace hv271_2 := Option.some.inj (hv271_2.symm.trans hx271_2)
                     injection hv271_2 with hva_ hvn_ hvc_
                     rw [hva_] at ge271_2
                     rw [hvc_] at ul271_2
                     have HLq3 := aM (show Kd.V (Kd.int .u8) 5 _ w.heap.size _ _ ((rd_T24 y261 x18_4).f2) from Kd.V_mk ul271_2 ge271_2)
                     clear hva_ hvn_ hvc_ ge271_2 ul271_2
                     clear hcc271 hce271
                     have HRq4 := aM hi271_1
                     have HCq4 := aM hl271_1
                     clear hi271_1 hl271_1
                     have HRq5 := aM hi271_2
                     have HCq5 := aM hl271_2
                     clear hi271_2 hl271_2
                     replace p271 := eq_true p271
                     replace q271 := eq_true q271
                     refine start_ (n := 8) (S := fun w' => w'.cell? ⟨gb223, 0, none⟩ = some (.int .i64 a1_0) ∧ w'.cell? ⟨gb223, 1, none⟩ = some (.slice A1_1 l1_1.length c1_1) ∧ w'.cell? ⟨gb223, 2, none⟩ = some (.slice A1_2 l1_2.length c1_2) ∧ w'.cell? ⟨gb223, 3, none⟩ = some (.bool a1_3) ∧ w'.cell? (ad271.add ((x18_4).toNat * 4)) = some (.int .i64 ((rd_T24 y261 x18_4).f0)) ∧ w'.cell? ⟨(ad271.add ((x18_4).toNat * 4)).block, (ad271.add ((x18_4).toNat * 4)).off + 1, none⟩ = some (.slice A271_1 ((rd_T24 y261 x18_4).f1).length c271_1) ∧ w'.cell? ⟨(ad271.add ((x18_4).toNat * 4)).block, (ad271.add ((x18_4).toNat * 4)).off + 2, none⟩ = some (.slice A271_2 ((rd_T24 y261 x18_4).f2).length c271_2) ∧ w'.cell? ⟨(ad271.add ((x18_4).toNat * 4)).block, (ad271.add ((x18_4).toNat * 4)).off + 3, none⟩ = some (.bool ((rd_T24 y261 x18_4).f3))) (ds := []) #[F_,F_,F_,F_,F_,F_,F_,F_] (by kernel_rfl) rfl rfl ⟨(kC BK223.out 0).trans rfl, (kC BK223.out 1).trans rfl, (kC BK223.out 2).trans rfl, (kC BK223.out 3).trans rfl, hx271_0, hx271_1, hx271_2, hx271_3⟩ (fun hHeld => ?_); refine with_tabW banksmanref10_Add.tab31 banksmanref10_Add.bits31 (fun HT_ HW_ => ?_)
                     generalize wr.drew = w87 at HO_10 HO_16 HOq0 HOq1 BK223 HB HLq2 HLq3 HRq4 HRq5 hx271_0 hx271_1 hx271_2 hx271_3 hHeld ⊢
                     refine pure_ (i := 0) (N := some 104) (v := ?_) (a' := ?_) #[T_,F_,F_,F_,F_,F_,F_,F_] rfl rfl (any_of HT_.out (by kernel_rfl)) (fun _ _ _ h => h) (Or.inl ⟨by rfl, ?_⟩) ?_ ?_
                     rotate_left
                     ·
                      intro w'
                      go_simp
                      with_reducible rfl
                     rotate_left
                     ·
                      simp only [Act.put, List.setIfInBounds_toArray, List.set_cons_zero, List.set_cons_succ, i64_w, i32_w]
                      rfl
                     refine pure_ (i := 1) (N := some 105) (v := ?_) (a' := ?_) #[T_,T_,F_,F_,F_,F_,F_,F_] rfl rfl (any_of HT_.out (by kernel_rfl)) (fun _ _ _ h => h) (Or.inl ⟨by rfl, ?_⟩) ?_ ?_
                     rotate_left
                     ·
                      intro w'
                      go_simp
                      with_reducible rfl
                     rotate_left
                     ·
                      simp only [Act.put, List.setIfInBounds_toArray, List.set_cons_zero, List.set_cons_succ, i64_w, i32_w]
                      rfl
                     refine pure_ (i := 2) (N := some 106) (v := ?_) (a' := ?_) #[T_,T_,T_,F_,F_,F_,F_,F_] rfl rfl (any_of HT_.out (by kernel_rfl)) (fun _ _ _ h => h) (Or.inl ⟨by rfl, ?_⟩) ?_ ?_
                     rotate_left
                     ·
                      intro w'
                      go_simp
                      with_reducible rfl
                     rotate_left
                     ·
                      simp only [Act.put, List.setIfInBounds_toArray, List.set_cons_zero, List.set_cons_succ, i64_w, i32_w]
                      rfl
                     refine pure_ (i := 3) (N := some 107) (v := ?_) (a' := ?_) #[T_,T_,T_,T_,F_,F_,F_,F_] rfl rfl (any_of HT_.out (by kernel_rfl)) (fun _ _ _ h => h) (Or.inl ⟨by rfl, ?_⟩) ?_ ?_
                     rotate_left
                     ·
                      intro w'
                      go_simp
                      with_reducible rfl
                     rotate_left
                     ·
                      simp only [Act.put, List.setIfInBounds_toArray, List.set_cons_zero, List.set_cons_succ, i64_w, i32_w]
                      rfl
                     refine pure_ (i := 5) (N := some 109) (v := ?_) (a' := ?_) #[T_,T_,T_,T_,F_,T_,F_,F_] rfl rfl (any_of HT_.out (by kernel_rfl)) (fun _ _ _ h => h) (Or.inl ⟨by rfl, ?_⟩) ?_ ?_
                     rotate_left
                     ·
                      intro w'
                      go_simp
                      with_reducible rfl
                     rotate_left
                     ·
                      simp only [Act.put, List.setIfInBounds_toArray, List.set_cons_zero, List.set_cons_succ, i64_w, i32_w]
                      rfl
                     refine take_ (i := 4) (N := some 108) (v := ?_) (a' := ?_) #[T_,T_,T_,T_,T_,T_,F_,F_] rfl rfl (take_ofW HT_.out HW_.out (by kernel_rfl)) (fun _ _ _ h => h) (Or.inl ⟨by rfl, ?_⟩) hHeld ?_ ?_
                     rotate_left
                     ·
                      rintro w' ⟨s0, s1, s2, s3, s4, s5, s6, s7⟩
                      go_simp
                      with_reducible rfl
                     rotate_left
                     ·
                      simp only [Act.put, List.setIfInBounds_toArray, List.set_cons_zero, List.set_cons_succ, i64_w, i32_w]
                      rfl
                     refine take_ (i := 6) (N := some 110) (v := ?_) (a' := ?_) #[T_,T_,T_,T_,T_,T_,T_,F_] rfl rfl (take_ofW HT_.out HW_.out (by kernel_rfl)) (fun _ _ _ h => h) (Or.inl ⟨by rfl, ?_⟩) hHeld ?_ ?_
                     rotate_left
                     ·
                      rintro w' ⟨s0, s1, s2, s3, s4, s5, s6, s7⟩
                      go_simp
                      with_reducible rfl
                     rotate_left
                     ·
                      simp only [Act.put, List.setIfInBounds_toArray, List.set_cons_zero, List.set_cons_succ, i64_w, i32_w]
                      rfl
                     refine pure_ (i := 7) (N := some 111) (v := ?_) (a' := ?_) #[T_,T_,T_,T_,T_,T_,T_,T_] rfl rfl (any_of HT_.out (by kernel_rfl)) (fun _ _ _ h => h) (Or.inl ⟨by rfl, ?_⟩) ?_ ?_
                     rotate_left
                     ·
                      intro w'
                      go_simp
                      with_reducible rfl
                     rotate_left
                     ·
                      simp only [Act.put, List.setIfInBounds_toArray, List.set_cons_zero, List.set_cons_succ, i64_w, i32_w]
                      rfl
                     refine done_ (done_of HT_.out (by kernel_rfl)) ?_
                     have p278 : 0 ≤ (x18_4 : Int) := of_decide_eq_true (by first | (with_reducible assumption) | assumption)
                     have q278 : x18_4 < (y261.length : Int) := of_decide_eq_true (by first | (with_reducible assumption) | assumption)
                     obtain ⟨ad278, A278_1, c278_1, A278_2, c278_2, e278, hx278_0, hx278_1, hx278_2, hx278_3, hl278_1, hi278_1, hl278_2, hi278_2⟩ := at_T24 (Kd.N_reads' HO_10.out).2.2 x18_4 p278 q278
                     obtain rfl : ad271 = ad278 := (by injection e278)
                     (try obtain ⟨rfl, rfl⟩ := uE hx278_1 HS4_)
                     (try obtain ⟨rfl, rfl⟩ := uE hx278_1 HS5_)
                     (try obtain ⟨rfl, rfl⟩ := uE hx278_1 HS6_)
                     (try obtain ⟨rfl, rfl⟩ := uE hx278_1 HS7_)
                     (try obtain ⟨rfl, rfl⟩ := uE hx278_1 HS8_)
                     (try obtain ⟨rfl, rfl⟩ := uE hx278_2 HS4_)
                     (try obtain ⟨rfl, rfl⟩ := uE hx278_2 HS5_)
                     (try obtain ⟨rfl, rfl⟩ := uE hx278_2 HS6_)
                     (try obtain ⟨rfl, rfl⟩ := uE hx278_2 HS7_)
                     (try obtain ⟨rfl, rfl⟩ := uE hx278_2 HS8_)
                     obtain ⟨ce278, hce278, hMe278, hcc278⟩ := Kd.N_get HO_10.out z24 x18_4 p278 (by first | exact q278 | exact of_decide_eq_true (by first | (with_reducible assumption) | assumption) | (have e_ := (Kd.N_reads' HO_10.out).1; omega))
                     obtain ⟨ua278_1, uc278_1, ua278_2, uc278_2, rfl, ul278_1, ge278_1, ul278_2, ge278_2⟩ := k24_openF hMe278
                     have hv278_1 := hcc278 1 _ rfl
                     rw [add_field _ _ 1 (by omega)] at hv278_1
                     replace hv278_1 := Option.some.inj (hv278_1.symm.trans hx278_1)
                     injection hv278_1 with hva_ hvn_ hvc_
                     rw [hva_] at ge278_1
                     rw [hvc_] at ul278_1
                     have HLq8 := aM (show Kd.V (Kd.int .u8) 5 _ w.heap.size _ _ ((rd_T24 y261 x18_4).f1) from Kd.V_mk ul278_1 ge278_1)
                     clear hva_ hvn_ hvc_ ge278_1 ul278_1
                     have hv278_2 := hcc278 2 _ rfl
                     rw [add_field _ _ 2 (by omega)] at hv278_2
                     replace hv278_2 := Option.some.inj (hv278_2.symm.trans hx278_2)
                     injection hv278_2 with hva_ hvn_ hvc_
                     rw [hva_] at ge278_2
                     rw [hvc_] at ul278_2
                     have HLq9 := aM (show Kd.V (Kd.int .u8) 5 _ w.heap.size _ _ ((rd_T24 y261 x18_4).f2) from Kd.V_mk ul278_2 ge278_2)
                     clear hva_ hvn_ hvc_ ge278_2 ul278_2
                     clear hcc278 hce278
                     have HRq10 := aM hi278_1
                     have HCq10 := aM hl278_1
                     clear hi278_1 hl278_1
                     have HRq11 := aM hi278_2
                     have HCq11 := aM hl278_2
                     clear hi278_2 hl278_2
                     replace p278 := eq_true p278
                     replace q278 := eq_true q278
                     have ea_ := Option.some.inj (hx271_1.symm.trans hx278_1)
                     injection ea_ with ea_ en_ ec_
                     subst ea_
                     subst ec_
                     clear en_
                     have ea_ := Option.some.inj (hx271_2.symm.trans hx278_2)
                     injection ea_ with ea_ en_ ec_
                     subst ea_
                     subst ec_
                     clear en_
                     try go_wp2_with (first | ((with_reducible refine gate_dst (N := 117) rfl ?_); refine Kd.N_lit k24 _ 24 ?hg (N' := 117) ?hd (xs := ([(⟨(rd_T24 y261 x18_4).f0, (rd_T24 y261 x18_4).f1, (rd_T24 y261 x18_4).f2, (rd_T24 y261 x18_4).f3⟩ : S24)] : List (S24))) (inner := [.int .i64 ((rd_T24 y261 x18_4).f0), .slice A271_1 ((rd_T24 y261 x18_4).f1).length c271_1, .slice A271_2 ((rd_T24 y261 x18_4).f2).length c271_2, .bool ((rd_T24 y261 x18_4).f3)]) (ok := (fun k_ => ((P0_ k_ ∨ P1_1_ k_ ∨ P1_2_ k_) ∨ w.heap.size ≤ k_) ∧ some k_ ≠ (.slice (some ad271) y261.length co73 : Value).ownBlock ∧ some k_ ≠ (u16 : Value).ownBlock ∧ k_ ≠ gb223)) (okp := (fun k_ => ((P0_ k_ ∨ P1_1_ k_ ∨ P1_2_ k_) ∨ w.heap.size ≤ k_) ∧ some k_ ≠ (.slice (some ad271) y261.length co73 : Value).ownBlock ∧ some k_ ≠ (u16 : Value).ownBlock ∧ k_ ≠ gb223)) ?hr ?hp (fun _ hk => hk) ((show ∀ k_, w87.heap.size ≤ k_ → (fun k_ => ((P0_ k_ ∨ P1_1_ k_ ∨ P1_2_ k_) ∨ w.heap.size ≤ k_) ∧ some k_ ≠ (.slice (some ad271) y261.length co73 : Value).ownBlock ∧ some k_ ≠ (u16 : Value).ownBlock ∧ k_ ≠ gb223) k_ from fun k_ hk => ⟨(.inr (Nat.le_trans (below_size (by repeat (first | (with_reducible first | exact HB.out | apply bA | apply bN | apply bD | refine bS ?_ GE223.out) | exact HB.out))) hk)), Kd.fresh' (Kd.N_lt (nU HO_10.out)) k_ hk, Kd.fresh' (Kd.N_lt (nU HO_16.out)) k_ hk, Kd.freshB (g := gb223) (o := .cells #[.int .i64 a1_0, .slice A1_1 l1_1.length c1_1, .slice A1_2 l1_2.length c1_2, .bool a1_3] 24 (0, 0)) (bU BK223.out) k_ hk⟩) _ (Nat.le_refl _)) (Below.refl _ _) (Nat.le_refl _) (by simp) ?_; (case hd => rfl); (case hg => rfl); (case hr => first | (go_simp; done) | (go_simp; rfl)); (case hp => exact (Reps.c4 (show Kd.FK k24 _ _ (⟨(rd_T24 y261 x18_4).f0, (rd_T24 y261 x18_4).f1, (rd_T24 y261 x18_4).f2, (rd_T24 y261 x18_4).f3⟩ : S24) [.int .i64 ((rd_T24 y261 x18_4).f0), .slice A271_1 ((rd_T24 y261 x18_4).f1).length c271_1, .slice A271_2 ((rd_T24 y261 x18_4).f2).length c271_2, .bool ((rd_T24 y261 x18_4).f3)] from (k24_mkF _ _ (⟨(rd_T24 y261 x18_4).f0, (rd_T24 y261 x18_4).f1, (rd_T24 y261 x18_4).f2, (rd_T24 y261 x18_4).f3⟩ : S24) (Kd.V_reads' (Kd.V_mono (ok' := (fun k_ => ((P0_ k_ ∨ P1_1_ k_ ∨ P1_2_ k_) ∨ w.heap.size ≤ k_) ∧ some k_ ≠ (.slice (some ad271) y261.length co73 : Value).ownBlock ∧ some k_ ≠ (u16 : Value).ownBlock ∧ k_ ≠ gb223)) (HLq8.out) (fun k_ hk => ⟨hk.1.1, ⟨hk.2, ⟨hk.1.2.1, hk.1.2.2⟩⟩⟩))).2.1 (Kd.V_F (Kd.V_mono (ok' := (fun k_ => ((P0_ k_ ∨ P1_1_ k_ ∨ P1_2_ k_) ∨ w.heap.size ≤ k_) ∧ some k_ ≠ (.slice (some ad271) y261.length co73 : Value).ownBlock ∧ some k_ ≠ (u16 : Value).ownBlock ∧ k_ ≠ gb223)) (HLq8.out) (fun k_ hk => ⟨hk.1.1, ⟨hk.2, ⟨hk.1.2.1, hk.1.2.2⟩⟩⟩))) (Kd.V_reads' (Kd.V_mono (ok' := (fun k_ => ((P0_ k_ ∨ P1_1_ k_ ∨ P1_2_ k_) ∨ w.heap.size ≤ k_) ∧ some k_ ≠ (.slice (some ad271) y261.length co73 : Value).ownBlock ∧ some k_ ≠ (u16 : Value).ownBlock ∧ k_ ≠ gb223)) (HLq9.out) (fun k_ hk => ⟨hk.1.1, ⟨hk.2, ⟨hk.1.2.1, hk.1.2.2⟩⟩⟩))).2.1 (Kd.V_F (Kd.V_mono (ok' := (fun k_ => ((P0_ k_ ∨ P1_1_ k_ ∨ P1_2_ k_) ∨ w.heap.size ≤ k_) ∧ some k_ ≠ (.slice (some ad271) y261.length co73 : Value).ownBlock ∧ some k_ ≠ (u16 : Value).ownBlock ∧ k_ ≠ gb223)) (HLq9.out) (fun k_ hk => ⟨hk.1.1, ⟨hk.2, ⟨hk.1.2.1, hk.1.2.2⟩⟩⟩))))) (Reps.none _ _))); intro v280 w88 ho89 hb hg_ hnew_; clear hg_ hnew_; (first | rw [← Ny279.out] at ho89 | (simp only [Int.reduceToNat] at ho89; rw [← Ny279.out] at ho89)); replace HO_10 := aM (Kd.N_elder' (nU HO_10.out) (by first | exact Kd.N_base ho89 | exact Kd.S_base ho89 | exact Kd.R_base ho89) hb); replace HO_16 := aM (Kd.N_elder' (nU HO_16.out) (by first | exact Kd.N_base ho89 | exact Kd.S_base ho89 | exact Kd.R_base ho89) hb); replace HOq0 := aM (Kd.V_elder' (vU HOq0.out) (by first | exact Kd.N_base ho89 | exact Kd.S_base ho89 | exact Kd.R_base ho89) hb); replace HOq1 := aM (Kd.V_elder' (vU HOq1.out) (by first | exact Kd.N_base ho89 | exact Kd.S_base ho89 | exact Kd.R_base ho89) hb); replace HLq2 := aM (Kd.V_elder' (vU HLq2.out) (by first | exact Kd.N_base ho89 | exact Kd.S_base ho89 | exact Kd.R_base ho89) hb); replace HLq3 := aM (Kd.V_elder' (vU HLq3.out) (by first | exact Kd.N_base ho89 | exact Kd.S_base ho89 | exact Kd.R_base ho89) hb); replace HLq8 := aM (Kd.V_elder' (vU HLq8.out) (by first | exact Kd.N_base ho89 | exact Kd.S_base ho89 | exact Kd.R_base ho89) hb); replace HLq9 := aM (Kd.V_elder' (vU HLq9.out) (by first | exact Kd.N_base ho89 | exact Kd.S_base ho89 | exact Kd.R_base ho89) hb); have HO281 := aM (Kd.N_lower ho89 (below_size (by repeat (first | (with_reducible first | exact HB.out | apply bA | apply bN | apply bD | refine bS ?_ GE223.out) | exact HB.out)))); replace BK223 := aM (kB (g := gb223) (o := .cells #[.int .i64 a1_0, .slice A1_1 l1_1.length c1_1, .slice A1_2 l1_2.length c1_2, .bool a1_3] 24 (0, 0)) (bU BK223.out) hb); replace HRq4 := aM (Kd.C_below (cU HRq4.out) hb); replace HRq5 := aM (Kd.C_below (cU HRq5.out) hb); replace HRq10 := aM (Kd.C_below (cU HRq10.out) hb); replace HRq11 := aM (Kd.C_below (cU HRq11.out) hb); replace HB := aM (below_step (by repeat (first | (with_reducible first | exact HB.out | apply bA | apply bN | apply bD | refine bS ?_ GE223.out) | exact HB.out)) hb); clear hb ho89; obtain ⟨Ao91, co91, eo91⟩ := Kd.N_slice HO281.out; subst eo91) | ((with_reducible refine gate_builtin (b := .append) (xs := #[.tmp 112, .tmp 117]) rfl ?_); at_builtin; refine Kd.N_append_rows k24 (w0 := w) w.heap.size rfl (.tmp 112) (.tmp 117) 32 24 (.agg #[(.int .i64 0), (.slice none 0 0), (.slice none 0 0), (.bool false)]) 64 rfl Try.underlying32 info24 rfl (by decide) (by omega) u16 x16_4 y279 _ _ _ (fun k_ => ((P0_ k_ ∨ P1_1_ k_ ∨ P1_2_ k_) ∨ w.heap.size ≤ k_) ∧ some k_ ≠ (.slice (some ad271) y261.length co73 : Value).ownBlock ∧ k_ ≠ gb223) (fun k_ => ((fun k_ => ((P0_ k_ ∨ P1_1_ k_ ∨ P1_2_ k_) ∨ w.heap.size ≤ k_) ∧ some k_ ≠ (.slice (some ad271) y261.length co73 : Value).ownBlock ∧ k_ ≠ gb223)) k_ ∧ some k_ ≠ (u16 : Value).ownBlock) rfl rfl ?aO ?aR (fun _ hk => hk) ?aF ?aB ?aS ?aL ?_; (case aR => exact (by skip; exact Kd.N_F (Kd.N_mono (ok' := (fun k_ => ((fun k_ => ((P0_ k_ ∨ P1_1_ k_ ∨ P1_2_ k_) ∨ w.heap.size ≤ k_) ∧ some k_ ≠ (.slice (some ad271) y261.length co73 : Value).ownBlock ∧ k_ ≠ gb223)) k_ ∧ some k_ ≠ (u16 : Value).ownBlock)) (HO281.out) (fun k_ hk => ⟨⟨hk.1, ⟨hk.2.1, hk.2.2.2⟩⟩, hk.2.2.1⟩)))); (case aB => exact (by repeat (first | (with_reducible first | exact HB.out | apply bA | apply bN | apply bD | refine bS ?_ GE223.out) | exact HB.out))); (case aF => exact (fun k_ hk => ⟨(.inr (Nat.le_trans (below_size (by repeat (first | (with_reducible first | exact HB.out | apply bA | apply bN | apply bD | refine bS ?_ GE223.out) | exact HB.out))) hk)), Kd.fresh' (Kd.N_lt (nU HO_10.out)) k_ hk, Kd.freshB (g := gb223) (o := .cells #[.int .i64 a1_0, .slice A1_1 l1_1.length c1_1, .slice A1_2 l1_2.length c1_2, .bool a1_3] 24 (0, 0)) (bU BK223.out) k_ hk⟩)); (case aO => exact (by (with_reducible repeat (first | apply Kd.N_alloc | apply Kd.N_drewN | apply Kd.N_drew)); exact Kd.N_mono HO_16.out (fun _ hk => ⟨hk.1.1, ⟨hk.1.2.1, hk.1.2.2⟩⟩))); (case aS => exact (below_size (by repeat (first | (with_reducible first | exact HB.out | apply bA | apply bN | apply bD | refine bS ?_ GE223.out) | exact HB.out)))); (case aL => have := LMc86.out; omega); intro v283 w90 ho hb hg hat; rw [← Ny282.out] at ho; have n0_ := aM (Kd.N_afterv (ok := (fun k_ => ((P0_ k_ ∨ P1_1_ k_ ∨ P1_2_ k_) ∨ w.heap.size ≤ k_) ∧ some k_ ≠ (.slice Ao91 y279.length co91 : Value).ownBlock ∧ k_ ≠ gb223)) (by (with_reducible repeat (first | apply Kd.N_alloc | apply Kd.N_drewN | apply Kd.N_drew)); exact Kd.N_mono HO_10.out (fun _ hk => ⟨⟨hk.1.1, ⟨hk.2, hk.1.2.2⟩⟩, hk.1.2.1⟩)) hg hat); have n1_ := aM (Kd.V_afterv (ok := (fun k_ => ((P0_ k_ ∨ P1_1_ k_ ∨ P1_2_ k_) ∨ w.heap.size ≤ k_) ∧ some k_ ≠ (.slice (some ad271) y261.length co73 : Value).ownBlock ∧ some k_ ≠ (.slice Ao91 y279.length co91 : Value).ownBlock ∧ k_ ≠ gb223)) (by (with_reducible repeat (first | apply Kd.V_alloc | apply Kd.V_drewN | apply Kd.V_drew)); exact Kd.V_mono HOq0.out (fun _ hk => ⟨⟨hk.1.1, ⟨hk.1.2.1, ⟨hk.2, hk.1.2.2.2⟩⟩⟩, hk.1.2.2.1⟩)) hg hat); have n2_ := aM (Kd.V_afterv (ok := (fun k_ => ((P0_ k_ ∨ P1_1_ k_ ∨ P1_2_ k_) ∨ w.heap.size ≤ k_) ∧ some k_ ≠ (.slice (some ad271) y261.length co73 : Value).ownBlock ∧ some k_ ≠ (.slice Ao91 y279.length co91 : Value).ownBlock ∧ k_ ≠ gb223)) (by (with_reducible repeat (first | apply Kd.V_alloc | apply Kd.V_drewN | apply Kd.V_drew)); exact Kd.V_mono HOq1.out (fun _ hk => ⟨⟨hk.1.1, ⟨hk.1.2.1, ⟨hk.2, hk.1.2.2.2⟩⟩⟩, hk.1.2.2.1⟩)) hg hat); have n3_ := aM (blk_grown (g := gb223) (o := .cells #[.int .i64 a1_0, .slice A1_1 l1_1.length c1_1, .slice A1_2 l1_2.length c1_2, .bool a1_3] 24 (0, 0)) (bU BK223.out) hg (Kd.N_away HO_16.out (fun _ hk => hk.1.2.2))); have n4_ := aM (Kd.V_afterv (ok := (fun k_ => ((P0_ k_ ∨ P1_1_ k_ ∨ P1_2_ k_) ∨ w.heap.size ≤ k_) ∧ some k_ ≠ (.slice (some ad271) y261.length co73 : Value).ownBlock ∧ some k_ ≠ (.slice Ao91 y279.length co91 : Value).ownBlock ∧ k_ ≠ gb223)) (by (with_reducible repeat (first | apply Kd.V_alloc | apply Kd.V_drewN | apply Kd.V_drew)); exact Kd.V_mono HLq2.out (fun _ hk => ⟨⟨hk.1.1.1, ⟨hk.1.2, ⟨hk.2, hk.1.1.2.2⟩⟩⟩, hk.1.1.2.1⟩)) hg hat); have n5_ := aM (Kd.V_afterv (ok := (fun k_ => ((P0_ k_ ∨ P1_1_ k_ ∨ P1_2_ k_) ∨ w.heap.size ≤ k_) ∧ some k_ ≠ (.slice (some ad271) y261.length co73 : Value).ownBlock ∧ some k_ ≠ (.slice Ao91 y279.length co91 : Value).ownBlock ∧ k_ ≠ gb223)) (by (with_reducible repeat (first | apply Kd.V_alloc | apply Kd.V_drewN | apply Kd.V_drew)); exact Kd.V_mono HLq3.out (fun _ hk => ⟨⟨hk.1.1.1, ⟨hk.1.2, ⟨hk.2, hk.1.1.2.2⟩⟩⟩, hk.1.1.2.1⟩)) hg hat); have n6_ := aM (Kd.V_afterv (ok := (fun k_ => ((P0_ k_ ∨ P1_1_ k_ ∨ P1_2_ k_) ∨ w.heap.size ≤ k_) ∧ some k_ ≠ (.slice (some ad271) y261.length co73 : Value).ownBlock ∧ some k_ ≠ (.slice Ao91 y279.length co91 : Value).ownBlock ∧ k_ ≠ gb223)) (by (with_reducible repeat (first | apply Kd.V_alloc | apply Kd.V_drewN | apply Kd.V_drew)); exact Kd.V_mono HLq8.out (fun _ hk => ⟨⟨hk.1.1.1, ⟨hk.1.2, ⟨hk.2, hk.1.1.2.2⟩⟩⟩, hk.1.1.2.1⟩)) hg hat); have n7_ := aM (Kd.V_afterv (ok := (fun k_ => ((P0_ k_ ∨ P1_1_ k_ ∨ P1_2_ k_) ∨ w.heap.size ≤ k_) ∧ some k_ ≠ (.slice (some ad271) y261.length co73 : Value).ownBlock ∧ some k_ ≠ (.slice Ao91 y279.length co91 : Value).ownBlock ∧ k_ ≠ gb223)) (by (with_reducible repeat (first | apply Kd.V_alloc | apply Kd.V_drewN | apply Kd.V_drew)); exact Kd.V_mono HLq9.out (fun _ hk => ⟨⟨hk.1.1.1, ⟨hk.1.2, ⟨hk.2, hk.1.1.2.2⟩⟩⟩, hk.1.1.2.1⟩)) hg hat); have n8_ := aM (Kd.N_afterv (ok := (fun k_ => ((P0_ k_ ∨ P1_1_ k_ ∨ P1_2_ k_) ∨ w.heap.size ≤ k_) ∧ some k_ ≠ (.slice (some ad271) y261.length co73 : Value).ownBlock ∧ k_ ≠ gb223)) (by (with_reducible repeat (first | apply Kd.N_alloc | apply Kd.N_drewN | apply Kd.N_drew)); exact Kd.N_mono HO281.out (fun _ hk => ⟨⟨hk.1, ⟨hk.2.1, hk.2.2.2⟩⟩, hk.2.2.1⟩)) hg hat); have n9_ := aM (hb); have n10_ := aM (ho); clear HO_10; clear HOq0; clear HOq1; clear BK223; clear HLq2; clear HLq3; clear HLq8; clear HLq9; clear HO281; clear HB; clear HO_16; have HO_10 := n0_; have HOq0 := n1_; have HOq1 := n2_; have BK223 := n3_; have HLq2 := n4_; have HLq3 := n5_; have HLq8 := n6_; have HLq9 := n7_; have HO281 := n8_; have HB := n9_; have HO284 := n10_; clear n0_ n1_ n2_ n3_ n4_ n5_ n6_ n7_ n8_ n9_ n10_; clear ho hb hg hat))
                     go_roundg k4
                     case measure => have := HJ6.out; have := HK2.out; have := HK3.out; have := HK4.out; omega
                     case rel => exact ⟨(y282), (x17_4), (wrap64 (x18_4 + 1)), (by first | rfl | (simp; done) | (simp [*]; done)), (by first | rfl | (simp; done) | (simp [*]; done)), H', ⟨by have := HJ6.out; have := HK2.out; have := HK3.out; have := HK4.out; omega⟩, ⟨by (with_reducible repeat (first | apply Kd.N_alloc | apply Kd.N_drewN | apply Kd.N_drew)); exact Kd.N_mono HO_10.out (fun _ hk => ⟨hk.1.1, ⟨hk.2, hk.1.2.2⟩⟩)⟩, ⟨by (with_reducible repeat (first | apply Kd.N_alloc | apply Kd.N_drewN | apply Kd.N_drew)); exact HO284.out⟩, ⟨by (with_reducible repeat (first | apply Kd.V_alloc | apply Kd.V_drewN | apply Kd.V_drew)); exact Kd.V_mono HOq0.out (fun _ hk => ⟨hk.1.1, ⟨hk.1.2.1, ⟨hk.2, hk.1.2.2.2⟩⟩⟩)⟩, ⟨by (with_reducible repeat (first | apply Kd.V_alloc | apply Kd.V_drewN | apply Kd.V_drew)); exact Kd.V_mono HOq1.out (fun _ hk => ⟨hk.1.1, ⟨hk.1.2.1, ⟨hk.2, hk.1.2.2.2⟩⟩⟩)⟩, ⟨by (with_reducible repeat (first | refine blk_drewN ?_ _ | refine blk_drew ?_ | refine blk_alloc ?_ _)); exact BK223.out⟩, ⟨by repeat (first | (with_reducible first | exact HB.out | apply bA | apply bN | apply bD | refine bS ?_ GE223.out) | exact HB.out)⟩⟩
                    ·
                     rw [if_neg c86] at H
                     exact absurd H (by simp)
                  ·
                   rw [if_neg c75] at H
                   exact absurd H (by simp)
                 ·
                  rw [if_neg c74] at H
                  have c74b0 : decide (x18_4 < (y261.length : Int)) = false := decide_eq_false c74
                  clear c74
                  replace H := Option.bind_eq_some_iff.mp H
                  obtain ⟨t268, A920, H⟩ := H
                  replace H : (some (t268, 0)) = some (r1, r2) := H
                  have A92 := aM A920
                  clear A920
                  simp only [Option.some.injEq, Prod.mk.injEq] at H
                  obtain ⟨rfl, rfl⟩ := H
                  obtain ⟨Ao93, co93, eo93⟩ := Kd.N_slice HO_16.out
                  subst eo93
                  go_wp2_with (first | ((with_reducible refine gate_callee (f := 42) rfl ?_); refine goesL_ (some 128) rfl rfl Try.func42 (by kernel_rfl) rfl #[.slice Ao93 x16_4.length co93] rfl (by (try simp only [List.map_toArray, List.map_cons, List.map_nil]); first | done | rfl | (simp only [List.length_drop, List.length_take]; rfl)) ?_; (with_reducible refine (banksmanref10_Copy.calls k4 _ _ x16_4 t268 _ ?side1 ?side2 A92.out).mono ?_); (case side1 => repeat (first | exact (Kd.N_reads' HO_16.out).2.2 | (with_reducible refine Kd.C_alloc ?_ _) | (with_reducible refine Kd.C_drewN ?_ _) | (with_reducible refine Kd.C_drew ?_))); (case side2 => exact (Kd.N_reads' HO_16.out).2.1); rintro e w94 ⟨v269, rfl, ho0, hb⟩; refine ⟨_, rfl, ?_⟩; replace HOq0 := aM (Kd.V_elder' (vU HOq0.out) (by first | exact Kd.N_base ho0 | exact Kd.S_base ho0 | exact Kd.R_base ho0) hb); replace HOq1 := aM (Kd.V_elder' (vU HOq1.out) (by first | exact Kd.N_base ho0 | exact Kd.S_base ho0 | exact Kd.R_base ho0) hb); have HO270 := aM (Kd.N_lower (Kd.N_mono (ok' := fun k_ => ((P0_ k_ ∨ P1_1_ k_ ∨ P1_2_ k_) ∨ w.heap.size ≤ k_) ∧ some k_ ≠ (.slice Ao73 y261.length co73 : Value).ownBlock ∧ some k_ ≠ (.slice Ao93 x16_4.length co93 : Value).ownBlock ∧ k_ ≠ gb223) (Kd.S_N (Kd.S_bound ho0)) (fun k_ hk_ => ⟨(.inr (Nat.le_trans (below_size (by repeat (first | (with_reducible first | exact HB.out | apply bA | apply bN | apply bD | refine bS ?_ GE223.out) | exact HB.out))) hk_.2.1)), (Kd.fresh' (Kd.N_lt (nU HO_10.out)) k_ hk_.2.1), (Kd.fresh' (Kd.N_lt (nU HO_16.out)) k_ hk_.2.1), (Kd.freshB (g := gb223) (o := .cells #[.int .i64 a1_0, .slice A1_1 l1_1.length c1_1, .slice A1_2 l1_2.length c1_2, .bool a1_3] 24 (0, 0)) (bU BK223.out) k_ hk_.2.1)⟩)) (below_size (by repeat (first | (with_reducible first | exact HB.out | apply bA | apply bN | apply bD | refine bS ?_ GE223.out) | exact HB.out)))); replace HO_10 := aM (Kd.N_elder' (nU HO_10.out) (by first | exact Kd.N_base ho0 | exact Kd.S_base ho0 | exact Kd.R_base ho0) hb); replace HO_16 := aM (Kd.N_elder' (nU HO_16.out) (by first | exact Kd.N_base ho0 | exact Kd.S_base ho0 | exact Kd.R_base ho0) hb); replace BK223 := aM (kB (g := gb223) (o := .cells #[.int .i64 a1_0, .slice A1_1 l1_1.length c1_1, .slice A1_2 l1_2.length c1_2, .bool a1_3] 24 (0, 0)) (bU BK223.out) hb); replace HB := aM (below_step (by repeat (first | (with_reducible first | exact HB.out | apply bA | apply bN | apply bD | refine bS ?_ GE223.out) | exact HB.out)) hb); (try clear hb); (try clear hk)))
                  go_ret2
                  exact ⟨_, by first | rfl | (simp [errW_none, errW_some] <;> rfl) | (simp [*, errW_none, errW_some] <;> rfl), by (with_reducible repeat (first | apply Kd.N_alloc | apply Kd.N_drewN | apply Kd.N_drew)); exact Kd.N_mono HO270.out (fun _ hk => hk.1), by repeat (first | (with_reducible first | exact HB.out | apply bA | apply bN | apply bD | refine bS ?_ GE223.out) | exact HB.out)⟩
          ·
           rw [if_neg c56] at H
           exact absurd H (by simp)
  ·
   rw [if_neg c5] at H
   exact absurd H (by simp)
 ·
  rw [if_neg c4] at H
  exact absurd H (by simp)

end Go.Proofs.Ytomlhapehldlnaa.P
