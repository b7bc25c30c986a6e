import Derived.Test.YtbjeaalbdaedpaaPx0
import Derived.Test.YtbjeaalbdaedpaaPx1
import Derived.Test.YtbjeaalbdaedpaaPx20
import Derived.Test.YtbjeaalbdaedpaaPx37
import Derived.Test.YtbjeaalbdaedpaaPx69
import Derived.Test.YtbjeaalbdaedpaaPx70
import Derived.Test.YtbjeaalbdaedpaaPx72
import Derived.BigQuiet
namespace Go.Proofs.Ytbjeaalbdaedpaa.P
open Go.RowKit Go.Proofs.YtbjeaalbdaedpaaW.PrintWords Go.Proofs.YtbjeaalbdaedpaaW.PrintLast Go.Proofs.YtbjeaalbdaedpaaW.PrintMore
attribute [local go_sem] max2_int min2_int max_two min_two max_three min_three max_four min_four
set_option linter.unusedVariables false
set_option linter.unusedSimpArgs false
def cmpK (a b : List Int) : Int := Lib.compareBytes (Lib.bytesOf a) (Lib.bytesOf b)
def cmpPr (y x : S53) : Int := cmpK y.f0 x.f0
def risesL (l : List S53) : Bool := (List.range (l.length - 1)).all fun j => decide (cmpPr (rd_T53 l (j : Int)) (rd_T53 l ((j + 1 : Nat) : Int)) < 0)
def inX (t : Int) (lo hi : List Int) (op : Bool) (w : S28) : Bool := decide (w.f0 = t) && (decide (0 ≤ cmpK w.f1 lo) && (op || decide (cmpK w.f1 hi < 0)))
def pairOf (w : S28) : S53 := ⟨w.f1, w.f3⟩
def atOf (out : List S53) (p : S53) : Nat := bsL (fun y => cmpPr y p) out (out.length + 1) 0 out.length
def isOf (out : List S53) (p : S53) : Bool := decide (atOf out p < out.length) && decide (cmpPr (rd_T53 out (atOf out p : Int)) p = 0)
def ovStep (t : Int) (lo hi : List Int) (op : Bool) (out : List S53) (w : S28) : List S53 :=
  if inX t lo hi op w = true then
    (if isOf out (pairOf w) = true then (if w.f2 = true then out.eraseIdx (atOf out (pairOf w)) else out.set (atOf out (pairOf w)) (pairOf w))
     else if w.f2 = true then out else out.take (atOf out (pairOf w)) ++ pairOf w :: out.drop (atOf out (pairOf w)))
  else out
def overL (d : List S28) (m : List Int) (t : Int) (lo hi : List Int) (op : Bool) (l : List S53) : List S53 :=
  if risesL l = true then (if checkD d m = true then lastL d else []).foldl (ovStep t lo hi op) l else l
def okPs (l : List S53) : Bool := decide (l.length ≤ 1000) && l.all fun p => decide (p.f0.length ≤ 1000) && decide (p.f1.length ≤ 1000)
theorem bsL_le (c : S53 → Int) (l : List S53) : ∀ f i j : Nat, i ≤ j → bsL c l f i j ≤ j
  | 0, i, j, h => h
  | f + 1, i, j, h => by
    unfold bsL
    split
    · split
      · exact bsL_le c l f _ _ (by omega)
      · have := bsL_le c l f i ((i + j) / 2) (by omega); omega
    · exact h
theorem atOf_le (out : List S53) (p : S53) : atOf out p ≤ out.length := bsL_le _ _ _ _ _ (Nat.zero_le _)
theorem ovStep_len (t : Int) (lo hi : List Int) (op : Bool) (out : List S53) (w : S28) : (ovStep t lo hi op out w).length ≤ out.length + 1 := by
  have h := atOf_le out (pairOf w)
  unfold ovStep
  split
  · split
    · split
      · rw [List.length_eraseIdx]; split <;> omega
      · rw [List.length_set]; omega
    · split
      · omega
      · rw [List.length_append, List.length_cons, List.length_take, List.length_drop]; omega
  · omega
theorem ovFold_len (t : Int) (lo hi : List Int) (op : Bool) : ∀ (ws : List S28) (out : List S53), (ws.foldl (ovStep t lo hi op) out).length ≤ out.length + ws.length
  | [], out => Nat.le_refl _
  | w :: ws, out => by
    have h1 := ovFold_len t lo hi op ws (ovStep t lo hi op out w)
    have h2 := ovStep_len t lo hi op out w
    rw [List.foldl_cons, List.length_cons]
    omega
theorem rises_false {l : List S53} {j : Nat} (hj : j + 1 < l.length) (h : ¬ cmpPr (rd_T53 l (j : Int)) (rd_T53 l ((j + 1 : Nat) : Int)) < 0) : risesL l = false := by
  unfold risesL
  rw [List.all_eq_false]
  exact ⟨j, List.mem_range.2 (by omega), by simpa using h⟩
theorem rises_true {l : List S53} (h : ∀ j, j + 1 < l.length → cmpPr (rd_T53 l (j : Int)) (rd_T53 l ((j + 1 : Nat) : Int)) < 0) : risesL l = true := by
  unfold risesL
  rw [List.all_eq_true]
  intro j hj
  rw [List.mem_range] at hj
  exact decide_eq_true (h j (by omega))
def OvE (P2_ : Nat → Prop) (s : Nat) (w : World) (oD oX : Obj) (v : Value) (out : List S53) (W : World) : Prop :=
  Below w.heap.size w W ∧ W.heap[s]? = some oD ∧ W.heap[s + 1]? = some oX ∧ Kd.N k53 53 W (s + 2) (fun q => (P2_ q ∧ q < s) ∨ s + 2 ≤ q) v out
theorem OvE.step {P2_ : Nat → Prop} {s : Nat} {w : World} {oD oX : Obj} {v : Value} {out : List S53} {W W1 : World} (h : OvE P2_ s w oD oX v out W) (hb : Below W.heap.size W W1) : OvE P2_ s w oD oX v out W1 :=
  ⟨below_step h.1 hb, (hb.block _ (blk_lt h.2.1)).trans h.2.1, (hb.block _ (blk_lt h.2.2.1)).trans h.2.2.1, Kd.N_below h.2.2.2 hb⟩
def OvF (P2_ : Nat → Prop) (s sL eL : Nat) (w : World) (oD oX : Obj) (vL : Value) (Lw : List S28) (v : Value) (out : List S53) (W : World) : Prop :=
  OvE P2_ s w oD oX v out W ∧ Kd.N k28 28 W sL (fun q => sL ≤ q ∧ q < eL) vL Lw ∧ (∀ B, v.ownBlock = some B → B < sL ∨ eL ≤ B) ∧ eL ≤ W.heap.size
theorem OvF.step {P2_ : Nat → Prop} {s sL eL : Nat} {w : World} {oD oX : Obj} {vL : Value} {Lw : List S28} {v : Value} {out : List S53} {W W1 : World} (h : OvF P2_ s sL eL w oD oX vL Lw v out W) (hb : Below W.heap.size W W1) : OvF P2_ s sL eL w oD oX vL Lw v out W1 :=
  ⟨h.1.step hb, Kd.N_below h.2.1 hb, h.2.2.1, Nat.le_trans h.2.2.2 hb.size⟩
theorem OvF.turn {P2_ : Nat → Prop} {s sL eL : Nat} {w : World} {oD oX : Obj} {vL : Value} {Lw : List S28} {v v1 : Value} {out out1 : List S53} {W W1 : World} (h : OvF P2_ s sL eL w oD oX vL Lw v out W) (hs : s = w.heap.size) (hg : W.grownBy W1 v.ownBlock) (hN : Kd.N k53 53 W1 (s + 2) (fun q => (P2_ q ∧ q < s) ∨ s + 2 ≤ q) v1 out1) (hv : v1.ownBlock = v.ownBlock ∨ ∃ b, v1.ownBlock = some b ∧ W.heap.size ≤ b) : OvF P2_ s sL eL w oD oX vL Lw v1 out1 W1 := by
  obtain ⟨⟨h1, h2, h3, h4⟩, h5, h6, h7⟩ := h
  have hb := Kd.N_base h4
  refine ⟨⟨h1.trans ((Below.refl _ W).grown hg h1.size (fun q e => by have := hb q e; omega)), (hg.block _ (blk_lt h2) (fun e => by have := hb _ e.symm; omega)).trans h2, (hg.block _ (blk_lt h3) (fun e => by have := hb _ e.symm; omega)).trans h3, hN⟩, ?_, ?_, Nat.le_trans h7 hg.size⟩
  · exact Kd.N_grown h5 hg (fun q hq e => by have := h6 q e.symm; omega)
  · intro B hB
    rcases hv with e | ⟨b, e, hle⟩
    · exact h6 B (by rw [← e]; exact hB)
    · rw [hB] at e
      injection e with e
      omega
theorem FK_pair {W : World} {ok : Nat → Prop} {x : S28} {a0 : Value} {A : Option Addr} {n c : Nat} {g : Value} {B : Option Addr} {m d : Nat} (h : Kd.FK k28 W ok x [a0, .slice A n c, g, .slice B m d]) : Kd.FK k53 W ok (pairOf x) [.slice A n c, .slice B m d] := by
  refine Foot.imp h (fun W' hk => ?_)
  obtain ⟨q1, q2, e1, h1, ⟨q3, q4, e2, h2, ⟨q5, q6, e3, h3, h4⟩⟩⟩ := hk
  have l1 : q1.length = 1 := (Kd.int .i64).K_len h1
  have l3 : q3.length = 1 := (Kd.slice 5 (Kd.int .u8)).K_len h2
  have l5 : q5.length = 1 := Kd.bool.K_len h3
  obtain ⟨u1, rfl⟩ := List.length_eq_one_iff.1 l1
  obtain ⟨u3, rfl⟩ := List.length_eq_one_iff.1 l3
  obtain ⟨u5, rfl⟩ := List.length_eq_one_iff.1 l5
  subst e3
  subst e2
  simp only [List.cons_append, List.nil_append, List.cons.injEq] at e1
  obtain ⟨_, rfl, _, rfl⟩ := e1
  exact ⟨[.slice A n c], [.slice B m d], rfl, h2, h4⟩
theorem putW_len (w : S28) : ∀ l : List S28, (putW w l).length ≤ l.length + 1
  | [] => Nat.le_refl _
  | x :: l => by
    have := putW_len w l
    unfold putW
    split
    · exact Nat.le_refl _
    · split
      · simp
      · simp only [List.length_cons]; omega
theorem foldW_len : ∀ (l a : List S28), (l.foldl (fun a w => putW w a) a).length ≤ a.length + l.length
  | [], a => Nat.le_refl _
  | x :: l, a => by
    have h1 := foldW_len l (putW x a)
    have h2 := putW_len x a
    rw [List.foldl_cons, List.length_cons]
    omega
theorem lastL_len (l : List S28) : (lastL l).length ≤ l.length := by have := foldW_len l []; simpa [lastL] using this
theorem N_storeL {P : Program} {ops : Array Oper} {rest : List Oper} {o : Oper} {a : Act} {Q : Exit → Act → World → Prop} {α : Type} (d : Kd α) {W : World} (base : Nat) (hgd : o.guard = none) (hN : o.dst = none) (t : TypeId) (p x : Operand) (ho : o.op = .store t p x) (e : TypeId) {g n cap o' : Nat} (i : Int) (j : Nat) (xs : List α) (x' : α) (u : Value) (seg c : List Value) (ok okp : Nat → Prop)
    (haddr : a.eval p = .pointer (some ⟨g, o', none⟩)) (hoff : o' = i.toNat * d.sz + j) (hx : a.eval x = u) (hu : u.cells.toList = seg) (ht : (P.info? t).map (·.size) = some seg.length) (h1 : ∀ q ∈ seg, q.oneCell' = true)
    (HO : Kd.N d e W base ok (.slice (some ⟨g, 0, none⟩) n cap) xs) (h0 : 0 ≤ i) (hi : i < n) (hcl : c.length = d.sz) (hcc : ∀ j u, c[j]? = some u → W.cell? ⟨g, i.toNat * d.sz + j, none⟩ = some u)
    (hj : j + seg.length ≤ d.sz) (hM : Kd.FK d W okp x' (c.take j ++ seg ++ c.drop (j + seg.length))) (hokp : ∀ k, okp k → ok k ∧ k ≠ g)
    (h : ∀ w1, Kd.N d e w1 base ok (.slice (some ⟨g, 0, none⟩) n cap) (xs.set i.toNat x') → W.grownBy w1 (some g) → wpList P ops Q rest a w1) : wpList P ops Q (o :: rest) a W := by
  refine wpList_plain hgd fun K hK => ?_
  have hw : Region.wanted o (yielded ops a.tmps) = true := by simp [Region.wanted, hgd]
  have h2 := N_store_step (P := P) (ops := ops) (o := o) (a := a) (Q := Q) (Kc := K) d base hw hN t p x ho e i j xs x' u seg c ok okp haddr hoff hx hu ht h1 HO h0 hi hcl hcc hj hM hokp (fun w1 h3 h4 => by
    have h5 := hK _ _ (h w1 h3 h4)
    exact h5)
  rw [if_pos hw] at h2
  exact h2
def delta_Over.f (l0_0 : List (S28)) (l0_1 : List Int) (a1_0 : Int) (l1_1 : List Int) (l1_2 : List Int) (a1_3 : Bool) (l2 : List (S53)) : Option ((List (S53))) := if okPs l2 = true then some (overL l0_0 l0_1 a1_0 l1_1 l1_2 a1_3 l2) else none
set_option maxHeartbeats 8000000 in
set_option maxRecDepth 100000 in
theorem delta_Over.calls (A0_0 : Option Addr) (c0_0 : Nat) (l0_0 : List (S28)) (A0_1 : Option Addr) (c0_1 : Nat) (l0_1 : List Int) (a1_0 : Int) (A1_1 : Option Addr) (c1_1 : Nat) (l1_1 : List Int) (A1_2 : Option Addr) (c1_2 : Nat) (l1_2 : List Int) (a1_3 : Bool) (P2_ : Nat → Prop) (A2 : Option Addr) (c2 : Nat) (l2 : List (S53)) (r : List (S53)) (w : World) (hr0_0 : Kd.C k28 w A0_0 l0_0.length l0_0) (hc0_0 : l0_0.length ≤ c0_0) (hr0_1 : Kd.C (Kd.int .i64) w A0_1 l0_1.length l0_1) (hc0_1 : l0_1.length ≤ c0_1) (hr1_1 : Kd.C (Kd.int .u8) w A1_1 l1_1.length l1_1) (hc1_1 : l1_1.length ≤ c1_1) (hr1_2 : Kd.C (Kd.int .u8) w A1_2 l1_2.length l1_2) (hc1_2 : l1_2.length ≤ c1_2) (hs2 : Kd.V k53 53 w w.heap.size (fun k_ => P2_ k_) (.slice A2 l2.length c2) l2) (h : delta_Over.f l0_0 l0_1 a1_0 l1_1 l1_2 a1_3 l2 = some r) :
    Calls Try.prog 26 #[.agg #[.slice A0_0 l0_0.length c0_0, .slice A0_1 l0_1.length c0_1], .agg #[.int .i64 a1_0, .slice A1_1 l1_1.length c1_1, .slice A1_2 l1_2.length c1_2, .bool a1_3], .slice A2 l2.length c2] w fun e w' => ∃ v0_ : Value, e = .returned (v0_) ∧ Kd.N k53 53 w' w.heap.size (fun k_ => (P2_ k_ ∨ w.heap.size ≤ k_)) v0_ r ∧ Below w.heap.size w w' := by
  unfold delta_Over.f at h
  have hok : okPs l2 = true := Classical.byContradiction fun hn => by rw [if_neg hn] at h; cases h
  rw [if_pos hok] at h
  obtain rfl := Option.some.inj h
  clear h
  unfold okPs at hok
  simp only [Bool.and_eq_true, decide_eq_true_eq, List.all_eq_true] at hok
  obtain ⟨hln, hsm⟩ := hok
  have HSM := Aside0.mk hsm
  have HS := Aside0.mk (show Kd.V k53 53 w w.heap.size (fun k_ => P2_ k_ ∧ k_ < w.heap.size) (.slice A2 l2.length c2) l2 from Kd.V_mk (Kd.V_at hs2).2.1 (Kd.F_bound (Kd.V_F hs2)))
  have HCL := Aside0.mk (show slices_Clone_Pair.f l2 = some l2 by unfold slices_Clone_Pair.f; rw [if_pos (by omega)])
  have HR00 := Aside0.mk hr0_0
  have HR01 := Aside0.mk hr0_1
  have HR11 := Aside0.mk hr1_1
  have HR12 := Aside0.mk hr1_2
  have HC00 := Aside0.mk hc0_0
  have HC01 := Aside0.mk hc0_1
  have HC11 := Aside0.mk hc1_1
  have HC12 := Aside0.mk hc1_2
  have hu := Try.underlying25
  have huw := Try.underlying28
  have hup := Try.underlying53
  have hux := Try.underlying39
  clear hsm hs2 hr0_0 hr0_1 hr1_1 hr1_2 hc0_0 hc0_1 hc1_1 hc1_2
  obtain ⟨s, hs⟩ : ∃ s, s = w.heap.size := ⟨_, rfl⟩
  have HSE := Aside0.mk hs
  obtain ⟨w2, hw2⟩ : ∃ w2, w2 = (w.alloc (.cells #[.slice A0_0 l0_0.length c0_0, .slice A0_1 l0_1.length c0_1] 25 (0, 0))).alloc (.cells #[.int .i64 a1_0, .slice A1_1 l1_1.length c1_1, .slice A1_2 l1_2.length c1_2, .bool a1_3] 39 (0, 0)) := ⟨_, rfl⟩
  have hB0 : w2.heap[s]? = some (.cells #[.slice A0_0 l0_0.length c0_0, .slice A0_1 l0_1.length c0_1] 25 (0, 0)) := by rw [hw2, hs]; exact blk_alloc (heap_alloc_new w _) _
  have hB1 : w2.heap[s + 1]? = some (.cells #[.int .i64 a1_0, .slice A1_1 l1_1.length c1_1, .slice A1_2 l1_2.length c1_2, .bool a1_3] 39 (0, 0)) := by
    rw [hw2, hs]; have := heap_alloc_new (w.alloc (.cells #[.slice A0_0 l0_0.length c0_0, .slice A0_1 l0_1.length c0_1] 25 (0, 0))) (.cells #[.int .i64 a1_0, .slice A1_1 l1_1.length c1_1, .slice A1_2 l1_2.length c1_2, .bool a1_3] 39 (0, 0)); rwa [World.size_alloc] at this
  have hBB : Below w.heap.size w w2 := by rw [hw2]; exact below_alloc (below_alloc (Below.refl _ _) _) _
  have hsz0 : w2.heap.size = s + 2 := by rw [hw2, hs, World.size_alloc, World.size_alloc]
  go_enter Try.func26, Try.ntmps26
  go_wp2_with (go_at_call 45; (suffices hsuf : Aside0 _ from hsuf.out))
  refine ⟨?_⟩
  rw [← hs, ← hw2]
  clear hw2 hs
  refine (slices_Clone_Pair.calls (fun k_ => P2_ k_ ∧ k_ < w.heap.size) A2 c2 l2 l2 w2 (Kd.V_below HS.out hBB) HCL.out).mono ?_
  rintro e w3 ⟨v7, rfl, hN, hb⟩
  have HO := Aside0.mk (show OvE P2_ s w (.cells #[.slice A0_0 l0_0.length c0_0, .slice A0_1 l0_1.length c0_1] 25 (0, 0)) (.cells #[.int .i64 a1_0, .slice A1_1 l1_1.length c1_1, .slice A1_2 l1_2.length c1_2, .bool a1_3] 39 (0, 0)) v7 l2 w3 from ⟨below_step hBB hb, (hb.block _ (blk_lt hB0)).trans hB0, (hb.block _ (blk_lt hB1)).trans hB1, Kd.N_lower (Kd.N_mono hN (fun q hq => by have := HSE.out; exact hq.imp (fun h => ⟨h.1, by omega⟩) (fun h => by omega))) (by omega)⟩)
  clear hN hb hB0 hB1 hBB hsz0
  obtain ⟨A7, c7, rfl⟩ := Kd.N_slice HO.out.2.2.2
  have hmx : l2.length ≤ 9223372036854775807 := by omega
  go_wp2_with (fail)
  go_loopw [22] (fun s22 wr => ∃ k : Nat, s22 = .int .i64 k ∧ k ≤ l2.length ∧ Aside0 (OvE P2_ s w (.cells #[.slice A0_0 l0_0.length c0_0, .slice A0_1 l0_1.length c0_1] 25 (0, 0)) (.cells #[.int .i64 a1_0, .slice A1_1 l1_1.length c1_1, .slice A1_2 l1_2.length c1_2, .bool a1_3] 39 (0, 0)) (.slice A7 l2.length c7) l2 wr)) (fun s22 _ => l2.length - (intOf s22).toNat)
  case atStart => exact ⟨0, rfl, Nat.zero_le _, HO⟩
  case round =>
    obtain ⟨k, rfl, hk, HO⟩ := hrel
    by_cases hlt : k < l2.length
    · rcases N_open HO.out.2.2.2 with ⟨_, hx⟩ | ⟨g, cap, cur, hv, hbg, hokg, hgb, hcap, hcm, hcl, hfk⟩
      · rw [hx] at hlt; exact absurd hlt (Nat.not_lt_zero _)
      injection hv with hA _ hc
      subst hA hc
      have hlt1 : (k : Int) < (l2.length : Int) := by omega
      obtain ⟨ad, A0, c0, A1, c1, e, hx0, hx1, hl0, hi0, hl1, hi1⟩ := at_T53 (Kd.N_reads' HO.out.2.2.2).2.2 k (by omega) (by omega)
      cases e
      rw [Int.toNat_natCast] at hx0 hx1
      obtain ⟨p, hp⟩ : ∃ p, l2[k]? = some p := ⟨_, List.getElem?_eq_getElem hlt⟩
      have hrd : rd_T53 l2 (k : Int) = p := by unfold rd_T53; rw [Int.toNat_natCast, List.getD_eq_getElem?_getD, hp]; rfl
      rw [hrd] at hx0 hx1 hl0 hi0 hl1 hi1
      have hy0 : wr.cell? ⟨g, k * 2, none⟩ = some (.slice A0 p.f0.length c0) := by simpa [add_plain] using hx0
      have hy1 : wr.cell? ⟨g, k * 2 + 1, none⟩ = some (.slice A1 p.f1.length c1) := by simpa [add_plain] using hx1
      have HP := Aside0.mk hp
      have HSZ := Aside0.mk (HSM.out p (List.mem_of_getElem? hp))
      have HI := Aside0.mk (And.intro hi0 (And.intro hl0 (And.intro hi1 hl1)))
      have HGL := Aside0.mk (blk_lt hgb)
      have HGG := Aside0.mk hbg
      clear hp hrd hi0 hl0 hi1 hl1 hfk hgb hx0 hx1 hokg
      obtain ⟨gw, hgw⟩ : ∃ gw, gw = wr.heap.size := ⟨_, rfl⟩
      obtain ⟨wx, hwx⟩ : ∃ wx, wx = wr.alloc (.cells #[.slice A0 p.f0.length c0, .slice A1 p.f1.length c1] 53 (0, 0)) := ⟨_, rfl⟩
      have hgwb : wx.heap[gw]? = some (.cells #[.slice A0 p.f0.length c0, .slice A1 p.f1.length c1] 53 (0, 0)) := by rw [hwx, hgw]; exact heap_alloc_new _ _
      have hbx : Below wr.heap.size wr wx := by rw [hwx]; exact below_alloc (Below.refl _ _) _
      go_wp2_with (fail)
      rw [← hwx, ← hgw]
      have HGW := Aside0.mk (And.intro hgw hgwb)
      have HBX := Aside0.mk hbx
      clear hwx hgw hgwb hbx
      have HYC := Aside0.mk (And.intro hy0 hy1)
      clear hy0 hy1
      have HCE := Aside0.mk (show ∀ W, Below wx.heap.size wx W → W.cell? ⟨gw, 0, none⟩ = some (.slice A0 p.f0.length c0) ∧ W.cell? ⟨gw, 1, none⟩ = some (.slice A1 p.f1.length c1) from fun W hb2 =>
        have e := (hb2.block _ (blk_lt HGW.out.2)).trans HGW.out.2
        ⟨(blk_cell e 0).trans rfl, (blk_cell e 1).trans rfl⟩)
      have HCA := Aside0.mk (show bytes_Clone.f p.f0 = some p.f0 by unfold bytes_Clone.f; rw [if_pos (by have := HSZ.out; omega)])
      have HCB := Aside0.mk (show bytes_Clone.f p.f1 = some p.f1 by unfold bytes_Clone.f; rw [if_pos (by have := HSZ.out; omega)])
      have HD := Aside0.mk (below_drew1 HBX.out)
      have HD0 := Aside0.mk (below_drew1 (Below.refl wx.heap.size wx))
      refine start_ (n := 11) (S := fun w' => w'.cell? ⟨gw, 0, none⟩ = some (.slice A0 p.f0.length c0) ∧ w'.cell? ⟨gw, 1, none⟩ = some (.slice A1 p.f1.length c1)) (ds := [10]) #[false, false, false, false, false, false, false, false, false, false, false] (by kernel_rfl) rfl rfl (HCE.out _ HD0.out) (fun hHeld => ?_)
      generalize wx.drew = wa at HD HD0 hHeld ⊢
      refine pure_ (i := 0) (N := some 27) (v := ?_) (a' := ?_) #[true, false, false, false, false, false, false, false, false, false, false] rfl rfl (by kernel_rfl) (fun _ _ _ h => h) (Or.inl ⟨by rfl, ?_⟩) ?_ ?_
      rotate_left
      · intro w'
        go_simp
        with_reducible rfl
      rotate_left
      · simp only [Act.put, List.setIfInBounds_toArray, List.set_cons_zero, List.set_cons_succ]
        rfl
      refine pure_ (i := 1) (N := some 28) (v := ?_) (a' := ?_) #[true, true, false, false, false, false, false, false, false, false, false] rfl rfl (by kernel_rfl) (fun _ _ _ h => h) (Or.inl ⟨by rfl, ?_⟩) ?_ ?_
      rotate_left
      · intro w'
        go_simp
        with_reducible rfl
      rotate_left
      · simp only [Act.put, List.setIfInBounds_toArray, List.set_cons_zero, List.set_cons_succ]
        rfl
      refine pure_ (i := 2) (N := some 29) (v := ?_) (a' := ?_) #[true, true, true, false, false, false, false, false, false, false, false] rfl rfl (by kernel_rfl) (fun _ _ _ h => h) (Or.inl ⟨by rfl, ?_⟩) ?_ ?_
      rotate_left
      · intro w'
        go_simp
        with_reducible rfl
      rotate_left
      · simp only [Act.put, List.setIfInBounds_toArray, List.set_cons_zero, List.set_cons_succ]
        rfl
      refine take_ (i := 3) (N := some 30) (v := ?_) (a' := ?_) #[true, true, true, true, false, false, false, false, false, false, false] rfl rfl (by kernel_rfl) (fun _ _ _ h => h) (Or.inl ⟨by rfl, ?_⟩) hHeld ?_ ?_
      rotate_left
      · rintro w' ⟨s0, s1⟩
        go_simp
        with_reducible rfl
      rotate_left
      · simp only [Act.put, List.setIfInBounds_toArray, List.set_cons_zero, List.set_cons_succ]
        rfl
      refine pure_ (i := 5) (N := some 32) (v := ?_) (a' := ?_) #[true, true, true, true, false, true, false, false, false, false, false] rfl rfl (by kernel_rfl) (fun _ _ _ h => h) (Or.inl ⟨by rfl, ?_⟩) ?_ ?_
      rotate_left
      · intro w'
        go_simp
        with_reducible rfl
      rotate_left
      · simp only [Act.put, List.setIfInBounds_toArray, List.set_cons_zero, List.set_cons_succ]
        rfl
      refine take_ (i := 6) (N := some 33) (v := ?_) (a' := ?_) #[true, true, true, true, false, true, true, false, false, false, false] rfl rfl (by kernel_rfl) (fun _ _ _ h => h) (Or.inl ⟨by rfl, ?_⟩) hHeld ?_ ?_
      rotate_left
      · rintro w' ⟨s0, s1⟩
        go_simp
        with_reducible rfl
      rotate_left
      · simp only [Act.put, List.setIfInBounds_toArray, List.set_cons_zero, List.set_cons_succ]
        rfl
      refine one_ (i := 4) (N := some 31) #[true, true, true, true, true, true, true, false, false, false, false] rfl rfl (by kernel_rfl) (by decide) (fun K hK => ?_)
      refine goes_ Try.func46 (by kernel_rfl) rfl #[.slice A0 p.f0.length c0] (by rfl) rfl rfl (by (try simp only [List.map_toArray, List.map_cons, List.map_nil]); first | done | rfl) ?_
      refine (bytes_Clone.calls A0 c0 p.f0 p.f0 wa (Kd.C_below HI.out.1 HD.out) HI.out.2.1 HCA.out).mono ?_
      rintro e wb ⟨va, rfl, hRa, hb⟩
      have HDwb := Aside0.mk (below_step HD.out hb)
      have HZwb := Aside0.mk (below_step HD0.out hb)
      have HSwb := Aside0.mk hb.size
      have HBwb := Aside0.mk hb
      clear hb
      refine ⟨_, rfl, ?_⟩
      refine hK.out _ _ (HCE.out _ HZwb.out) (fun hHeld => ?_)
      clear hK K
      refine norm_ (a' := ?_) ?_ ?_
      rotate_left
      · show Act.put _ (some 31) _ = _
        simp only [Act.put, List.setIfInBounds_toArray, List.set_cons_zero, List.set_cons_succ]
        rfl
      obtain ⟨A5, c5, rfl⟩ := Kd.R_slice hRa
      have HRA := Aside0.mk (Kd.R_bound hRa)
      clear hRa
      refine one_ (i := 7) (N := some 34) #[true, true, true, true, true, true, true, true, false, false, false] rfl rfl (by kernel_rfl) (by decide) (fun K hK => ?_)
      refine goes_ Try.func46 (by kernel_rfl) rfl #[.slice A1 p.f1.length c1] (by rfl) rfl rfl (by (try simp only [List.map_toArray, List.map_cons, List.map_nil]); first | done | rfl) ?_
      refine (bytes_Clone.calls A1 c1 p.f1 p.f1 wb (Kd.C_below HI.out.2.2.1 HDwb.out) HI.out.2.2.2 HCB.out).mono ?_
      rintro e wc ⟨vb, rfl, hRb, hb⟩
      have HDwc := Aside0.mk (below_step HDwb.out hb)
      have HZwc := Aside0.mk (below_step HZwb.out hb)
      have HSwc := Aside0.mk hb.size
      have HBwc := Aside0.mk hb
      clear hb
      refine ⟨_, rfl, ?_⟩
      refine hK.out _ _ (HCE.out _ HZwc.out) (fun hHeld => ?_)
      clear hK K
      refine norm_ (a' := ?_) ?_ ?_
      rotate_left
      · show Act.put _ (some 34) _ = _
        simp only [Act.put, List.setIfInBounds_toArray, List.set_cons_zero, List.set_cons_succ]
        rfl
      obtain ⟨A6, c6, rfl⟩ := Kd.R_slice hRb
      have HRB := Aside0.mk (Kd.R_bound hRb)
      clear hRb
      refine pure_ (i := 8) (N := some 35) (v := ?_) (a' := ?_) #[true, true, true, true, true, true, true, true, true, false, false] rfl rfl (by kernel_rfl) (fun _ _ _ h => h) (Or.inl ⟨by rfl, ?_⟩) ?_ ?_
      rotate_left
      · intro w'
        go_simp
        with_reducible rfl
      rotate_left
      · simp only [Act.put, List.setIfInBounds_toArray, List.set_cons_zero, List.set_cons_succ]
        rfl
      refine pure_ (i := 9) (N := some 36) (v := ?_) (a' := ?_) #[true, true, true, true, true, true, true, true, true, true, false] rfl rfl (by kernel_rfl) (fun _ _ _ h => h) (Or.inl ⟨by rfl, ?_⟩) ?_ ?_
      rotate_left
      · intro w'
        go_simp
        with_reducible rfl
      rotate_left
      · simp only [Act.put, List.setIfInBounds_toArray, List.set_cons_zero, List.set_cons_succ]
        rfl
      have hwa : wr.heap.size + 1 ≤ wa.heap.size := by have h1 := HD0.out.size; have h2 := blk_lt HGW.out.2; have h3 := HGW.out.1; omega
      have hwb := HSwb.out
      have hgl := HGL.out
      have hgg := HGG.out
      have hFa := Kd.F_mono (Kd.R_F (Kd.R_below HRA.out HBwc.out)) (ok' := fun q => wa.heap.size ≤ q) (fun q hq => hq.2.1)
      have hFb := Kd.F_mono (Kd.R_F HRB.out) (ok' := fun q => wa.heap.size ≤ q) (fun q hq => by have := hq.2.1; omega)
      refine last_ (i := 10) (N := none) #[true, true, true, true, true, true, true, true, true, true, true] rfl rfl (by kernel_rfl) (by decide) (fun K hK => ?_)
      refine N_store_step k53 (s + 2) (by rfl) rfl 53 (.tmp 36) (.tmp 35) rfl 53 (k : Int) 0 l2 p (.agg #[.slice A5 p.f0.length c5, .slice A6 p.f1.length c6]) [.slice A5 p.f0.length c5, .slice A6 p.f1.length c6] [.slice A0 p.f0.length c0, .slice A1 p.f1.length c1] (fun q => (P2_ q ∧ q < s) ∨ s + 2 ≤ q) (fun q => wa.heap.size ≤ q) ?hadr (by rw [Int.toNat_natCast]) rfl rfl (by kernel_rfl) (by simp [Value.oneCell']) (Kd.N_below HO.out.2.2.2 HDwc.out) (by omega) (by omega) rfl ?hcc (Nat.le_refl 2) ?hM (fun q hq => ⟨.inr (by omega), by omega⟩) ?_
      case hadr => first | rfl | exact congrArg (fun a => Value.pointer (some a)) (add_plain _ _ _)
      case hcc =>
        intro j u hj
        rw [Int.toNat_natCast]
        have hup : ∀ {q : Addr} {u : Value}, wr.cell? q = some u → wc.cell? q = some u := fun {q u} h => (HDwc.out.cell (World.block_lt_of_cell? wr _ h)).trans h
        rcases j with _ | _ | j
        · cases hj; exact hup HYC.out.1
        · cases hj; exact hup HYC.out.2
        · simp at hj
      case hM => exact k53_mkF wc _ p (Kd.R_reads' HRA.out).2.1 hFa (Kd.R_reads' HRB.out).2.1 hFb
      intro w9 hN9 hg9
      refine hK.out _ _ ?_
      clear hK K hFa hFb
      refine done_ (by kernel_rfl) ?_
      have hset : l2.set (k : Int).toNat p = l2 := by
        rw [Int.toNat_natCast]; refine List.ext_getElem? (fun j => ?_)
        by_cases hj : k = j
        · subst hj; rw [List.getElem?_set_self hlt]; exact HP.out.symm
        · rw [List.getElem?_set_ne hj]
      rw [hset] at hN9
      have HO9 : Aside0 (OvE P2_ s w (.cells #[.slice A0_0 l0_0.length c0_0, .slice A0_1 l0_1.length c0_1] 25 (0, 0)) (.cells #[.int .i64 a1_0, .slice A1_1 l1_1.length c1_1, .slice A1_2 l1_2.length c1_2, .bool a1_3] 39 (0, 0)) (.slice (some ⟨g, 0, none⟩) l2.length c7) l2 w9) := ⟨?hO9⟩
      case hO9 =>
        have hb9 := HDwc.out
        refine ⟨?_, ?_, ?_, hN9⟩
        · exact (below_step HO.out.1 hb9).grown hg9 (below_step HO.out.1 hb9).size (fun q he => by cases he; have := HSE.out; omega)
        · exact (hg9.block _ (Nat.lt_of_lt_of_le (blk_lt HO.out.2.1) hb9.size) (by intro he; injection he; omega)).trans ((hb9.block _ (blk_lt HO.out.2.1)).trans HO.out.2.1)
        · exact (hg9.block _ (Nat.lt_of_lt_of_le (blk_lt HO.out.2.2.1) hb9.size) (by intro he; injection he; omega)).trans ((hb9.block _ (blk_lt HO.out.2.2.1)).trans HO.out.2.2.1)
      clear hN9 hg9 hset
      go_wp2
      go_roundw
      case rel => exact ⟨k + 1, by go_num, by omega, HO9⟩
      case measure => simp [intOf]; omega
    · have hke : k = l2.length := by omega
      subst hke
      go_wp2_with (fail)
      go_loopw [40] (fun s40 wr2 => ∃ k : Nat, s40 = .int .i64 k ∧ k ≤ l2.length ∧ Aside0 (OvE P2_ s w (.cells #[.slice A0_0 l0_0.length c0_0, .slice A0_1 l0_1.length c0_1] 25 (0, 0)) (.cells #[.int .i64 a1_0, .slice A1_1 l1_1.length c1_1, .slice A1_2 l1_2.length c1_2, .bool a1_3] 39 (0, 0)) (.slice A7 l2.length c7) l2 wr2) ∧ Aside0 (∀ j, j + 1 < k → cmpPr (rd_T53 l2 (j : Int)) (rd_T53 l2 ((j + 1 : Nat) : Int)) < 0)) (fun s40 _ => l2.length - (intOf s40).toNat)
      case atStart => exact ⟨0, rfl, Nat.zero_le _, HO, ⟨fun j hj => by omega⟩⟩
      case round =>
        clear HO
        obtain ⟨k, rfl, hk, HO, HR⟩ := hrel
        by_cases hlt : k < l2.length
        · have hlt1 : (k : Int) < (l2.length : Int) := by omega
          by_cases hk0 : k = 0
          · subst hk0
            go_wp2_with (fail)
            refine wp_region_past (by kernel_rfl) (by kernel_rfl) ?_
            repeat (go_big_quiet_step (fail))
            refine wpQuiet_nil ?_
            rintro _ ⟨q, rfl⟩
            have HQ := Aside0.mk (HO.out.step q.h)
            go_wp2
            exact ⟨⟨1, by go_num, by omega, HQ, ⟨fun j hj => by omega⟩⟩, by simp [intOf]; omega⟩
          · obtain ⟨j, hj⟩ : ∃ j, k = j + 1 := ⟨k - 1, by omega⟩
            obtain ⟨ad, A0, c0, A1, c1, e, hx0, hx1, hl0, hi0, hl1, hi1⟩ := at_T53 (Kd.N_reads' HO.out.2.2.2).2.2 (j : Int) (by omega) (by omega)
            cases e
            obtain ⟨ad2, D0, d0, D1, d1, e, hz0, hz1, hm0, hj0, hm1, hj1⟩ := at_T53 (Kd.N_reads' HO.out.2.2.2).2.2 (k : Int) (by omega) (by omega)
            obtain rfl : ad = ad2 := by injection e
            clear e
            rw [Int.toNat_natCast] at hx0 hx1 hz0 hz1
            have HJ := Aside0.mk hj
            have HRK := Aside0.mk (show ∀ v : Int, v = cmpPr (rd_T53 l2 (j : Int)) (rd_T53 l2 (k : Int)) → (v < 0 → ∀ i, i + 1 < k + 1 → cmpPr (rd_T53 l2 (i : Int)) (rd_T53 l2 ((i + 1 : Nat) : Int)) < 0) ∧ (¬ v < 0 → risesL l2 = false) from fun v hv => ⟨fun h i hi => by
              rcases Nat.lt_or_ge (i + 1) k with h1 | h1
              · exact HR.out i h1
              · obtain rfl : i = j := by omega
                rw [← hj, ← hv]
                exact h, fun h => rises_false (j := j) (by omega) (by rw [← hj, ← hv]; exact h)⟩)
            obtain ⟨y, hy⟩ : ∃ y, y = rd_T53 l2 (j : Int) := ⟨_, rfl⟩
            obtain ⟨x, hx⟩ : ∃ x, x = rd_T53 l2 (k : Int) := ⟨_, rfl⟩
            rw [← hy] at hx0 hx1 hl0 hi0 hl1 hi1 HRK
            rw [← hx] at hz0 hz1 hm0 hj0 hm1 hj1 HRK
            rw [show j = k - 1 by omega] at hx0 hx1
            have hup' : ∀ {q : Addr} {u : Value} (r : Past wr), wr.cell? q = some u → r.W.cell? q = some u := fun {q u} r h => (r.h.cell (World.block_lt_of_cell? wr _ h)).trans h
            have px0 := fun r : Past wr => hup' r hx0
            have px1 := fun r : Past wr => hup' r hx1
            have pz0 := fun r : Past wr => hup' r hz0
            have pz1 := fun r : Past wr => hup' r hz1
            have HC := Aside0.mk (fun r : Past wr => rises_in r.W y x A0 c0 (.slice A1 y.f1.length c1) D0 d0 (.slice D1 x.f1.length d1) rfl rfl hl0 (Kd.C_below hi0 r.h) hm0 (Kd.C_below hj0 r.h))
            have hjl : (k : Int) - 1 < (l2.length : Int) := by omega
            have hjn : k - 1 < l2.length := by omega
            have hk1 : 0 < k := by omega
            have hk2 : (0 : Int) < (k : Int) := by omega
            clear hx0 hx1 hz0 hz1 hup' hi0 hi1 hj0 hj1 hy hx hk0 hj HR
            obtain ⟨v, hv⟩ : ∃ v, v = Lib.compareBytes (Lib.bytesOf y.f0) (Lib.bytesOf x.f0) := ⟨_, rfl⟩
            have HV := Aside0.mk (HRK.out v hv)
            rw [← hv] at HC
            clear hv HRK
            by_cases hv0 : v < 0
            · have hv1 : ¬ (0 ≤ v) := by omega
              go_wp2_with (fail)
              refine wp_region_past (by kernel_rfl) (by kernel_rfl) ?_
              repeat (go_big_quiet_step (with_reducible exact Calls.past_of rfl (HC.out _)))
              refine wpQuiet_nil ?_
              rintro _ ⟨q, rfl⟩
              have HQ := Aside0.mk (HO.out.step q.h)
              have HRN := Aside0.mk (HV.out.1 hv0)
              clear px0 px1 pz0 pz1 HC
              go_wp2
              exact ⟨⟨k + 1, by go_num, by omega, HQ, HRN⟩, by simp [intOf]; omega⟩
            · have hv1 : 0 ≤ v := by omega
              go_wp2_with (fail)
              refine wp_region_past (by kernel_rfl) (by kernel_rfl) ?_
              repeat (go_big_quiet_step (with_reducible exact Calls.past_of rfl (HC.out _)))
              refine wpQuiet_nil ?_
              rintro _ ⟨q, rfl⟩
              have HQ := Aside0.mk (HO.out.step q.h)
              have HRN := Aside0.mk (HV.out.2 hv0)
              clear px0 px1 pz0 pz1 HC
              go_wp2
              go_ret
              refine ⟨_, rfl, ?_, HQ.out.1⟩
              unfold overL
              rw [if_neg (by rw [HRN.out]; decide)]
              exact Kd.N_lower (Kd.N_mono HQ.out.2.2.2 (fun q hq => by have := HSE.out; exact hq.imp (fun h => h.1) (fun h => by omega))) (by have := HSE.out; omega)
        · have hke2 : k = l2.length := by omega
          have HRT := Aside0.mk (show risesL l2 = true from rises_true (by rw [← hke2]; exact HR.out))
          subst hke2
          clear HR
          have z0 := (blk_cell HO.out.2.1 0).trans rfl
          have z1 := (blk_cell HO.out.2.1 1).trans rfl
          go_wp2_with (go_at_call 23; (suffices hsuf : Aside0 _ from hsuf.out))
          refine ⟨?_⟩
          obtain ⟨Lw, hLw⟩ : ∃ Lw, Lw = if checkD l0_0 l0_1 = true then lastL l0_0 else [] := ⟨_, rfl⟩
          have hL20 : Lw.length ≤ 20 := by
            rw [hLw]
            split
            · rename_i hck
              unfold checkD at hck
              simp only [Bool.and_eq_true, decide_eq_true_eq] at hck
              exact Nat.le_trans (lastL_len _) hck.1
            · exact Nat.zero_le _
          have HLW := Aside0.mk (show overL l0_0 l0_1 a1_0 l1_1 l1_2 a1_3 l2 = Lw.foldl (ovStep a1_0 l1_1 l1_2 a1_3) l2 by unfold overL; rw [if_pos HRT.out, hLw])
          have HBW := HO.out.1
          refine (delta_Last.calls A0_0 c0_0 l0_0 A0_1 c0_1 l0_1 Lw wr (Kd.C_below HR00.out HBW) HC00.out (Kd.C_below HR01.out HBW) HC01.out (by unfold delta_Last.f; rw [hLw])).mono ?_
          rintro e w5 ⟨vL, rfl, hNL, hb⟩
          obtain ⟨AL, cL, rfl⟩ := Kd.N_slice hNL
          obtain ⟨sL, hsL⟩ : ∃ sL, sL = wr.heap.size := ⟨_, rfl⟩
          obtain ⟨eL, heL⟩ : ∃ eL, eL = w5.heap.size := ⟨_, rfl⟩
          have HF := Aside0.mk (show OvF P2_ s sL eL w (.cells #[.slice A0_0 l0_0.length c0_0, .slice A0_1 l0_1.length c0_1] 25 (0, 0)) (.cells #[.int .i64 a1_0, .slice A1_1 l1_1.length c1_1, .slice A1_2 l1_2.length c1_2, .bool a1_3] 39 (0, 0)) (.slice AL Lw.length cL) Lw (.slice A7 l2.length c7) l2 w5 from ⟨HO.out.step hb, by rw [hsL]; exact Kd.N_mono (Kd.N_bound hNL) (fun q hq => ⟨hq.1, by rw [heL]; exact hq.2⟩), fun B hB => .inl (by rw [hsL]; exact Kd.N_lt HO.out.2.2.2 B hB), by rw [heL]; exact Nat.le_refl _⟩)
          have HSL := Aside0.mk (show s + 2 ≤ sL by have := blk_lt HO.out.2.2.1; omega)
          clear hLw HRT hNL hb hsL heL HO HBW z0 z1
          have z0 := (blk_cell HF.out.1.2.1 0).trans rfl
          go_wp2_with (fail)
          clear z0
          go_loopw [64, 7] (fun s64 s7 wr3 => ∃ k : Nat, s64 = .int .i64 k ∧ k ≤ Lw.length ∧ Aside0 (OvF P2_ s sL eL w (.cells #[.slice A0_0 l0_0.length c0_0, .slice A0_1 l0_1.length c0_1] 25 (0, 0)) (.cells #[.int .i64 a1_0, .slice A1_1 l1_1.length c1_1, .slice A1_2 l1_2.length c1_2, .bool a1_3] 39 (0, 0)) (.slice AL Lw.length cL) Lw s7 ((Lw.take k).foldl (ovStep a1_0 l1_1 l1_2 a1_3) l2) wr3)) (fun s64 _ _ => Lw.length - (intOf s64).toNat)
          case atStart => exact ⟨0, rfl, Nat.zero_le _, HF⟩
          case round =>
            clear HF
            obtain ⟨k, rfl, hk, HF⟩ := hrel
            by_cases hlt : k < Lw.length
            · have hlt1 : (k : Int) < (Lw.length : Int) := by omega
              rcases N_open HF.out.2.1 with ⟨_, hx⟩ | ⟨gL, cap, cur, hv, _, _, hgb, hcap, hcm, hcl, hfk⟩
              · rw [hx] at hlt; exact absurd hlt (Nat.not_lt_zero _)
              injection hv with hA _ hc
              subst hA hc
              obtain ⟨ad, Ak, ck, Av, cv, e, hx0, hx1, hx2, hx3, hl1, hi1, hl3, hi3⟩ := at_T28 (Kd.N_reads' HF.out.2.1).2.2 (k : Int) (by omega) (by omega)
              cases e
              obtain ⟨x, hx⟩ : ∃ x, Lw[k]? = some x := ⟨_, List.getElem?_eq_getElem hlt⟩
              have hrd : rd_T28 Lw (k : Int) = x := by unfold rd_T28; rw [Int.toNat_natCast, List.getD_eq_getElem?_getD, hx]; rfl
              rw [Int.toNat_natCast] at hx0 hx1 hx2 hx3
              rw [hrd] at hx0 hx1 hx2 hx3 hl1 hi1 hl3 hi3
              have hchunk : (cur.drop (k * 4)).take 4 = [.int .i64 x.f0, .slice Ak x.f1.length ck, .bool x.f2, .slice Av x.f3.length cv] := by
                have hcl' : cur.length = cL * 4 := hcl
                have y0 : cur[k * 4]? = some (.int .i64 x.f0) := by have := hx0; rw [add_plain, blk_cell hgb] at this; simpa using this
                have y1 : cur[k * 4 + 1]? = some (.slice Ak x.f1.length ck) := by have := hx1; rw [add_plain, blk_cell hgb] at this; simpa using this
                have y2 : cur[k * 4 + 2]? = some (.bool x.f2) := by have := hx2; rw [add_plain, blk_cell hgb] at this; simpa using this
                have y3 : cur[k * 4 + 3]? = some (.slice Av x.f3.length cv) := by have := hx3; rw [add_plain, blk_cell hgb] at this; simpa using this
                apply List.ext_getElem?
                intro t
                by_cases ht : t < 4
                · rw [List.getElem?_take_of_lt ht, List.getElem?_drop]
                  rcases t with _ | _ | _ | _ | t
                  · exact y0
                  · exact y1
                  · exact y2
                  · exact y3
                  · omega
                · rw [List.getElem?_take_eq_none (by omega), List.getElem?_eq_none (by simp; omega)]
              have HFK := Aside0.mk (FK_pair (by have h := hfk k x hx; rw [show (cur.drop (k * (k28).sz)).take (k28).sz = (cur.drop (k * 4)).take 4 from rfl, hchunk] at h; exact h))
              have HNX := Aside0.mk (show ((Lw.take (k + 1)).foldl (ovStep a1_0 l1_1 l1_2 a1_3) l2) = ovStep a1_0 l1_1 l1_2 a1_3 ((Lw.take k).foldl (ovStep a1_0 l1_1 l1_2 a1_3) l2) x by rw [take_snocL hx, List.foldl_append]; rfl)
              have HLN := Aside0.mk (show ((Lw.take k).foldl (ovStep a1_0 l1_1 l1_2 a1_3) l2).length ≤ 1020 by have := ovFold_len a1_0 l1_1 l1_2 a1_3 (Lw.take k) l2; rw [List.length_take] at this; omega)
              have HI1 := Aside0.mk hi1
              have HI3 := Aside0.mk hi3
              have HFO := Aside0.mk HF.out
              generalize hOUT : ((Lw.take k).foldl (ovStep a1_0 l1_1 l1_2 a1_3) l2) = out at *
              clear hOUT hchunk hfk hgb hcap hcm hcl hrd hx hi1 hi3 HF
              have hy0 : wr.cell? ⟨gL, k * 4, none⟩ = some (.int .i64 x.f0) := by simpa [add_plain] using hx0
              have hy1 : wr.cell? ⟨gL, k * 4 + 1, none⟩ = some (.slice Ak x.f1.length ck) := by simpa [add_plain] using hx1
              have hy2 : wr.cell? ⟨gL, k * 4 + 2, none⟩ = some (.bool x.f2) := by simpa [add_plain] using hx2
              have hy3 : wr.cell? ⟨gL, k * 4 + 3, none⟩ = some (.slice Av x.f3.length cv) := by simpa [add_plain] using hx3
              clear hx0 hx1 hx2 hx3
              obtain ⟨gw, hgw⟩ : ∃ gw, gw = wr.heap.size := ⟨_, rfl⟩
              obtain ⟨wx, hwx⟩ : ∃ wx, wx = wr.alloc (.cells #[.int .i64 x.f0, .slice Ak x.f1.length ck, .bool x.f2, .slice Av x.f3.length cv] 28 (0, 0)) := ⟨_, rfl⟩
              have hgwb : wx.heap[gw]? = some (.cells #[.int .i64 x.f0, .slice Ak x.f1.length ck, .bool x.f2, .slice Av x.f3.length cv] 28 (0, 0)) := by rw [hwx, hgw]; exact heap_alloc_new _ _
              have HBX := Aside0.mk (show Below wr.heap.size wr wx by rw [hwx]; exact below_alloc (Below.refl _ _) _)
              go_upto_region 17 with (fail)
              rw [← hgw, ← hwx]
              clear hwx hgw hy0 hy1 hy2 hy3
              have HFX := Aside0.mk (HFO.out.step HBX.out)
              have HGW := Aside0.mk hgwb
              clear hgwb
              go_cut [14] (fun v14 wc => v14 = .bool (inX a1_0 l1_1 l1_2 a1_3 x) ∧ Below wx.heap.size wx wc)
              case first =>
                have q0 := (blk_cell HGW.out 0).trans rfl
                have q1 := (blk_cell HGW.out 1).trans rfl
                have p0 := (blk_cell HFX.out.1.2.2.1 0).trans rfl
                have p1 := (blk_cell HFX.out.1.2.2.1 1).trans rfl
                have p2 := (blk_cell HFX.out.1.2.2.1 2).trans rfl
                have p3 := (blk_cell HFX.out.1.2.2.1 3).trans rfl
                have HCA := Aside0.mk (fun (W : World) (r : Int) (hb : Below wx.heap.size wx W) (hr : r = cmpK x.f1 l1_1) => bytes_Compare.calls Ak ck x.f1 A1_1 c1_1 l1_1 r W (Kd.C_below (Kd.C_below HI1.out HBX.out) hb) hl1 (Kd.C_below HR11.out (HFX.out.step hb).1.1) HC11.out (by unfold bytes_Compare.f; rw [hr]; rfl))
                have HCB := Aside0.mk (fun (W : World) (r : Int) (hb : Below wx.heap.size wx W) (hr : r = cmpK x.f1 l1_2) => bytes_Compare.calls Ak ck x.f1 A1_2 c1_2 l1_2 r W (Kd.C_below (Kd.C_below HI1.out HBX.out) hb) hl1 (Kd.C_below HR12.out (HFX.out.step hb).1.1) HC12.out (by unfold bytes_Compare.f; rw [hr]; rfl))
                have hin : inX a1_0 l1_1 l1_2 a1_3 x = (decide (x.f0 = a1_0) && (decide (0 ≤ cmpK x.f1 l1_1) && (a1_3 || decide (cmpK x.f1 l1_2 < 0)))) := rfl
                obtain ⟨ra, hra⟩ : ∃ ra, ra = cmpK x.f1 l1_1 := ⟨_, rfl⟩
                obtain ⟨rb, hrb⟩ : ∃ rb, rb = cmpK x.f1 l1_2 := ⟨_, rfl⟩
                rw [← hra, ← hrb] at hin
                have HRA := Aside0.mk hra
                have HRB := Aside0.mk hrb
                have HIN := Aside0.mk hin
                clear hra hrb hin
                by_cases t1 : x.f0 = a1_0
                case neg =>
                  have t1b : (x.f0 == a1_0) = false := beq_eq_false_iff_ne.2 t1
                  go_wp2_with (fail)
                  go_meet
                  case rel => exact ⟨congrArg Value.bool (by rw [HIN.out, decide_eq_false t1]; rfl), Below.refl _ _⟩
                have t1b : (x.f0 == a1_0) = true := beq_iff_eq.2 t1
                by_cases t2 : 0 ≤ ra
                case neg =>
                  have t2b : decide (0 ≤ ra) = false := decide_eq_false t2
                  go_wp2_with (go_at_call 48; refine (HCA.out _ ra (Below.refl _ _) HRA.out).mono ?_; rintro e w1 ⟨rfl, nd, rfl⟩)
                  go_meet
                  case rel => exact ⟨congrArg Value.bool (by rw [HIN.out, t2b, decide_eq_true t1]; rfl), pw_below_drewN (Below.refl _ _) _⟩
                have t2b : decide (0 ≤ ra) = true := decide_eq_true t2
                cases a1_3 with
                | true =>
                  go_wp2_with (go_at_call 48; refine (HCA.out _ ra (Below.refl _ _) HRA.out).mono ?_; rintro e w1 ⟨rfl, nd, rfl⟩)
                  go_meet
                  case rel => exact ⟨congrArg Value.bool (by rw [HIN.out, t2b, decide_eq_true t1]; rfl), pw_below_drewN (Below.refl _ _) _⟩
                | false =>
                  by_cases t3 : rb < 0
                  · have t3b : decide (rb < 0) = true := decide_eq_true t3
                    go_wp2_with (first | (go_at_call 48; refine (HCA.out _ ra (Below.refl _ _) HRA.out).mono ?_; rintro e w1 ⟨rfl, nd, rfl⟩) | (go_at_call 48; refine (HCB.out _ rb (pw_below_drewN (Below.refl _ _) _) HRB.out).mono ?_; rintro e w1 ⟨rfl, nd2, rfl⟩))
                    go_meet
                    case rel => exact ⟨congrArg Value.bool (by rw [HIN.out, t2b, t3b, decide_eq_true t1]; rfl), pw_below_drewN (Below.refl _ _) _⟩
                  · have t3b : decide (rb < 0) = false := decide_eq_false t3
                    go_wp2_with (first | (go_at_call 48; refine (HCA.out _ ra (Below.refl _ _) HRA.out).mono ?_; rintro e w1 ⟨rfl, nd, rfl⟩) | (go_at_call 48; refine (HCB.out _ rb (pw_below_drewN (Below.refl _ _) _) HRB.out).mono ?_; rintro e w1 ⟨rfl, nd2, rfl⟩))
                    go_meet
                    case rel => exact ⟨congrArg Value.bool (by rw [HIN.out, t2b, t3b, decide_eq_true t1]; rfl), pw_below_drewN (Below.refl _ _) _⟩
              case rest =>
                obtain ⟨rfl, hbc⟩ := hcut
                have HFC := Aside0.mk (HFX.out.step hbc)
                have HGC := Aside0.mk ((hbc.block _ (blk_lt HGW.out)).trans HGW.out)
                have HI1c := Aside0.mk (Kd.C_below (Kd.C_below HI1.out HBX.out) hbc)
                have HI3c := Aside0.mk (Kd.C_below (Kd.C_below HI3.out HBX.out) hbc)
                have HFKc := Aside0.mk (Kd.FK_below (Kd.FK_below HFK.out HBX.out) hbc)
                clear hbc HFX HGW HI1 HI3 HFK HFO HBX
                obtain ⟨gp, hgp⟩ : ∃ gp, gp = wc.heap.size := ⟨_, rfl⟩
                obtain ⟨wp, hwp⟩ : ∃ wp, wp = wc.alloc (.cells #[.slice Ak x.f1.length ck, .slice Av x.f3.length cv] 53 (0, 0)) := ⟨_, rfl⟩
                have HBP := Aside0.mk (show Below wc.heap.size wc wp by rw [hwp]; exact below_alloc (Below.refl _ _) _)
                have HGP := Aside0.mk (show wp.heap[gp]? = some (.cells #[.slice Ak x.f1.length ck, .slice Av x.f3.length cv] 53 (0, 0)) by rw [hwp, hgp]; exact heap_alloc_new _ _)
                have q0 := (blk_cell HGC.out 0).trans rfl
                have q1 := (blk_cell HGC.out 1).trans rfl
                have q2 := (blk_cell HGC.out 2).trans rfl
                have q3 := (blk_cell HGC.out 3).trans rfl
                obtain ⟨A8, c8, rfl⟩ := Kd.N_slice HFC.out.1.2.2.2
                go_wp2_with (go_at_call 49; (suffices hsuf : Aside0 _ from hsuf.out))
                refine ⟨?_⟩
                rw [← hgp, ← hwp]
                clear hwp hgp q0 q1 q2 q3
                have HFP := Aside0.mk (HFC.out.step HBP.out)
                have HFKp := Aside0.mk (Kd.FK_below HFKc.out HBP.out)
                have HI1p := Aside0.mk (Kd.C_below HI1c.out HBP.out)
                have HI3p := Aside0.mk (Kd.C_below HI3c.out HBP.out)
                have HGCp := Aside0.mk ((HBP.out.block _ (blk_lt HGC.out)).trans HGC.out)
                have HBS := Aside0.mk (show Calls Try.prog 49 #[.slice A8 out.length c8, .agg #[.slice Ak x.f1.length ck, .slice Av x.f3.length cv], .func (.func 47) #[] #[]] wp fun e w' => e = .returned (.tuple #[.int .i64 (atOf out (pairOf x) : Nat), .bool (isOf out (pairOf x))]) ∧ Below wp.heap.size wp w' from
                  bsearch_Pair 47 #[] cmpPr A8 c8 out (pairOf x) Ak ck Av cv wp (Kd.N_reads' HFP.out.1.2.2.2).2.2 (by have := HLN.out; omega) HI1p.out hl1 HI3p.out hl3 (enters_of Try.func47 (by kernel_rfl) rfl)
                    (fun W y B1 d1 B2 d2 hb h1 i1 h2 i2 => rises_in W y (pairOf x) B1 d1 (.slice B2 y.f1.length d2) Ak ck (.slice Av x.f3.length cv) rfl rfl h1 i1 hl1 (Kd.C_below HI1p.out hb)))
                clear HFC HFKc HI1c HI3c HGC HBP
                obtain ⟨at_, hat⟩ : ∃ a, a = atOf out (pairOf x) := ⟨_, rfl⟩
                obtain ⟨is_, his⟩ : ∃ b, b = isOf out (pairOf x) := ⟨_, rfl⟩
                rw [← hat, ← his] at HBS
                have hatl : at_ ≤ out.length := by rw [hat]; exact atOf_le _ _
                have HIS := Aside0.mk (show is_ = true → at_ < out.length by
                  intro h
                  rw [his] at h
                  unfold isOf at h
                  simp only [Bool.and_eq_true, decide_eq_true_eq] at h
                  rw [hat]
                  exact h.1)
                obtain ⟨in_, hin⟩ : ∃ b, b = inX a1_0 l1_1 l1_2 a1_3 x := ⟨_, rfl⟩
                have HST := Aside0.mk (show ovStep a1_0 l1_1 l1_2 a1_3 out x = if in_ = true then (if is_ = true then (if x.f2 = true then out.eraseIdx at_ else out.set at_ (pairOf x)) else if x.f2 = true then out else out.take at_ ++ pairOf x :: out.drop at_) else out by rw [hat, his, hin]; rfl)
                rw [← hin]
                clear hat his hin
                refine HBS.out.mono ?_
                rintro e w6 ⟨rfl, hb6⟩
                have HF6 := Aside0.mk (HFP.out.step hb6)
                have HFK6 := Aside0.mk (Kd.FK_below HFKp.out hb6)
                have HG6 := Aside0.mk ((hb6.block _ (blk_lt HGCp.out)).trans HGCp.out)
                have HP6 := Aside0.mk ((hb6.block _ (blk_lt HGP.out)).trans HGP.out)
                clear HBS hb6 HFP HFKp HI1p HI3p HGCp HGP
                have hlen := HLN.out
                have q2 := (blk_cell HG6.out 2).trans rfl
                have q5 := (blk_cell HP6.out 0).trans rfl
                have q6 := (blk_cell HP6.out 1).trans rfl
                obtain ⟨gone, hgone⟩ : ∃ g, g = x.f2 := ⟨_, rfl⟩
                rw [← hgone] at q2 HST
                clear hgone
                have hat2 : (at_ : Int) ≤ (out.length : Int) := by omega
                cases in_ with
                | false =>
                  have HFN := Aside0.mk (show OvF P2_ s sL eL w (.cells #[.slice A0_0 l0_0.length c0_0, .slice A0_1 l0_1.length c0_1] 25 (0, 0)) (.cells #[.int .i64 a1_0, .slice A1_1 l1_1.length c1_1, .slice A1_2 l1_2.length c1_2, .bool a1_3] 39 (0, 0)) (.slice (some ⟨gL, 0, none⟩) Lw.length cL) Lw (.slice A8 out.length c8) ((Lw.take (k + 1)).foldl (ovStep a1_0 l1_1 l1_2 a1_3) l2) w6 by rw [HNX.out, HST.out]; (try simp only [if_true, if_false, Bool.false_eq_true]); exact HF6.out)
                  go_wp2
                  exact ⟨⟨k + 1, by go_num, by omega, HFN⟩, by simp [intOf]; omega⟩
                | true =>
                cases is_ with
                | false =>
                  cases gone with
                  | true =>
                    have HFN := Aside0.mk (show OvF P2_ s sL eL w (.cells #[.slice A0_0 l0_0.length c0_0, .slice A0_1 l0_1.length c0_1] 25 (0, 0)) (.cells #[.int .i64 a1_0, .slice A1_1 l1_1.length c1_1, .slice A1_2 l1_2.length c1_2, .bool a1_3] 39 (0, 0)) (.slice (some ⟨gL, 0, none⟩) Lw.length cL) Lw (.slice A8 out.length c8) ((Lw.take (k + 1)).foldl (ovStep a1_0 l1_1 l1_2 a1_3) l2) w6 by rw [HNX.out, HST.out]; (try simp only [if_true, if_false, Bool.false_eq_true]); exact HF6.out)
                    go_wp2
                    exact ⟨⟨k + 1, by go_num, by omega, HFN⟩, by simp [intOf]; omega⟩
                  | false =>
                    go_wp2_with (go_at_call 51; (suffices hsuf : Aside0 _ from hsuf.out))
                    refine ⟨?_⟩
                    obtain ⟨gv, hgv⟩ : ∃ gv, gv = w6.heap.size := ⟨_, rfl⟩
                    obtain ⟨wv, hwv⟩ : ∃ wv, wv = w6.alloc (.cells #[.slice Ak x.f1.length ck, .slice Av x.f3.length cv] 53 (0, 0)) := ⟨_, rfl⟩
                    have hbv : Below w6.heap.size w6 wv := by rw [hwv]; exact below_alloc (Below.refl _ _) _
                    have hgvb : wv.heap[gv]? = some (.cells #[.slice Ak x.f1.length ck, .slice Av x.f3.length cv] 53 (0, 0)) := by rw [hwv, hgv]; exact heap_alloc_new _ _
                    have hsv : gv < wv.heap.size := blk_lt hgvb
                    rw [← hgv, ← hwv]
                    clear hwv
                    have HFv := Aside0.mk (HF6.out.step hbv)
                    have hsl := HSL.out
                    have hev := HF6.out.2.2.2
                    have hse := HSE.out
                    have hw6 := HF6.out.1.1.size
                    refine (ins_Pair (s + 2) (fun q => (P2_ q ∧ q < s) ∨ s + 2 ≤ q) (.slice A8 out.length c8) at_ gv (.slice Ak x.f1.length ck) (.slice Av x.f3.length cv) (pairOf x) out wv HFv.out.1.2.2.2 hatl (by omega) (fun q hq => .inr (by omega)) (by omega) hgvb rfl rfl ⟨.inr (by omega), fun e => by have := Kd.N_lt HF6.out.1.2.2.2 gv e.symm; omega⟩ (Kd.FK_mono (Kd.FK_below HFK6.out hbv) (fun q hq => ⟨.inr (by omega), fun e => by have := HF6.out.2.2.1 q e.symm; omega⟩))).mono ?_
                    rintro e w7 ⟨v7', rfl, hN7, hg7, hat7⟩
                    obtain ⟨o9, ho9⟩ : ∃ o9, o9 = out.take at_ ++ pairOf x :: out.drop at_ := ⟨_, rfl⟩
                    rw [← ho9] at hN7 HST
                    clear ho9
                    obtain ⟨A9, c9, rfl⟩ := Kd.N_slice hN7
                    have HFN := Aside0.mk (show OvF P2_ s sL eL w (.cells #[.slice A0_0 l0_0.length c0_0, .slice A0_1 l0_1.length c0_1] 25 (0, 0)) (.cells #[.int .i64 a1_0, .slice A1_1 l1_1.length c1_1, .slice A1_2 l1_2.length c1_2, .bool a1_3] 39 (0, 0)) (.slice (some ⟨gL, 0, none⟩) Lw.length cL) Lw (.slice A9 o9.length c9) ((Lw.take (k + 1)).foldl (ovStep a1_0 l1_1 l1_2 a1_3) l2) w7 by rw [HNX.out, HST.out]; (try simp only [if_true, if_false, Bool.false_eq_true]); exact HFv.out.turn HSE.out hg7 hN7 hat7)
                    clear hN7 hg7 hat7 hbv hgvb hgv hsl hev hse hw6 hsv
                    go_wp2
                    exact ⟨⟨k + 1, by go_num, by omega, HFN⟩, by simp [intOf]; omega⟩
                | true =>
                  have hlt2 := HIS.out rfl
                  rcases N_open HF6.out.1.2.2.2 with ⟨_, hx⟩ | ⟨B8, cap8, cur8, hv8, _⟩
                  · rw [hx] at hlt2; exact absurd hlt2 (Nat.not_lt_zero _)
                  injection hv8 with e1 _ e3
                  subst e1 e3
                  cases gone with
                  | true =>
                    have hw8 : IntKind.i64.wrap ((at_ : Int) + 1) = (at_ : Int) + 1 := by rw [IntKind.wrap_i64]; omega
                    go_wp2_with (go_at_call 50; (suffices hsuf : Aside0 _ from hsuf.out))
                    refine ⟨?_⟩
                    refine (del_Pair (s + 2) (fun q => (P2_ q ∧ q < s) ∨ s + 2 ≤ q) B8 out.length c8 at_ out w6 HF6.out.1.2.2.2 hlt2).mono ?_
                    rintro e w7 ⟨rfl, hN7, hg7⟩
                    have HFN := Aside0.mk (show OvF P2_ s sL eL w (.cells #[.slice A0_0 l0_0.length c0_0, .slice A0_1 l0_1.length c0_1] 25 (0, 0)) (.cells #[.int .i64 a1_0, .slice A1_1 l1_1.length c1_1, .slice A1_2 l1_2.length c1_2, .bool a1_3] 39 (0, 0)) (.slice (some ⟨gL, 0, none⟩) Lw.length cL) Lw (.slice (some ⟨B8, 0, none⟩) (out.length - 1) c8) ((Lw.take (k + 1)).foldl (ovStep a1_0 l1_1 l1_2 a1_3) l2) w7 by rw [HNX.out, HST.out]; (try simp only [if_true, if_false, Bool.false_eq_true]); exact HF6.out.turn HSE.out hg7 hN7 (.inl rfl))
                    clear hN7 hg7
                    go_wp2
                    exact ⟨⟨k + 1, by go_num, by omega, HFN⟩, by simp [intOf]; omega⟩
                  | false =>
                    obtain ⟨ad, D0, d0, D1, d1, e, hz0, hz1, _⟩ := at_T53 (Kd.N_reads' HF6.out.1.2.2.2).2.2 (at_ : Int) (by omega) (by omega)
                    cases e
                    rw [Int.toNat_natCast] at hz0 hz1
                    generalize rd_T53 out (at_ : Int) = old at hz0 hz1
                    have hy0 : w6.cell? ⟨B8, at_ * 2, none⟩ = some (.slice D0 old.f0.length d0) := by simpa [add_plain] using hz0
                    have hy1 : w6.cell? ⟨B8, at_ * 2 + 1, none⟩ = some (.slice D1 old.f1.length d1) := by simpa [add_plain] using hz1
                    clear hz0 hz1
                    go_wp2_with ((with_reducible refine gate_store (t := 53) (p := 124) rfl ?_); (suffices hsuf : Aside0 _ from hsuf.out))
                    refine ⟨?_⟩
                    have hRB := HF6.out.2.2.1 B8 rfl
                    have hsl := HSL.out
                    refine N_storeL k53 (s + 2) rfl rfl 53 (.tmp 124) (.tmp 123) rfl 53 (at_ : Int) 0 out (pairOf x) (.agg #[.slice Ak x.f1.length ck, .slice Av x.f3.length cv]) [.slice Ak x.f1.length ck, .slice Av x.f3.length cv] [.slice D0 old.f0.length d0, .slice D1 old.f1.length d1] (fun q => (P2_ q ∧ q < s) ∨ s + 2 ≤ q) (fun q => sL ≤ q ∧ q < eL) ?hadr (by rw [Int.toNat_natCast]) rfl rfl (by kernel_rfl) (by simp [Value.oneCell']) HF6.out.1.2.2.2 (by omega) (by omega) rfl ?hcc (Nat.le_refl 2) ?hM (fun q hq => ⟨.inr (by omega), by omega⟩) ?_
                    case hadr => first | rfl | exact congrArg (fun a => Value.pointer (some a)) (add_plain _ _ _)
                    case hcc =>
                      intro j u hj
                      rw [Int.toNat_natCast]
                      rcases j with _ | _ | j
                      · cases hj; exact hy0
                      · cases hj; exact hy1
                      · simp at hj
                    case hM => exact Kd.FK_mono HFK6.out (fun q hq => hq.1)
                    intro w7 hN7 hg7
                    rw [Int.toNat_natCast] at hN7
                    have HFN := Aside0.mk (show OvF P2_ s sL eL w (.cells #[.slice A0_0 l0_0.length c0_0, .slice A0_1 l0_1.length c0_1] 25 (0, 0)) (.cells #[.int .i64 a1_0, .slice A1_1 l1_1.length c1_1, .slice A1_2 l1_2.length c1_2, .bool a1_3] 39 (0, 0)) (.slice (some ⟨gL, 0, none⟩) Lw.length cL) Lw (.slice (some ⟨B8, 0, none⟩) out.length c8) ((Lw.take (k + 1)).foldl (ovStep a1_0 l1_1 l1_2 a1_3) l2) w7 by rw [HNX.out, HST.out]; (try simp only [if_true, if_false, Bool.false_eq_true]); exact HF6.out.turn HSE.out hg7 hN7 (.inl rfl))
                    clear hN7 hg7 hy0 hy1 hsl hRB
                    go_wp2
                    exact ⟨⟨k + 1, by go_num, by omega, HFN⟩, by simp [intOf]; omega⟩
            · have hke3 : k = Lw.length := by omega
              subst hke3
              have hFE := HF.out
              rw [List.take_of_length_le (Nat.le_refl _), ← HLW.out] at hFE
              have HFE := Aside0.mk hFE
              clear hFE HF
              go_wp2
              go_ret
              exact ⟨_, rfl, Kd.N_lower (Kd.N_mono HFE.out.1.2.2.2 (fun q hq => by have := HSE.out; exact hq.imp (fun h => h.1) (fun h => by omega))) (by have := HSE.out; omega), HFE.out.1.1⟩
end Go.Proofs.Ytbjeaalbdaedpaa.P
