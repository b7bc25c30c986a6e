import Derived.Test.YtbjeaalbdaedpaaPx0
import Derived.Test.YtbjeaalbdaedpaaPx1
import Derived.Test.YtbjeaalbdaedpaaPx84
import Derived.Test.YtbjeaalbdaedpaaPx86
namespace Go.Proofs.Ytbjeaalbdaedpaa.P
open Go.RowKit Go.Proofs.YtbjeaalbdaedpaaW.PrintWords Go.Proofs.YtbjeaalbdaedpaaW.PrintLast Go.Proofs.YtbjeaalbdaedpaaW.PrintMore
attribute [local go_sem] max2_int min2_int max_two min_two max_three min_three max_four min_four
set_option linter.unusedVariables false
set_option linter.unusedSimpArgs false
def banksmanref08_Back.f (k : Nat) (l0_0 : List (S28)) (l0_1 : List Int) (a1 : Int) : Option ((List (S28)) × List Int × Int) := (banksmanref08_Copy.f k l0_0 l0_1).bind fun o => (banksmanref08_Check.f k l0_0 l0_1).bind fun c => if c = false ∨ a1 < 0 ∨ (l0_1.length : Int) ≤ a1 then some (o.1, o.2, 1) else (if 0 ≤ rd l0_1 a1 ∧ rd l0_1 a1 ≤ (o.1.length : Int) ∧ a1 + 1 ≤ (o.2.length : Int) then some (o.1.take (rd l0_1 a1).toNat, o.2.take (a1 + 1).toNat, 0) else none)
set_option maxHeartbeats 4000000 in
set_option maxRecDepth 100000 in
theorem banksmanref08_Back.calls (k : Nat) (A0_0 : Option Addr) (c0_0 : Nat) (l0_0 : List (S28)) (A0_1 : Option Addr) (c0_1 : Nat) (l0_1 : List Int) (a1 : Int) (r1 : List (S28)) (r2 : List Int) (r3 : Int) (w : World) (hr0_0 : Kd.C k28 w A0_0 l0_0.length l0_0) (hc0_0 : l0_0.length ≤ c0_0) (hr0_1 : Kd.C (Kd.int .i64) w A0_1 l0_1.length l0_1) (hc0_1 : l0_1.length ≤ c0_1) (h : banksmanref08_Back.f k l0_0 l0_1 a1 = some (r1, r2, r3)) :
    Calls Try.prog 15 #[.agg #[.slice A0_0 l0_0.length c0_0, .slice A0_1 l0_1.length c0_1], .int .i64 a1] w fun e w' => ∃ v0_ v1_ : Value, e = .returned (.tuple #[.agg #[v0_, v1_], .int .i64 r3]) ∧ Kd.V k28 28 w' w.heap.size (fun k_ => (w.heap.size ≤ k_)) v0_ r1 ∧ Kd.V (Kd.int .i64) 3 w' w.heap.size (fun k_ => (w.heap.size ≤ k_)) v1_ r2 ∧ Below w.heap.size w w' := by
  unfold banksmanref08_Back.f at h
  obtain ⟨⟨q1, q2⟩, hq, h⟩ := Option.bind_eq_some_iff.mp h
  obtain ⟨ck, hck, h⟩ := Option.bind_eq_some_iff.mp h
  have hu := Try.underlying25
  have HR0 := Aside0.mk hr0_0
  have HR1 := Aside0.mk hr0_1
  have HQ := Aside0.mk hq
  have HCK := Aside0.mk hck
  have HH := Aside0.mk h
  clear hr0_0 hr0_1 hq hck h
  obtain ⟨s, hs⟩ : ∃ s, s = w.heap.size := ⟨_, rfl⟩
  have HSE := Aside0.mk hs
  obtain ⟨w2, hw2⟩ : ∃ w2, w2 = (w.alloc (.cells #[.slice A0_0 l0_0.length c0_0, .slice A0_1 l0_1.length c0_1] 25 (0, 0))).alloc (.cells #[.slice none 0 0, .slice none 0 0] 25 (0, 0)) := ⟨_, rfl⟩
  have hB0 : w2.heap[s]? = some (.cells #[.slice A0_0 l0_0.length c0_0, .slice A0_1 l0_1.length c0_1] 25 (0, 0)) := by rw [hw2, hs]; exact blk_alloc (heap_alloc_new w _) _
  have hB1 : w2.heap[s + 1]? = some (.cells #[.slice none 0 0, .slice none 0 0] 25 (0, 0)) := by
    rw [hw2, hs]; have := heap_alloc_new (w.alloc (.cells #[.slice A0_0 l0_0.length c0_0, .slice A0_1 l0_1.length c0_1] 25 (0, 0))) (.cells #[.slice none 0 0, .slice none 0 0] 25 (0, 0)); rwa [World.size_alloc] at this
  have hBB : Below w.heap.size w w2 := by rw [hw2]; exact below_alloc (below_alloc (Below.refl _ _) _) _
  have e0 : w2.cell? ⟨s, 0, none⟩ = some (.slice A0_0 l0_0.length c0_0) := (blk_cell hB0 0).trans rfl
  have e1 : w2.cell? ⟨s, 1, none⟩ = some (.slice A0_1 l0_1.length c0_1) := (blk_cell hB0 1).trans rfl
  have HB0 := Aside0.mk hB0
  have HB1 := Aside0.mk hB1
  have HBB := Aside0.mk hBB
  go_enter Try.func15, Try.ntmps15
  go_wp2_with (go_at_call 32; (suffices hsuf : Aside0 _ from hsuf.out))
  refine ⟨?_⟩
  rw [← hs]
  rw [← hw2]
  clear hw2 hs hB0 hB1 hBB e0 e1
  refine (banksmanref08_Copy.calls k A0_0 c0_0 l0_0 A0_1 c0_1 l0_1 q1 q2 w2 (Kd.C_below HR0.out HBB.out) hc0_0 (Kd.C_below HR1.out HBB.out) hc0_1 HQ.out).mono ?_
  rintro e w3 ⟨v0_, v1_, rfl, hS, hR, hb⟩
  obtain ⟨Ao, co, rfl⟩ := Kd.S_slice hS
  obtain ⟨Am, cm, rfl⟩ := Kd.R_slice hR
  have hco := (Kd.S_reads' hS).2.1
  have hcm := (Kd.R_reads' hR).2.1
  have HS := Aside0.mk (Kd.F_mono (Kd.S_F (Kd.S_bound hS)) (ok' := fun q => w2.heap.size ≤ q) (fun q hq => hq.2.1))
  have HR := Aside0.mk (Kd.F_mono (Kd.R_F (Kd.R_bound hR)) (ok' := fun q => w2.heap.size ≤ q) (fun q hq => hq.2.1))
  have HC0 := Aside0.mk ((hb.block _ (blk_lt HB0.out)).trans HB0.out)
  have HC1 := Aside0.mk ((hb.block _ (blk_lt HB1.out)).trans HB1.out)
  have HCB := Aside0.mk (below_step HBB.out hb)
  have HSZ := Aside0.mk hb.size
  clear hS hR hb
  have e0 : ∀ o, (w3.alloc o).cell? ⟨s, 0, none⟩ = some (.slice A0_0 l0_0.length c0_0) := fun o => (World.cell?_alloc_lt w3 o _ (blk_lt HC0.out)).trans ((blk_cell HC0.out 0).trans rfl)
  have e1 : ∀ o, (w3.alloc o).cell? ⟨s, 1, none⟩ = some (.slice A0_1 l0_1.length c0_1) := fun o => (World.cell?_alloc_lt w3 o _ (blk_lt HC0.out)).trans ((blk_cell HC0.out 1).trans rfl)
  go_wp2_with (go_at_call 18; (suffices hsuf : Aside0 _ from hsuf.out))
  refine ⟨?_⟩
  obtain ⟨gb, hgb⟩ : ∃ gb, gb = w3.heap.size := ⟨_, rfl⟩
  obtain ⟨w4, hw4⟩ : ∃ w4, w4 = w3.alloc (.cells #[.slice Ao q1.length co, .slice Am q2.length cm] 25 (0, 0)) := ⟨_, rfl⟩
  have hG : w4.heap[gb]? = some (.cells #[.slice Ao q1.length co, .slice Am q2.length cm] 25 (0, 0)) := by rw [hw4, hgb]; exact heap_alloc_new _ _
  have hb4 : Below w3.heap.size w3 w4 := by rw [hw4]; exact below_alloc (Below.refl _ _) _
  rw [← hw4, ← hgb]
  have HD0 := Aside0.mk ((hb4.block _ (blk_lt HC0.out)).trans HC0.out)
  have HD1 := Aside0.mk ((hb4.block _ (blk_lt HC1.out)).trans HC1.out)
  have HDB := Aside0.mk (below_step HCB.out hb4)
  have HGE := Aside0.mk hgb
  have HG := Aside0.mk hG
  have HB4 := Aside0.mk hb4
  clear hw4 hG hb4 e0 e1 hgb
  refine (banksmanref08_Check.calls k A0_0 c0_0 l0_0 A0_1 c0_1 l0_1 ck w4 (Kd.C_below HR0.out HDB.out) hc0_0 (Kd.C_below HR1.out HDB.out) hc0_1 HCK.out).mono ?_
  rintro e w5 ⟨rfl, hb⟩
  have HE0 := Aside0.mk ((hb.block _ (blk_lt HD0.out)).trans HD0.out)
  have HE1 := Aside0.mk ((hb.block _ (blk_lt HD1.out)).trans HD1.out)
  have HEG := Aside0.mk ((hb.block _ (blk_lt HG.out)).trans HG.out)
  have HEB := Aside0.mk (below_step HDB.out hb)
  have hb35 : Below w3.heap.size w3 w5 := below_step HB4.out hb
  have HFS := Aside0.mk (Kd.F_step (W1 := w5) HS.out (fun q _ hq => hb35.block q hq))
  have HFR := Aside0.mk (Kd.F_step (W1 := w5) HR.out (fun q _ hq => hb35.block q hq))
  have hgs : s + 2 ≤ w2.heap.size := Nat.lt_of_le_of_lt (Nat.le_refl _) (blk_lt HB1.out)
  have HGS := Aside0.mk (show s + 2 ≤ w2.heap.size ∧ w2.heap.size ≤ gb from ⟨hgs, by have := HSZ.out; have := HGE.out; omega⟩)
  clear hb hb35 hgs
  have e0 : w5.cell? ⟨s, 0, none⟩ = some (.slice A0_0 l0_0.length c0_0) := (blk_cell HE0.out 0).trans rfl
  have e1 : w5.cell? ⟨s, 1, none⟩ = some (.slice A0_1 l0_1.length c0_1) := (blk_cell HE0.out 1).trans rfl
  have e2 : w5.cell? ⟨gb, 0, none⟩ = some (.slice Ao q1.length co) := (blk_cell HEG.out 0).trans rfl
  have e3 : w5.cell? ⟨gb, 1, none⟩ = some (.slice Am q2.length cm) := (blk_cell HEG.out 1).trans rfl
  cases ck with
  | false =>
    have h := HH.out
    rw [if_pos (.inl rfl)] at h
    have hfin := Option.some.inj h
    simp only [Prod.mk.injEq] at hfin
    obtain ⟨rfl, rfl, rfl⟩ := hfin
    clear h HH
    go_wp2_with ((with_reducible refine gate_store (t := 25) (p := 4) rfl ?_); (suffices hsuf : Aside0 _ from hsuf.out))
    refine ⟨?_⟩
    refine storeL_row_ 25 (.tmp 4) (.tmp 25) rfl rfl rfl (s + 1) #[.slice Ao q1.length co, .slice Am q2.length cm] rfl rfl 25 _ HE1.out (by kernel_rfl) rfl (by simp [Value.oneCell']) ?_
    have hO := setRow_heap w5 (s + 1) _ #[.slice Ao q1.length co, .slice Am q2.length cm] 25 (0, 0) HE1.out
    have hB := below_setRow HEB.out (show w.heap.size ≤ s + 1 by have := HSE.out; omega) #[.slice Ao q1.length co, .slice Am q2.length cm]
    have hX := Kd.F_step (W1 := w5.setRow (s + 1) #[.slice Ao q1.length co, .slice Am q2.length cm]) (HFS.out) (fun q hq _ => setRow_other w5 (s + 1) q _ (by have := HGS.out; omega))
    have hY := Kd.F_step (W1 := w5.setRow (s + 1) #[.slice Ao q1.length co, .slice Am q2.length cm]) (HFR.out) (fun q hq _ => setRow_other w5 (s + 1) q _ (by have := HGS.out; omega))
    generalize w5.setRow (s + 1) #[.slice Ao q1.length co, .slice Am q2.length cm] = w9 at *
    have hsE := HSE.out
    have hgE := HGS.out
    (try go_wp2)
    refine bodyPost_ret (results_ct rfl _ _ (s + 1) 25 #[.slice Ao q1.length co, .slice Am q2.length cm] (0, 0) _ rfl hO Try.underlying25 rfl (by kernel_rfl)) rfl ?_
    exact ⟨_, _, rfl, Kd.V_mk hco (Kd.F_mono hX (fun q hq => by omega)), Kd.V_mk hcm (Kd.F_mono hY (fun q hq => by omega)), hB⟩
  | true =>
  by_cases hn : a1 < 0
  · have g1 : decide (a1 < 0) = true := decide_eq_true hn
    have h := HH.out
    rw [if_pos (.inr (.inl hn))] at h
    have hfin := Option.some.inj h
    simp only [Prod.mk.injEq] at hfin
    obtain ⟨rfl, rfl, rfl⟩ := hfin
    clear h HH
    clear hn
    go_wp2_with ((with_reducible refine gate_store (t := 25) (p := 4) rfl ?_); (suffices hsuf : Aside0 _ from hsuf.out))
    refine ⟨?_⟩
    refine storeL_row_ 25 (.tmp 4) (.tmp 25) rfl rfl rfl (s + 1) #[.slice Ao q1.length co, .slice Am q2.length cm] rfl rfl 25 _ HE1.out (by kernel_rfl) rfl (by simp [Value.oneCell']) ?_
    have hO := setRow_heap w5 (s + 1) _ #[.slice Ao q1.length co, .slice Am q2.length cm] 25 (0, 0) HE1.out
    have hB := below_setRow HEB.out (show w.heap.size ≤ s + 1 by have := HSE.out; omega) #[.slice Ao q1.length co, .slice Am q2.length cm]
    have hX := Kd.F_step (W1 := w5.setRow (s + 1) #[.slice Ao q1.length co, .slice Am q2.length cm]) (HFS.out) (fun q hq _ => setRow_other w5 (s + 1) q _ (by have := HGS.out; omega))
    have hY := Kd.F_step (W1 := w5.setRow (s + 1) #[.slice Ao q1.length co, .slice Am q2.length cm]) (HFR.out) (fun q hq _ => setRow_other w5 (s + 1) q _ (by have := HGS.out; omega))
    generalize w5.setRow (s + 1) #[.slice Ao q1.length co, .slice Am q2.length cm] = w9 at *
    have hsE := HSE.out
    have hgE := HGS.out
    (try go_wp2)
    refine bodyPost_ret (results_ct rfl _ _ (s + 1) 25 #[.slice Ao q1.length co, .slice Am q2.length cm] (0, 0) _ rfl hO Try.underlying25 rfl (by kernel_rfl)) rfl ?_
    exact ⟨_, _, rfl, Kd.V_mk hco (Kd.F_mono hX (fun q hq => by omega)), Kd.V_mk hcm (Kd.F_mono hY (fun q hq => by omega)), hB⟩
  have g1 : decide (a1 < 0) = false := decide_eq_false hn
  by_cases hl : (l0_1.length : Int) ≤ a1
  · have g2 : decide ((l0_1.length : Int) ≤ a1) = true := decide_eq_true hl
    have h := HH.out
    rw [if_pos (.inr (.inr hl))] at h
    have hfin := Option.some.inj h
    simp only [Prod.mk.injEq] at hfin
    obtain ⟨rfl, rfl, rfl⟩ := hfin
    clear h HH
    clear hn hl
    go_wp2_with ((with_reducible refine gate_store (t := 25) (p := 4) rfl ?_); (suffices hsuf : Aside0 _ from hsuf.out))
    refine ⟨?_⟩
    refine storeL_row_ 25 (.tmp 4) (.tmp 25) rfl rfl rfl (s + 1) #[.slice Ao q1.length co, .slice Am q2.length cm] rfl rfl 25 _ HE1.out (by kernel_rfl) rfl (by simp [Value.oneCell']) ?_
    have hO := setRow_heap w5 (s + 1) _ #[.slice Ao q1.length co, .slice Am q2.length cm] 25 (0, 0) HE1.out
    have hB := below_setRow HEB.out (show w.heap.size ≤ s + 1 by have := HSE.out; omega) #[.slice Ao q1.length co, .slice Am q2.length cm]
    have hX := Kd.F_step (W1 := w5.setRow (s + 1) #[.slice Ao q1.length co, .slice Am q2.length cm]) (HFS.out) (fun q hq _ => setRow_other w5 (s + 1) q _ (by have := HGS.out; omega))
    have hY := Kd.F_step (W1 := w5.setRow (s + 1) #[.slice Ao q1.length co, .slice Am q2.length cm]) (HFR.out) (fun q hq _ => setRow_other w5 (s + 1) q _ (by have := HGS.out; omega))
    generalize w5.setRow (s + 1) #[.slice Ao q1.length co, .slice Am q2.length cm] = w9 at *
    have hsE := HSE.out
    have hgE := HGS.out
    (try go_wp2)
    refine bodyPost_ret (results_ct rfl _ _ (s + 1) 25 #[.slice Ao q1.length co, .slice Am q2.length cm] (0, 0) _ rfl hO Try.underlying25 rfl (by kernel_rfl)) rfl ?_
    exact ⟨_, _, rfl, Kd.V_mk hco (Kd.F_mono hX (fun q hq => by omega)), Kd.V_mk hcm (Kd.F_mono hY (fun q hq => by omega)), hB⟩
  have g2 : decide ((l0_1.length : Int) ≤ a1) = false := decide_eq_false hl
  have h := HH.out
  rw [if_neg (by simp; omega)] at h
  have hcut : 0 ≤ rd l0_1 a1 ∧ rd l0_1 a1 ≤ (q1.length : Int) ∧ a1 + 1 ≤ (q2.length : Int) := Classical.byContradiction fun hc => by rw [if_neg hc] at h; cases h
  rw [if_pos hcut] at h
  have hfin := Option.some.inj h
  simp only [Prod.mk.injEq] at hfin
  obtain ⟨rfl, rfl, rfl⟩ := hfin
  clear h HH
  obtain ⟨ad, hA, hx0⟩ := Kd.at_int (Kd.C_below HR1.out HEB.out) a1 (by omega) (by omega)
  cases hA
  obtain ⟨j, hj⟩ : ∃ j, j = rd l0_1 a1 := ⟨_, rfl⟩
  rw [← hj] at hcut hx0
  have HRD := Aside0.mk hj
  clear hj
  have HJ := Aside0.mk hcut
  have hm1 := Kd.C_max (Kd.F_now HFS.out)
  have hm2 := Kd.C_max (Kd.F_now HFR.out)
  obtain ⟨iW, hiW, _, _, _⟩ := info_parts info28
  obtain ⟨iI, hiI, _, _, _⟩ := info_parts info3
  have hw : IntKind.i64.wrap (a1 + 1) = a1 + 1 := by simp [IntKind.wrap, IntKind.bits, IntKind.signed]; omega
  have hc1 := cut_to (P := Try.prog) 22 28 .i64 Try.underlying22 hiW Ao q1.length co j hcut.1 hcut.2.1 hco
  have hc2 := cut_to (P := Try.prog) 23 3 .i64 Try.underlying23 hiI Am q2.length cm (a1 + 1) (by omega) hcut.2.2 hcm
  have hT1 := Aside0.mk (Kd.F_take HFS.out (show j.toNat ≤ q1.length by omega))
  have hT2 := Aside0.mk (Kd.F_take HFR.out (show (a1 + 1).toNat ≤ q2.length by omega))
  have ht1 : j.toNat = (q1.take j.toNat).length := by rw [List.length_take]; omega
  have ht2 : (a1 + 1).toNat = (q2.take (a1 + 1).toNat).length := by rw [List.length_take]; omega
  have HT := Aside0.mk (And.intro ht1 ht2)
  have g3 : 0 ≤ a1 := by omega
  have g4 : a1 < (l0_1.length : Int) := by omega
  clear hcut ht1 ht2 hiW hiI hn hl hm1 hm2
  go_wp2_with (fail)
  refine start_ (n := 16) (S := fun w' => w'.cell? ⟨gb, 0, none⟩ = some (.slice Ao q1.length co) ∧ w'.cell? ⟨gb, 1, none⟩ = some (.slice Am q2.length cm) ∧ w'.cell? ⟨s, 1, none⟩ = some (.slice (some ad) l0_1.length c0_1) ∧ w'.cell? (ad.add a1.toNat) = some (.int .i64 j)) (ds := [14]) #[false, false, false, false, false, false, false, false, false, false, false, false, false, false, false, false] (by kernel_rfl) rfl rfl ⟨e2, e3, e1, hx0⟩ (fun hHeld => ?_)
  clear e0 e1 e2 e3 hx0
  have HX1 := Aside0.mk (show w5.drew.heap[s + 1]? = _ from HE1.out)
  have HXB := Aside0.mk (below_drew1 HEB.out)
  have HXS := Aside0.mk (Kd.F_step (W1 := w5.drew) hT1.out (fun _ _ _ => rfl))
  have HXR := Aside0.mk (Kd.F_step (W1 := w5.drew) hT2.out (fun _ _ _ => rfl))
  generalize w5.drew = w6 at HX1 HXB HXS HXR hHeld ⊢
  refine pure_ (i := 0) (N := some 26) (v := ?_) (a' := ?_) #[true, false, false, false, false, false, false, false, false, false, false, false, false, false, false, false] rfl rfl (by kernel_rfl) (fun _ _ _ h => h) (Or.inl ⟨by rfl, ?_⟩) ?_ ?_
  rotate_left
  · intro w'
    go_simp
    with_reducible rfl
  rotate_left
  · simp only [Act.put, List.setIfInBounds_toArray, List.set_cons_zero, List.set_cons_succ]
    rfl
  refine take_ (i := 1) (N := some 27) (v := ?_) (a' := ?_) #[true, true, false, false, false, false, false, false, false, false, false, false, false, false, false, false] rfl rfl (by kernel_rfl) (fun _ _ _ h => h) (Or.inl ⟨by rfl, ?_⟩) hHeld ?_ ?_
  rotate_left
  · rintro w' ⟨s0, s1, s2, s3⟩
    go_simp
    with_reducible rfl
  rotate_left
  · simp only [Act.put, List.setIfInBounds_toArray, List.set_cons_zero, List.set_cons_succ]
    rfl
  refine pure_ (i := 2) (N := some 28) (v := ?_) (a' := ?_) #[true, true, true, false, false, false, false, false, false, false, false, false, false, false, false, false] rfl rfl (by kernel_rfl) (fun _ _ _ h => h) (Or.inl ⟨by rfl, ?_⟩) ?_ ?_
  rotate_left
  · intro w'
    go_simp
    with_reducible rfl
  rotate_left
  · simp only [Act.put, List.setIfInBounds_toArray, List.set_cons_zero, List.set_cons_succ]
    rfl
  refine take_ (i := 3) (N := some 29) (v := ?_) (a' := ?_) #[true, true, true, true, false, false, false, false, false, false, false, false, false, false, false, false] rfl rfl (by kernel_rfl) (fun _ _ _ h => h) (Or.inl ⟨by rfl, ?_⟩) hHeld ?_ ?_
  rotate_left
  · rintro w' ⟨s0, s1, s2, s3⟩
    go_simp
    with_reducible rfl
  rotate_left
  · simp only [Act.put, List.setIfInBounds_toArray, List.set_cons_zero, List.set_cons_succ]
    rfl
  refine pure_ (i := 4) (N := some 30) (v := ?_) (a' := ?_) #[true, true, true, true, true, false, false, false, false, false, false, false, false, false, false, false] rfl rfl (by kernel_rfl) (fun _ _ _ h => h) (Or.inl ⟨by rfl, ?_⟩) ?_ ?_
  rotate_left
  · intro w'
    go_simp
    with_reducible rfl
  rotate_left
  · simp only [Act.put, List.setIfInBounds_toArray, List.set_cons_zero, List.set_cons_succ]
    rfl
  refine pure_ (i := 5) (N := some 31) (v := ?_) (a' := ?_) #[true, true, true, true, true, true, false, false, false, false, false, false, false, false, false, false] rfl rfl (by kernel_rfl) (fun _ _ _ h => h) (Or.inl ⟨by rfl, ?_⟩) ?_ ?_
  rotate_left
  · intro w'
    go_simp
    with_reducible rfl
  rotate_left
  · simp only [Act.put, List.setIfInBounds_toArray, List.set_cons_zero, List.set_cons_succ]
    rfl
  refine take_ (i := 6) (N := some 32) (v := ?_) (a' := ?_) #[true, true, true, true, true, true, true, false, false, false, false, false, false, false, false, false] rfl rfl (by kernel_rfl) (fun _ _ _ h => h) (Or.inl ⟨by rfl, ?_⟩) hHeld ?_ ?_
  rotate_left
  · rintro w' ⟨s0, s1, s2, s3⟩
    go_simp
    with_reducible rfl
  rotate_left
  · simp only [Act.put, List.setIfInBounds_toArray, List.set_cons_zero, List.set_cons_succ]
    rfl
  refine pure_ (i := 7) (N := some 33) (v := ?_) (a' := ?_) #[true, true, true, true, true, true, true, true, false, false, false, false, false, false, false, false] rfl rfl (by kernel_rfl) (fun _ _ _ h => h) (Or.inl ⟨by rfl, ?_⟩) ?_ ?_
  rotate_left
  · intro w'
    go_simp
    with_reducible rfl
  rotate_left
  · simp only [Act.put, List.setIfInBounds_toArray, List.set_cons_zero, List.set_cons_succ]
    rfl
  refine pure_ (i := 8) (N := some 34) (v := ?_) (a' := ?_) #[true, true, true, true, true, true, true, true, true, false, false, false, false, false, false, false] rfl rfl (by kernel_rfl) (fun _ _ _ h => h) (Or.inl ⟨by rfl, ?_⟩) ?_ ?_
  rotate_left
  · intro w'
    go_simp
    with_reducible rfl
  rotate_left
  · simp only [Act.put, List.setIfInBounds_toArray, List.set_cons_zero, List.set_cons_succ]
    rfl
  refine take_ (i := 9) (N := some 35) (v := ?_) (a' := ?_) #[true, true, true, true, true, true, true, true, true, true, false, false, false, false, false, false] rfl rfl (by kernel_rfl) (fun _ _ _ h => h) (Or.inl ⟨by rfl, ?_⟩) hHeld ?_ ?_
  rotate_left
  · rintro w' ⟨s0, s1, s2, s3⟩
    go_simp
    with_reducible rfl
  rotate_left
  · simp only [Act.put, List.setIfInBounds_toArray, List.set_cons_zero, List.set_cons_succ]
    rfl
  refine pure_ (i := 10) (N := some 36) (v := ?_) (a' := ?_) #[true, true, true, true, true, true, true, true, true, true, true, false, false, false, false, false] rfl rfl (by kernel_rfl) (fun _ _ _ h => h) (Or.inl ⟨by rfl, ?_⟩) ?_ ?_
  rotate_left
  · intro w'
    go_simp
    with_reducible rfl
  rotate_left
  · simp only [Act.put, List.setIfInBounds_toArray, List.set_cons_zero, List.set_cons_succ]
    rfl
  refine pure_ (i := 11) (N := some 37) (v := ?_) (a' := ?_) #[true, true, true, true, true, true, true, true, true, true, true, true, false, false, false, false] rfl rfl (by kernel_rfl) (fun _ _ _ h => h) (Or.inl ⟨by rfl, ?_⟩) ?_ ?_
  rotate_left
  · intro w'
    go_simp
    with_reducible rfl
  rotate_left
  · simp only [Act.put, List.setIfInBounds_toArray, List.set_cons_zero, List.set_cons_succ]
    rfl
  refine pure_ (i := 12) (N := some 38) (v := ?_) (a' := ?_) #[true, true, true, true, true, true, true, true, true, true, true, true, true, false, false, false] rfl rfl (by kernel_rfl) (fun _ _ _ h => h) (Or.inl ⟨by rfl, ?_⟩) ?_ ?_
  rotate_left
  · intro w'
    go_simp
    with_reducible rfl
  rotate_left
  · simp only [Act.put, List.setIfInBounds_toArray, List.set_cons_zero, List.set_cons_succ]
    rfl
  refine pure_ (i := 13) (N := some 39) (v := ?_) (a' := ?_) #[true, true, true, true, true, true, true, true, true, true, true, true, true, true, false, false] rfl rfl (by kernel_rfl) (fun _ _ _ h => h) (Or.inl ⟨by rfl, ?_⟩) ?_ ?_
  rotate_left
  · intro w'
    go_simp
    with_reducible rfl
  rotate_left
  · simp only [Act.put, List.setIfInBounds_toArray, List.set_cons_zero, List.set_cons_succ]
    rfl
  refine last_ (i := 14) (N := none) #[true, true, true, true, true, true, true, true, true, true, true, true, true, true, true, false] rfl rfl (by kernel_rfl) (by decide) (fun K hK => ?_)
  refine store_row_ 25 (.tmp 4) (.tmp 39) rfl rfl rfl (s + 1) #[.slice Ao j.toNat co, .slice Am (a1 + 1).toNat cm] rfl rfl 25 _ HX1.out (by kernel_rfl) rfl (by simp [Value.oneCell']) ?_
  refine hK.out _ _ ?_
  clear hK K
  have hO := setRow_heap w6 (s + 1) _ #[.slice Ao j.toNat co, .slice Am (a1 + 1).toNat cm] 25 (0, 0) HX1.out
  have hB := below_setRow HXB.out (show w.heap.size ≤ s + 1 by have := HSE.out; omega) #[.slice Ao j.toNat co, .slice Am (a1 + 1).toNat cm]
  have hX := Kd.F_step (W1 := w6.setRow (s + 1) #[.slice Ao j.toNat co, .slice Am (a1 + 1).toNat cm]) HXS.out (fun q hq _ => setRow_other w6 (s + 1) q _ (by have := HGS.out; omega))
  have hY := Kd.F_step (W1 := w6.setRow (s + 1) #[.slice Ao j.toNat co, .slice Am (a1 + 1).toNat cm]) HXR.out (fun q hq _ => setRow_other w6 (s + 1) q _ (by have := HGS.out; omega))
  generalize w6.setRow (s + 1) #[.slice Ao j.toNat co, .slice Am (a1 + 1).toNat cm] = w9 at hO hB hX hY ⊢
  refine pure_ (i := 15) (N := some 5) (v := ?_) (a' := ?_) #[true, true, true, true, true, true, true, true, true, true, true, true, true, true, true, true] rfl rfl (by kernel_rfl) (fun _ _ _ h => h) (Or.inl ⟨by rfl, ?_⟩) ?_ ?_
  rotate_left
  · intro w'
    go_simp
    with_reducible rfl
  rotate_left
  · simp only [Act.put, List.setIfInBounds_toArray, List.set_cons_zero, List.set_cons_succ]
    rfl
  refine done_ (by kernel_rfl) ?_
  have hsE := HSE.out
  have hgE := HGS.out
  have hTE := HT.out
  (try go_wp2)
  rw [hTE.1, hTE.2] at hO
  refine bodyPost_ret (results_ct rfl _ _ (s + 1) 25 _ (0, 0) _ rfl hO Try.underlying25 rfl (by kernel_rfl)) rfl ?_
  rw [← HRD.out]
  exact ⟨_, _, rfl, Kd.V_mk (show (q1.take j.toNat).length ≤ co by rw [List.length_take]; omega) (Kd.F_mono hX (fun q hq => by omega)), Kd.V_mk (show (q2.take (a1 + 1).toNat).length ≤ cm by rw [List.length_take]; omega) (Kd.F_mono hY (fun q hq => by omega)), hB⟩
end Go.Proofs.Ytbjeaalbdaedpaa.P
