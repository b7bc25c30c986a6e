-- Written by wip/gprint.py, a program of this session over the kit's print; Lean checks it.
import Derived.Test.YtdkfahobgnmglaaPx0
import Derived.Test.YtdkfahobgnmglaaPx2
import Derived.Test.YtdkfahobgnmglaaPx3
import Derived.Test.YtdkfahobgnmglaaPx9
import Derived.Laws.CopyOwn
namespace Go.Proofs.Ytdkfahobgnmglaa.P
open Go.RowKit Go.Proofs.YtdkfahobgnmglaaW.PrintWords Go.Proofs.YtdkfahobgnmglaaW.PrintLast Go.Proofs.YtdkfahobgnmglaaW.PrintMore
attribute [local go_sem] max2_int min2_int max_two min_two max_three min_three max_four min_four   -- for this text's walks alone
set_option linter.unusedVariables false
set_option linter.unusedSimpArgs false

/-GIVEN chain_own-/
/-! ### chain_own: function 27 -/
def okOwn (l : List S25) : Bool := decide (l.length ≤ 7036874417766) && l.all fun x => decide (x.f2.length < 140737488355328)
def chain_own.f (l0 : List (S25)) : Option ((List (S25))) := if okOwn l0 = true then some l0 else none
set_option maxHeartbeats 2000000 in
set_option maxRecDepth 100000 in
theorem chain_own.calls (A0 : Option Addr) (c0 : Nat) (l0 : List (S25)) (r : List (S25)) (w : World) (hr0 : Kd.C k25 w A0 l0.length l0) (hc0 : l0.length ≤ c0) (h : chain_own.f l0 = some r) :
    Calls Try.prog 27 #[.slice A0 l0.length c0] w fun e w' => ∃ v0_ : Value, e = .returned (v0_) ∧ Kd.V k25 25 w' w.heap.size (fun k_ => (w.heap.size ≤ k_)) v0_ r ∧ Below w.heap.size w w' := by
  unfold chain_own.f at h
  have hok : okOwn l0 = true := Classical.byContradiction fun hn => by rw [if_neg hn] at h; cases h
  rw [if_pos hok] at h
  obtain rfl := Option.some.inj h
  clear h
  unfold okOwn at hok
  simp only [Bool.and_eq_true, decide_eq_true_eq, List.all_eq_true] at hok
  obtain ⟨hln, hsm⟩ := hok
  have HSM := Aside0.mk hsm
  have HR := Aside0.mk hr0
  have hm : l0.length ≤ 9223372036854775807 := Kd.C_max hr0
  obtain ⟨i0, hi, hzz⟩ := Option.map_eq_some_iff.1 info25
  simp only [Prod.mk.injEq] at hzz
  obtain ⟨hz0, hz1, hz2⟩ := hzz
  obtain ⟨Z, hZ, hmk⟩ : ∃ Z : Array Value, Z.size = l0.length * 3 ∧ ∀ W : World, (Instr.makeSlice 22 (.int .i64 (l0.length : Int)) (.int .i64 (l0.length : Int))).run Try.prog W = .ok (.slice (some ⟨W.heap.size, 0, none⟩) l0.length l0.length) (W.alloc (.cells Z 25)) := by
    refine ⟨madeCells (Value.agg #[.int .i64 0, .bool false, .slice none 0 0]).cells (l0.length * 3), size_madeCells _ _, fun W => ?_⟩
    have := run_make (P := Try.prog) W 22 25 i0 _ Try.underlying22 hi hz0 .i64 .i64 (l0.length : Int) (l0.length : Int) (by omega) (by omega) (by rw [hz2]; omega) (by omega)
    rw [hz1] at this
    simpa only [Int.toNat_natCast] using this
  obtain ⟨cs, hcl, hck, hsrc⟩ : ∃ cs : List Value, cs.length = l0.length * 3 ∧ (∀ j p, l0[j]? = some p → k25.K w p ((cs.drop (j * 3)).take 3)) ∧ (0 < l0.length → ∃ ad, A0 = some ad ∧ ∀ j v, cs[j]? = some v → w.cell? (ad.add j) = some v) := by
    by_cases h0 : 0 < l0.length
    · obtain ⟨ad, rfl, _⟩ := hr0.2.2 h0
      obtain ⟨inner, hr, hc⟩ := ReadsRow.inner_ hr0
      exact ⟨inner, hr.1, hr.2, fun _ => ⟨ad, rfl, hc⟩⟩
    · obtain rfl : l0 = [] := List.length_eq_zero_iff.mp (by omega)
      exact ⟨[], rfl, fun j p hj => by simp at hj, fun h => absurd h h0⟩
  have hone : ∀ v ∈ cs, v.oneCell' = true := by
    intro v hv
    obtain ⟨q, hq, rfl⟩ := List.getElem_of_mem hv
    have hj : q / 3 < l0.length := by omega
    have := k25.K_one (hck (q / 3) _ (List.getElem?_eq_getElem hj)) cs[q] (by
      refine List.mem_of_getElem? (i := q % 3) ?_
      rw [← chunk_at (Nat.mod_lt _ (by decide)), show q / 3 * 3 + q % 3 = q by omega]
      exact List.getElem?_eq_getElem hq)
    exact this
  have HCL := Aside0.mk hcl
  have HCK := Aside0.mk hck
  have HSRC := Aside0.mk hsrc
  have HONE := Aside0.mk hone
  have HZ := Aside0.mk hZ
  have hu := Try.underlying25
  clear hcl hck hsrc hone hZ hr0 hi hz0 hz1 hz2 hsm
  go_enter Try.func27, Try.ntmps27
  go_wp2_with (with_reducible refine wpList_copy_rows rfl _ _ 22 22 rfl 25 Try.underlying22 3 ?hsz w.heap.size l0.length l0.length A0 c0 ?hd ?hs Z 25 ?hg cs HCL.out ?hsrc ?hfit HONE.out ?_)
  case hsz => kernel_rfl
  case hd => rfl
  case hs => rfl
  case hg => exact heap_alloc_new w _
  case hsrc =>
    intro h0
    obtain ⟨ad, e, hc⟩ := HSRC.out h0
    exact ⟨ad, e, fun j v hj => (World.cell?_alloc_lt w _ _ (World.block_lt_of_cell? w _ (hc j v hj))).trans (hc j v hj)⟩
  case hfit => rw [HCL.out, HZ.out]
  have HG0 := Aside0.mk (setRow_heap (w.alloc (.cells Z 25)) w.heap.size _ cs.toArray _ _ (heap_alloc_new w _))
  have HB0 := Aside0.mk (below_setRow (below_alloc (Below.refl w.heap.size w) (.cells Z 25)) (Nat.le_refl _) cs.toArray)
  generalize (w.alloc (.cells Z 25)).setRow w.heap.size cs.toArray = w1 at *
  go_wp2
  go_loopw [14] (fun i wr => ∃ (k : Nat) (cur : List Value), k ≤ l0.length ∧ i = .int .i64 k ∧ Aside0 (wr.heap[w.heap.size]? = some (.cells cur.toArray 25 (0, 0))) ∧ Aside0 (cur.length = l0.length * 3) ∧
      Aside0 (∀ j p, l0[j]? = some p → (j < k → Kd.FK k25 wr (fun k_ => w.heap.size < k_) p ((cur.drop (j * 3)).take 3)) ∧ (k ≤ j → k25.K w p ((cur.drop (j * 3)).take 3))) ∧ Aside0 (Below w.heap.size w wr)) (fun i _ => l0.length - (intOf i).toNat)
  case atStart => exact ⟨0, cs, Nat.zero_le _, rfl, HG0, HCL, ⟨fun j p hj => ⟨fun h => absurd h (Nat.not_lt_zero _), fun _ => HCK.out j p hj⟩⟩, HB0⟩
  case round =>
    obtain ⟨k, cur, hk, rfl, HG, HL, HE, HB⟩ := hrel
    by_cases hlt : k < l0.length
    · obtain ⟨p, hp⟩ : ∃ p, l0[k]? = some p := ⟨_, List.getElem?_eq_getElem hlt⟩
      obtain ⟨A2, c2, hch, hl2, hi2⟩ := k25_open ((HE.out k p hp).2 (Nat.le_refl _))
      have HP := Aside0.mk hp
      have HCH := Aside0.mk hch
      have hx0 : wr.cell? ⟨w.heap.size, k * 3, none⟩ = some (.int .i64 p.f0) := by
        rw [blk_cell HG.out]; have := chunk_at (cur := cur) (k := k) (show 0 < 3 by decide); rw [hch] at this; simpa using this
      have hx1 : wr.cell? ⟨w.heap.size, k * 3 + 1, none⟩ = some (.bool p.f1) := by
        rw [blk_cell HG.out]; have := chunk_at (cur := cur) (k := k) (show 1 < 3 by decide); rw [hch] at this; simpa using this
      have hx2 : wr.cell? ⟨w.heap.size, k * 3 + 2, none⟩ = some (.slice A2 p.f2.length c2) := by
        rw [blk_cell HG.out]; have := chunk_at (cur := cur) (k := k) (show 2 < 3 by decide); rw [hch] at this; simpa using this
      have hfr := blk_frozen HG.out
      have HR2 := Aside0.mk hi2
      have HL2 := Aside0.mk hl2
      have HS2 := Aside0.mk (HSM.out p (List.mem_of_getElem? hp))
      have hgl : w.heap.size < wr.heap.size := blk_lt HG.out
      clear hp hch hi2 hl2
      go_wp2_with fail
      refine (bytes_Clone.calls A2 c2 p.f2 p.f2 _ (Kd.C_alloc (Kd.C_below HR2.out HB.out) _) HL2.out (by unfold bytes_Clone.f; rw [if_pos HS2.out])).mono ?_
      rintro e w2 ⟨v, rfl, hv, hb⟩
      obtain ⟨A9, c9, rfl⟩ := Kd.R_slice hv
      have hb1 : Below wr.heap.size wr w2 := (below_alloc (Below.refl wr.heap.size wr) _).trans (hb.mono (by simp))
      have HG2 := Aside0.mk ((hb1.block _ hgl).trans HG.out)
      have HB2 := Aside0.mk (below_step HB.out hb1)
      have HB1 := Aside0.mk hb1
      have HV := Aside0.mk hv
      have hlen3 : k * 3 + 2 < cur.length := by have := HL.out; omega
      have hy2 : w2.cell? ⟨w.heap.size, k * 3 + 2, none⟩ = some (.slice A2 p.f2.length c2) := (blk_cell HG2.out _).trans ((blk_cell HG.out _).symm.trans hx2)
      have hfr2 := blk_frozen HG2.out
      clear hv hb hb1 hx0 hx1 hx2 hfr
      go_wp2
      go_roundw
      case rel =>
        refine ⟨k + 1, cur.set (k * 3 + 2) (.slice A9 p.f2.length c9), by omega, by go_num, ⟨?_⟩, ⟨by rw [List.length_set]; exact HL.out⟩, ⟨fun j q hj => ?_⟩, ⟨below_set HB2.out (Nat.le_refl _)⟩⟩
        · have := blk_set HG2.out (k * 3 + 2) (.slice A9 p.f2.length c9)
          simpa using this
        · have hold := HE.out j q hj
          rw [chunk_set cur 3 k j 2 _ (by decide)]
          have hset := blk_set HG2.out (k * 3 + 2) (.slice A9 p.f2.length c9)
          refine ⟨fun hjk => ?_, fun hjk => ?_⟩
          · by_cases e : j = k
            · subst e
              rw [HP.out] at hj
              obtain rfl := Option.some.inj hj
              rw [if_pos rfl, HCH.out]
              refine k25_mkF _ _ p (Kd.R_reads' HV.out).2.1 ?_
              have hF := Kd.R_F (Kd.R_mono (ok' := fun k_ => wr.heap.size ≤ k_) (Kd.R_bound HV.out) (fun q hq => by have := hq.2.1; simp at this; omega))
              refine Kd.F_mono (Kd.F_far hF (p := ⟨w.heap.size, j * 3 + 2, none⟩) (fun q hq => by simp; omega) _) (fun q hq => by omega)
            · rw [if_neg e]
              exact Kd.FK_step (Kd.FK_below (hold.1 (by omega)) HB1.out) (fun q hq _ => Below.heap_setCell w2 ⟨w.heap.size, k * 3 + 2, none⟩ _ q (by simp; omega))
          · rw [if_neg (by omega)]
            exact hold.2 (by omega)
      case measure => simp [intOf]; omega
    · obtain rfl : k = l0.length := by omega
      go_wp2
      go_ret
      refine ⟨_, rfl, ?_, HB.out⟩
      exact V_of_block (Nat.le_refl _) HG.out hm (Nat.le_refl _) HL.out (fun j q hj => Kd.FK_mono ((HE.out j q hj).1 (List.getElem?_eq_some_iff.1 hj).1) (fun q hq => by omega))

end Go.Proofs.Ytdkfahobgnmglaa.P
