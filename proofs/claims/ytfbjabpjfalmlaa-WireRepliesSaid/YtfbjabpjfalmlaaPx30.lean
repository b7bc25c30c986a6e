import Derived.Test.YtfbjabpjfalmlaaPx0
import Derived.Test.YtfbjabpjfalmlaaPx1
namespace Go.Proofs.Ytfbjabpjfalmlaa.P
open Go.RowKit Go.Proofs.YtfbjabpjfalmlaaW.PrintWords Go.Proofs.YtfbjabpjfalmlaaW.PrintLast Go.Proofs.YtfbjabpjfalmlaaW.PrintMore
attribute [local go_sem] max2_int min2_int max_two min_two max_three min_three max_four min_four
set_option linter.unusedVariables false
set_option linter.unusedSimpArgs false
def toldAll : List Int → List S47 → Option (List Int)
  | acc, [] => some acc
  | acc, p :: r => (putF [] [.txt none 0 p.f0, .txt none 0 p.f1]).bind fun t => if acc.length + t.length < 140737488355000 then toldAll (acc ++ t) r else none
def wire_Told.f (a0_0 : Int) (a0_1 : Bool) (l0_2 : List Int) (l0_3 : List (S47)) : Option (List Int × Int) := if replyB a0_0 a0_1 l0_2.length l0_3 = true then (putF [] [.num a0_0, .flag a0_1, .txt none 0 l0_2, .num l0_3.length]).bind fun b => (toldAll b l0_3).bind fun t => some (t, 0) else some ([], 210)
set_option maxHeartbeats 8000000 in
set_option maxRecDepth 100000 in
theorem wire_Told.calls (a0_0 : Int) (a0_1 : Bool) (A0_2 : Option Addr) (c0_2 : Nat) (l0_2 : List Int) (A0_3 : Option Addr) (c0_3 : Nat) (l0_3 : List (S47)) (r1 : List Int) (r2 : Int) (w : World) (hr0_2 : Kd.C (Kd.int .u8) w A0_2 l0_2.length l0_2) (hc0_2 : l0_2.length ≤ c0_2) (hr0_3 : Kd.C k47 w A0_3 l0_3.length l0_3) (hc0_3 : l0_3.length ≤ c0_3) (h : wire_Told.f a0_0 a0_1 l0_2 l0_3 = some (r1, r2)) :
    Calls Try.prog 16 #[.agg #[.int .i64 a0_0, .bool a0_1, .slice A0_2 l0_2.length c0_2, .slice A0_3 l0_3.length c0_3]] w fun e w' => ∃ v0_ : Value, e = .returned (.tuple #[v0_, .int .i64 r2]) ∧ Kd.R (Kd.int .u8) 5 w' w.heap.size (fun _ => True) v0_ r1 ∧ Below w.heap.size w w' := by
  unfold wire_Told.f at h
  obtain ⟨oA, hoA⟩ : ∃ o : Obj, o = .cells #[.int .i64 a0_0, .bool a0_1, .slice A0_2 l0_2.length c0_2, .slice A0_3 l0_3.length c0_3] 36 (0, 0) := ⟨_, rfl⟩
  have HM := Aside0.mk (wire_reply.calls a0_0 a0_1 A0_2 c0_2 l0_2 A0_3 c0_3 l0_3 (replyB a0_0 a0_1 l0_2.length l0_3) (w.alloc oA) (Kd.C_alloc hr0_2 _) hc0_2 (Kd.C_alloc hr0_3 _) hc0_3 rfl)
  have HK := Aside0.mk (heap_alloc_new w oA)
  have HL := Aside0.mk (below_alloc (Below.refl w.heap.size w) oA)
  subst hoA
  have hu := Try.underlying36
  have hu2 := Try.underlying47
  have R2 := Aside0.mk hr0_2
  have R3 := Aside0.mk hr0_3
  have C2 := Aside0.mk hc0_2
  have C3 := Aside0.mk hc0_3
  clear hr0_2 hc0_2 hr0_3 hc0_3
  cases hm : replyB a0_0 a0_1 l0_2.length l0_3 with
  | false =>
    rw [hm] at h HM
    rw [if_neg (by decide)] at h
    obtain ⟨rfl, rfl⟩ : [] = r1 ∧ 210 = r2 := by simpa using h
    clear h hm
    go_enter Try.func16, Try.ntmps16
    go_wp2_with (go_at_call 32; (with_reducible refine HM.out.mono ?_); rintro e1 w1 ⟨rfl, hb⟩; have HB1 := Aside0.mk (below_step HL.out hb); clear hb)
    go_ret2
    exact ⟨_, rfl, Kd.R_nil _ _ _ _ _, HB1.out⟩
  | true =>
    rw [hm] at h HM
    rw [if_pos rfl] at h
    obtain ⟨b, hp, h⟩ := Option.bind_eq_some_iff.mp h
    obtain ⟨t, ht, h⟩ := Option.bind_eq_some_iff.mp h
    obtain ⟨rfl, rfl⟩ : t = r1 ∧ 0 = r2 := by simpa using h
    have HP := Aside0.mk (show putF [] [.num a0_0, .flag a0_1, .txt A0_2 c0_2 l0_2, .num l0_3.length] = some b from hp)
    have HT := Aside0.mk ht
    have h80 : l0_3.length ≤ 80 := by
      unfold replyB at hm
      simp only [Bool.and_eq_true, decide_eq_true_eq] at hm
      exact hm.1.2
    clear h hp hm ht
    go_enter Try.func16, Try.ntmps16
    go_wp2_with (first | (go_at_call 32; (with_reducible refine HM.out.mono ?_); rintro e1 w1 ⟨rfl, hb⟩; have HK1 := Aside0.mk (blk_below HK.out hb); have z0 := (blk_cell HK1.out 0).trans (show _ = some _ from rfl); have z1 := (blk_cell HK1.out 1).trans (show _ = some _ from rfl); have z2 := (blk_cell HK1.out 2).trans (show _ = some _ from rfl); have z3 := (blk_cell HK1.out 3).trans (show _ = some _ from rfl); have HB1 := Aside0.mk (below_step HL.out hb); clear hb) | (go_at_call 22; (suffices hsuf : Aside0 _ from hsuf.out)))
    refine ⟨?_⟩
    have HLa := fun o => Aside0.mk (below_alloc HB1.out o)
    refine (put_calls [.num a0_0, .flag a0_1, .txt A0_2 c0_2 l0_2, .num l0_3.length] w1.heap.size b _ (heap_alloc_new w1 _) (by simp) ?ok HP.out).mono ?_
    case ok =>
      intro p hp
      simp only [List.mem_cons, List.not_mem_nil, or_false] at hp
      rcases hp with rfl | rfl | rfl | rfl <;> first | trivial | exact ⟨Kd.C_below R2.out (HLa _).out, C2.out⟩
    rintro e w2 ⟨v, rfl, hv, hb⟩
    have HV := Aside0.mk (Kd.R_lower hv (HLa _).out.size)
    have HB2 := Aside0.mk (below_step (HLa _).out hb)
    have HK2 := Aside0.mk (blk_below (blk_alloc HK1.out _) hb)
    clear hv hb HLa z0 z1 z2 z3
    have z3 := (blk_cell HK2.out 3).trans (show _ = some _ from rfl)
    go_wp2_with (fail)
    go_loopw [4, 28] (fun s4 s28 wr => ∃ (k : Nat) (acc : List Int), k ≤ l0_3.length ∧ s28 = .int .i64 k ∧ Aside0 (Kd.R (Kd.int .u8) 5 wr w.heap.size (fun _ => True) s4 acc) ∧ Aside0 (Below w.heap.size w wr) ∧ Aside0 (toldAll acc (l0_3.drop k) = some t)) (fun _ s28 _ => l0_3.length - (intOf s28).toNat)
    case atStart => exact ⟨0, b, Nat.zero_le _, rfl, HV, HB2, HT⟩
    case round =>
      obtain ⟨k, acc, hk, rfl, HR, HB, HF⟩ := hrel
      by_cases hlt : k < l0_3.length
      · obtain ⟨ad, Ak, ck, Ax, cx, e, hx0, hx1, hl0, hi0, hl1, hi1⟩ := at_T47 (Kd.C_below R3.out HB.out) k (by omega) (by omega)
        cases e
        rw [Int.toNat_natCast] at hx0 hx1
        have hd : l0_3.drop k = rd_T47 l0_3 (k : Int) :: l0_3.drop (k + 1) := by
          rw [List.drop_eq_getElem_cons hlt]; congr 1; unfold rd_T47; simp [List.getD_eq_getElem?_getD, hlt]
        have hF := HF.out
        rw [hd] at hF
        generalize hv : rd_T47 l0_3 (k : Int) = p at *
        simp only [toldAll] at hF
        obtain ⟨q, hq, hF⟩ := Option.bind_eq_some_iff.mp hF
        have hlen : acc.length + q.length < 140737488355000 := Classical.byContradiction fun hn => by rw [if_neg hn] at hF; cases hF
        rw [if_pos hlen] at hF
        have HQ := Aside0.mk (show putF [] [.txt Ak ck p.f0, .txt Ax cx p.f1] = some q from hq)
        have HF3 := Aside0.mk hF
        have HLn := Aside0.mk hlen
        have I0 := Aside0.mk (And.intro hi0 hl0)
        have I1 := Aside0.mk (And.intro hi1 hl1)
        obtain ⟨A5, c5, rfl⟩ := Kd.R_slice HR.out
        clear hd hq hF hlen hi0 hl0 hi1 hl1 hv HF
        have hlt1 : (k : Int) < (l0_3.length : Int) := by omega
        have hw : wrap64 ((k : Int) + 1) = (k : Int) + 1 := by unfold wrap64; omega
        go_wp2_with (go_at_call 22; (suffices hsuf : Aside0 _ from hsuf.out))
        refine ⟨?_⟩
        as_aux_lemma =>
          have hB' := fun o1 o2 => below_alloc (below_alloc HB.out o1) o2
          refine (put_calls [.txt Ak ck p.f0, .txt Ax cx p.f1] (wr.heap.size + 1) q _ (new_at2 wr _ _) (by simp) ?ok HQ.out).mono ?_
          case ok =>
            intro p' hp
            simp only [List.mem_cons, List.not_mem_nil, or_false] at hp
            rcases hp with rfl | rfl
            · exact ⟨Kd.C_alloc (Kd.C_alloc I0.out.1 _) _, I0.out.2⟩
            · exact ⟨Kd.C_alloc (Kd.C_alloc I1.out.1 _) _, I1.out.2⟩
          rintro e w3 ⟨v3, rfl, hv, hb⟩
          obtain ⟨A6, c6, rfl⟩ := Kd.R_slice hv
          have HC6 := Aside0.mk (Kd.R_reads' hv).2.2
          have HL6 := Aside0.mk (Kd.R_reads' hv).2.1
          have HR3 := Aside0.mk (Kd.R_below (Kd.R_alloc (Kd.R_alloc HR.out _) _) hb)
          have HB3 := Aside0.mk (below_step (hB' _ _) hb)
          clear hv hb hB' hx0 hx1
          go_wp2_with (first | ((with_reducible refine gate_builtin (b := .append) (xs := #[.tmp 32, .tmp 40]) rfl ?_); at_builtin; refine Kd.R_append_rows (Kd.int .u8) (w0 := w) w.heap.size rfl (.tmp 32) (.tmp 40) 22 5 (.int .u8 0) 1 rfl Try.underlying22 info5 rfl (by decide) (by omega) (.slice A5 acc.length c5) acc q _ _ _ (fun _ => True) (fun _ => False) rfl rfl ?aO ?aR (fun _ _ h => h) (fun _ h => h.elim) ?aF ?aB ?aS ?aL ?_; (case aR => exact HC6.out); (case aB => exact HB3.out); (case aF => exact (fun _ _ => trivial)); (case aO => exact HR3.out); (case aS => exact below_size HB3.out); (case aL => have := HLn.out; omega); intro v135 w12 ho hb hg hat; have HV2 := Aside0.mk ho; have HB4 := Aside0.mk hb; clear ho hb hg hat))
          exact ⟨⟨k + 1, _, by omega, by go_num, HV2, HB4, HF3⟩, by simp [intOf]; omega⟩
      · obtain rfl : k = l0_3.length := by omega
        have hlt1 : ¬ ((l0_3.length : Int) < (l0_3.length : Int)) := by omega
        have hF := HF.out
        rw [List.drop_length] at hF
        obtain rfl := Option.some.inj hF
        clear hF HF
        go_wp2
        go_ret2
        exact ⟨_, rfl, HR.out, HB.out⟩
end Go.Proofs.Ytfbjabpjfalmlaa.P
