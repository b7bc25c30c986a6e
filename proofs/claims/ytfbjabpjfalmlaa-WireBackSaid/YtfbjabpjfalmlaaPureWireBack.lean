/- Proved: the law WireBack of banksmanlaw21 returns true for every input: what wire.Write and Told make is read back. No conditions. -/
import Derived.Test.YtfbjabpjfalmlaaLemW21
import Derived.Test.YtfbjabpjfalmlaaLem21e
import Derived.Test.YtfbjabpjfalmlaaPx51
namespace Go.Proofs.Ytfbjabpjfalmlaa.Pure
open Go.RowKit Go.Proofs.Ytfbjabpjfalmlaa.P Go.Proofs.YtfbjabpjfalmlaaW.PrintWords Go.Proofs.YtfbjabpjfalmlaaW.PrintLast
set_option linter.unusedVariables false
set_option linter.unusedSimpArgs false

theorem okP_of {ps : List S47} (h : ∀ x ∈ ps, (fun x_ : S47 => (fun xs_ : List Int => xs_.length ≤ maxLen ∧ ∀ x ∈ xs_, (fun n_ : Int => (Lit.int .u8 n_).wf = true) x) x_.f0 ∧ (fun xs_ : List Int => xs_.length ≤ maxLen ∧ ∀ x ∈ xs_, (fun n_ : Int => (Lit.int .u8 n_).wf = true) x) x_.f1) x) : OkP ps := fun p hp => ⟨okb_of (h p hp).1.2, okb_of (h p hp).2.2⟩
theorem WireBack : banksmanlaw21_WireBack.Pure := by
  intro s kd tb k hi o v n e f rv ps rest _ _ _ hk hh hv _ _ hrv hps hrest
  have okk := okb_of hk.2; have okh := okb_of hh.2; have okv := okb_of hv.2; have okrv := okb_of hrv.2; have okr := okb_of hrest.2; have okps := okP_of hps.2
  refine ⟨300, ?_⟩
  unfold banksmanlaw21_WireBack.f
  rw [awake_f, Option.bind_some]
  have hlast : ∀ x3 kd tb k hi o v n e f rv ps, banksmanlaw21_WireBack.j0 300 s x3 true true kd tb k hi o v n e f rv ps = some true := fun x3 kd tb k hi o v n e f rv ps => by
    rw [banksmanlaw21_WireBack.j0, if_pos rfl]
  obtain ⟨b, e1, hb⟩ := small_f kd tb k hi o v n
  rw [e1, Option.bind_some]
  cases b with
  | false => rw [if_neg (by decide)]; exact hlast _ _ _ _ _ _ _ _ _ _ _ _
  | true =>
    rw [if_pos rfl]
    obtain ⟨b1, b2, b3⟩ := hb rfl
    obtain ⟨b, e1, hb⟩ := few_f (k := 300) (by omega) e f rv ps
    rw [e1, Option.bind_some]
    cases b with
    | false => rw [if_neg (by decide)]; exact hlast _ _ _ _ _ _ _ _ _ _ _ _
    | true =>
      rw [if_pos rfl]
      obtain ⟨b4, b5⟩ := hb rfl
      by_cases c : (rest.length : Int) > 100
      · rw [decide_eq_true c]; exact hlast _ _ _ _ _ _ _ _ _ _ _ _
      have hj1 : banksmanlaw21_WireBack.j1 299 rest true false e f rv ps = some true := by
        rw [banksmanlaw21_WireBack.j1, if_neg (by decide), wire_Told_f, Option.bind_some]
        by_cases hm : replyB e f rv.length ps = true
        · have hl := tellBytes_len hm
          obtain ⟨h0, _, _, h3, _⟩ := replyB_b hm
          have okt := tellBytes_ok (f := f) h0 okrv okps
          have okw := okb_app okt okr
          rw [if_pos hm]
          simp only [Option.bind_some, List.length_nil, List.nil_append]
          rw [if_pos (by omega), if_pos (by omega), wire_Tell_back okw (by simp; omega) ⟨hm, rfl, okrv, okps⟩]
          simp only [Option.bind_some]
          obtain ⟨c, e2, hc⟩ := replies_f (k := 298) e f rv ps e f rv ps (by omega) (by omega)
          rw [e2, hc rfl rfl rfl rfl]
          simp
        · rw [if_neg hm]
          simp only [Option.bind_some, List.length_nil, List.nil_append]
          rw [if_pos (by omega), if_pos (by omega)]
          have : ∃ r, wire_Tell.f rest = some r := by
            rcases wire_Tell_f okr (by omega) with h | ⟨_, _, _, _, _, _, h⟩ <;> exact ⟨_, h⟩
          obtain ⟨r, hr⟩ := this
          rw [hr, Option.bind_some]
          obtain ⟨c, e2, hc⟩ := replies_f (k := 298) e f rv ps r.1 r.2.1 r.2.2.1 r.2.2.2.1 (by omega) (by omega)
          rw [e2, Option.bind_some]
          simp
      rw [decide_eq_false c, banksmanlaw21_WireBack.j0, if_neg (by decide)]
      rw [wire_Write_f s kd tb k hi o v n (by omega) (by omega) (by omega), Option.bind_some]
      by_cases hm : mayB s kd tb k.length hi.length o v.length n = true
      · rw [if_pos hm]
        simp only
        rw [wire_Read_back ⟨hm, rfl, okk, okh, okv⟩, Option.bind_some]
        simp only
        rw [ops_self, Option.bind_some, hj1]
        simp
      · rw [if_neg hm]
        simp only
        have hno : ∀ s kd tb k hi o v n, ¬ IsOp [] s kd tb k hi o v n := by
          intro s kd tb k hi o v n h
          have := congrArg List.length h.eq
          unfold opBytes oB at this
          have h5 : 1 ≤ (octBytes 5 s).length := octBytes_pos (j := 4) (n := s)
          simp only [List.length_append, List.length_nil] at this
          omega
        rw [wire_Read_not rfl (by decide) hno, Option.bind_some]
        simp only
        obtain ⟨t, ht⟩ := ops_some kd tb k hi o v n 0 0 [] [] false [] 0
        rw [ht, Option.bind_some]
        rw [if_neg (by decide), if_neg (by simp)]
        exact hj1
end Go.Proofs.Ytfbjabpjfalmlaa.Pure
