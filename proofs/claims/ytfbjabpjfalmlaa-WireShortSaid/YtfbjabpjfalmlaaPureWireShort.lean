/- Proved: the law WireShort of banksmanlaw21 returns true for every input: the texts are short, and two operations are told alike only if they are the same. No conditions. -/
import Derived.Test.YtfbjabpjfalmlaaLemW21
import Derived.Test.YtfbjabpjfalmlaaLem21e
import Derived.Test.YtfbjabpjfalmlaaPx53
namespace Go.Proofs.Ytfbjabpjfalmlaa.Pure
open Go.RowKit Go.Proofs.Ytfbjabpjfalmlaa.P Go.Proofs.YtfbjabpjfalmlaaW.PrintWords Go.Proofs.YtfbjabpjfalmlaaW.PrintLast
set_option linter.unusedVariables false
set_option linter.unusedSimpArgs false

theorem WireShort : banksmanlaw21_WireShort.Pure := by
  intro s kd tb k hi o v n kd2 tb2 k2 hi2 o2 v2 n2 e f rv ps _ _ _ hk hh hv _ _ _ hk2 hh2 hv2 _ _ hrv hps
  have okk := okb_of hk.2; have okh := okb_of hh.2; have okv := okb_of hv.2
  have okk2 := okb_of hk2.2; have okh2 := okb_of hh2.2; have okv2 := okb_of hv2.2
  refine ⟨300, ?_⟩
  unfold banksmanlaw21_WireShort.f
  rw [awake_f, Option.bind_some]
  have hlast : banksmanlaw21_WireShort.j0 300 s true true kd tb k hi o v n kd2 tb2 k2 hi2 o2 v2 n2 e f rv ps = some true := by
    rw [banksmanlaw21_WireShort.j0, if_pos rfl]
  obtain ⟨b, e1, hb⟩ := small_f kd tb k hi o v n
  rw [e1, Option.bind_some]
  cases b with
  | false => rw [if_neg (by decide)]; exact hlast
  | true =>
    rw [if_pos rfl]
    obtain ⟨b1, b2, b3⟩ := hb rfl
    obtain ⟨b, e1, hb⟩ := small_f kd2 tb2 k2 hi2 o2 v2 n2
    rw [e1, Option.bind_some]
    cases b with
    | false => rw [if_neg (by decide)]; exact hlast
    | true =>
      rw [if_pos rfl]
      obtain ⟨b6, b7, b8⟩ := hb rfl
      obtain ⟨b, e1, hb⟩ := few_f (k := 300) (by omega) e f rv ps
      rw [e1, Option.bind_some]
      cases b with
      | false => exact hlast
      | true =>
        obtain ⟨b4, b5⟩ := hb rfl
        rw [Bool.not_true, banksmanlaw21_WireShort.j0, if_neg (by decide)]
        rw [wire_Write_f s kd tb k hi o v n (by omega) (by omega) (by omega), Option.bind_some, wire_Write_f s kd2 tb2 k2 hi2 o2 v2 n2 (by omega) (by omega) (by omega), Option.bind_some, wire_Told_f, Option.bind_some]
        obtain ⟨t, ht⟩ := ops_some kd tb k hi o v n kd2 tb2 k2 hi2 o2 v2 n2
        rw [ht, Option.bind_some]
        have htold : (if (if replyB e f rv.length ps = true then (tellBytes e f rv ps, (0 : Int)) else ([], 210)).2 = 0 then some (decide (((if replyB e f rv.length ps = true then (tellBytes e f rv ps, (0 : Int)) else ([], 210)).1.length : Int) ≤ wrap64 (60 * wrap64 ((ps.length : Int) + 1)))) else some true) = some true := by
          by_cases hr : replyB e f rv.length ps = true
          · rw [if_pos hr]
            have hl := tellBytes_len hr
            simp only [if_true]
            rw [w64 (x := (ps.length : Int) + 1) (by omega) (by omega), w64 (by omega) (by omega), decide_eq_true (by omega)]
          · rw [if_neg hr]; rfl
        have hlen : ((if mayB s kd tb k.length hi.length o v.length n = true then (opBytes s kd tb k hi o v n, (0 : Int)) else ([], 210)).1.length : Int) ≤ 100 := by
          by_cases hm : mayB s kd tb k.length hi.length o v.length n = true
          · rw [if_pos hm]; have := opBytes_len hm; simp only; omega
          · rw [if_neg hm]; decide
        simp only [htold, eq_true hlen, if_true]
        have hsame : mayB s kd tb k.length hi.length o v.length n = true → mayB s kd2 tb2 k2.length hi2.length o2 v2.length n2 = true → ((strOfNums (opBytes s kd tb k hi o v n)).toList == (strOfNums (opBytes s kd2 tb2 k2 hi2 o2 v2 n2)).toList) = t := by
          intro hm hm2
          rw [Bool.eq_iff_iff, beq_iff_eq]
          constructor
          · intro h
            have h2 := str_inj (opBytes_ok hm okk okh okv) (opBytes_ok hm2 okk2 okh2 okv2) h
            have r1 := wire_Read_back (l := opBytes s kd tb k hi o v n) ⟨hm, rfl, okk, okh, okv⟩
            rw [wire_Read_back (l := opBytes s kd tb k hi o v n) ⟨hm2, h2, okk2, okh2, okv2⟩] at r1
            simp only [Option.some.injEq, Prod.mk.injEq] at r1
            obtain ⟨_, rfl, rfl, rfl, rfl, rfl, rfl, rfl, _⟩ := r1
            rw [ops_self] at ht
            simpa using ht.symm
          · intro h
            subst h
            obtain ⟨rfl, rfl, rfl, rfl, rfl, rfl, rfl⟩ := ops_true okk okh okv okk2 okh2 okv2 ht
            rfl
        by_cases hm : mayB s kd tb k.length hi.length o v.length n = true
        · rw [if_pos hm]
          by_cases hm2 : mayB s kd2 tb2 k2.length hi2.length o2 v2.length n2 = true
          · rw [if_pos hm2]
            simp only [if_true]
            rw [hsame hm hm2]
            simp
          · rw [if_neg hm2]
            simp
        · rw [if_neg hm]
          simp
end Go.Proofs.Ytfbjabpjfalmlaa.Pure
