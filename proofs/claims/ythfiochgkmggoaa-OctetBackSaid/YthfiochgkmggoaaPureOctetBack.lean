/- Proved: the law OctetBack of banksmanlaw01 returns true for every input: numbers, and texts, are read as they were written, and what is read is written so. No conditions. -/
import Derived.Test.YthfiochgkmggoaaLem01b
import Derived.Test.YthfiochgkmggoaaPx21
namespace Go.Proofs.Ythfiochgkmggoaa.Pure
open Go.RowKit Go.Proofs.Ythfiochgkmggoaa.P Go.Proofs.YthfiochgkmggoaaW.PrintWords Go.Proofs.YthfiochgkmggoaaW.PrintLast
set_option linter.unusedVariables false
set_option linter.unusedSimpArgs false

theorem OctetBack : banksmanlaw01_OctetBack.Pure := by
  intro a t u ha _ ht hwt _ hu hwu
  have hbt := okb_of hwt
  have hbu := okb_of hwu
  have ha := wf_u32 ha
  have em : Int.tmod a 2147483648 = a % 2147483648 := Int.tmod_eq_emod_of_nonneg ha.1
  have z0 : 0 ≤ a % 2147483648 := by omega
  have z1 : a % 2147483648 ≤ 2147483647 := by omega
  refine ⟨10, ?_⟩
  unfold banksmanlaw01_OctetBack.f
  rw [banksmanlaw01_awake.settled, Option.bind_some, em, w64 (by omega) (by omega)]
  generalize a % 2147483648 = z at *
  by_cases h : (t.length : Int) > 300
  · rw [if_pos h]
    simp only [banksmanlaw01_OctetBack.j0, if_true]
  rw [if_neg h]
  by_cases h2 : (u.length : Int) > 300
  · rw [decide_eq_true h2]
    simp only [banksmanlaw01_OctetBack.j0, if_true]
  rw [decide_eq_false h2]
  simp only [banksmanlaw01_OctetBack.j0]
  have e1 : numP [] z = (octBytes 5 z, 0) := by unfold numP; rw [if_neg (by omega), List.nil_append]
  have lz := octBytes_len 5 z
  have lt := octBytes_len 5 (t.length : Int)
  have e2 : textP (octBytes 5 z) t = (octBytes 5 z ++ octBytes 5 t.length ++ t, 0) := by unfold textP; rw [if_neg (by omega)]
  have e3 : octBytes 5 z ++ octBytes 5 (t.length : Int) ++ t ++ u = octBytes 5 z ++ (octBytes 5 (t.length : Int) ++ t ++ u) := by simp
  have ho : okb (octBytes 5 (t.length : Int) ++ t ++ u) = true := okb_app (okb_app (octBytes_ok 5 (by omega)) hbt) hbu
  rw [if_neg (by decide), number_f (by simp), Option.bind_some, e1]
  simp only
  rw [text_f (by omega), Option.bind_some, e2]
  simp only [Option.bind_some, List.nil_append]
  rw [if_pos (by simp; omega), if_pos (by simp; omega), e3, take_f (okb_app (octBytes_ok 5 z0) ho) (by simp; omega), Option.bind_some, take_octBytes z0 z1]
  simp only [takeRes]
  rw [takeText_f ho (by simp; omega), tt_text (by omega), Option.bind_some]
  simp only
  rw [take_f hbu (by omega), Option.bind_some]
  cases hT : takeR u 0 0 with
  | none =>
    simp only [takeRes]
    rw [number_f (by simp), Option.bind_some, size_f, Option.bind_some, e1]
    simp
  | some p =>
    obtain ⟨n, r⟩ := p
    obtain ⟨n0, n1, hu2⟩ := takeR_some hbu hT
    have e4 : numP [] n = (octBytes 5 n, 0) := by unfold numP; rw [if_neg (by omega), List.nil_append]
    have hlen := congrArg List.length hu2
    rw [List.length_append] at hlen
    have e5 : u.take ((octBytes 5 n).length : Int).toNat = octBytes 5 n := by
      rw [Int.toNat_natCast]
      conv => lhs; rw [hu2]
      simp
    simp only [takeRes]
    rw [number_f (by simp), Option.bind_some, e4]
    simp only
    rw [if_pos trivial, if_pos trivial, if_pos (by omega), if_pos (by omega), size_f, Option.bind_some, e1, e5]
    simp
end Go.Proofs.Ythfiochgkmggoaa.Pure
