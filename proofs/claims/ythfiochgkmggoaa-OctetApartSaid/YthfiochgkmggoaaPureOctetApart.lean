/- Proved: the law OctetApart of banksmanlaw01 returns true for every input: no number's bytes begin with another one's. No conditions. -/
import Derived.Test.YthfiochgkmggoaaLem01b
import Derived.Test.YthfiochgkmggoaaPx22
namespace Go.Proofs.Ythfiochgkmggoaa.Pure
open Go.RowKit Go.Proofs.Ythfiochgkmggoaa.P Go.Proofs.YthfiochgkmggoaaW.PrintWords Go.Proofs.YthfiochgkmggoaaW.PrintLast
set_option linter.unusedVariables false
set_option linter.unusedSimpArgs false

theorem low31 {n : Int} (h : (Lit.int .u32 n).wf = true) : wrap64 (Int.tmod n 2147483648) = n % 2147483648 ∧ Int.tmod n 2147483648 = n % 2147483648 ∧ 0 ≤ n % 2147483648 ∧ n % 2147483648 ≤ 2147483647 := by
  have h1 := wf_u32 h
  have e : Int.tmod n 2147483648 = n % 2147483648 := Int.tmod_eq_emod_of_nonneg h1.1
  rw [e]
  exact ⟨w64 (by omega) (by omega), rfl, by omega, by omega⟩
theorem oct_prefix {a b : Int} (a0 : 0 ≤ a) (a1 : a ≤ 2147483647) (b0 : 0 ≤ b) (b1 : b ≤ 2147483647) {i : Nat} (hi : (octBytes 5 a).length ≤ i) (h : (octBytes 5 a).take i = (octBytes 5 b).take i) : a = b := by
  rw [List.take_of_length_le hi] at h
  have h1 := take_octBytes b0 b1 []
  have h2 := List.take_append_drop i (octBytes 5 b)
  rw [← h] at h2
  rw [List.append_nil, ← h2, take_octBytes a0 a1] at h1
  exact (Prod.mk.inj (Option.some.inj h1)).1
theorem OctetApart : banksmanlaw01_OctetApart.Pure := by
  intro a b ha hb
  obtain ⟨ea, ea', a0, a1⟩ := low31 ha
  obtain ⟨eb, eb', b0, b1⟩ := low31 hb
  unfold banksmanlaw01_OctetApart.f
  rw [banksmanlaw01_awake.settled, Option.bind_some, ea, eb, ea', eb', number_f (by simp), Option.bind_some, number_f (by simp), Option.bind_some]
  generalize a % 2147483648 = p at *
  generalize b % 2147483648 = q at *
  have e1 : numP [] p = (octBytes 5 p, 0) := by unfold numP; rw [if_neg (by omega), List.nil_append]
  have e2 : numP [] q = (octBytes 5 q, 0) := by unfold numP; rw [if_neg (by omega), List.nil_append]
  rw [e1, e2]
  have l1 : 1 ≤ (octBytes 5 p).length := octBytes_pos
  have l2 : 1 ≤ (octBytes 5 q).length := octBytes_pos
  have hmn : mn ((octBytes 5 p).length : Int) ((octBytes 5 q).length : Int) = ((min (octBytes 5 p).length (octBytes 5 q).length : Nat) : Int) := by unfold mn; split <;> omega
  simp only [if_true]
  rw [hmn, if_pos (by omega), if_pos (by omega), if_pos (by omega), if_pos (by omega), Int.toNat_natCast]
  congr 1
  by_cases h : p = q
  · subst h
    simp
  · have hq : (p == q) = false := beq_eq_false_iff_ne.mpr h
    have hne : ((strOfNums ((octBytes 5 p).take (min (octBytes 5 p).length (octBytes 5 q).length))).toList == (strOfNums ((octBytes 5 q).take (min (octBytes 5 p).length (octBytes 5 q).length))).toList) = false := beq_eq_false_iff_ne.mpr fun hs => by
      have he := str_inj (okb_take (octBytes_ok 5 a0) _) (okb_take (octBytes_ok 5 b0) _) hs
      by_cases hl : (octBytes 5 p).length ≤ (octBytes 5 q).length
      · exact h (oct_prefix a0 a1 b0 b1 (by omega) he)
      · exact h (oct_prefix b0 b1 a0 a1 (by omega) he.symm).symm
    rw [hne, hq]
    rfl
end Go.Proofs.Ythfiochgkmggoaa.Pure
