/- Proved: the law SpanOn of banksmanlaw10 returns true for every input: covering goes on, what meets a span meets what covers it, and a span that is not empty meets itself, and what it covers, that is not, either. No conditions. -/
import Derived.Test.YtomlhapehldlnaaLem10
import Derived.Test.YtomlhapehldlnaaPx55
namespace Go.Proofs.Ytomlhapehldlnaa.Pure
open Go.RowKit Go.Proofs.Ytomlhapehldlnaa.P Go.Proofs.YtomlhapehldlnaaW.PrintWords Go.Proofs.YtomlhapehldlnaaW.PrintLast
set_option linter.unusedVariables false
set_option linter.unusedSimpArgs false
theorem on_j2 (k : Nat) (a b : S24) : banksmanlaw10_SpanOn.j2 (k + 1) true true true a.f0 a.f1 a.f2 a.f3 b.f0 b.f1 b.f2 b.f3 = some true := by
  rw [banksmanlaw10_SpanOn.j2]
  rw [Meets_f, span_Empty_f, span_Covers_f, span_Empty_f, Meets_f, meets_self]
  simp only [Option.bind_some]
  cases hc : coversB a b with
  | false => simp
  | true =>
    cases he : emptyB b with
    | true => simp
    | false => rw [covers_under hc he]; simp
theorem on_j1 (k : Nat) (a b c : S24) : banksmanlaw10_SpanOn.j1 (k + 2) true true a.f0 a.f1 a.f2 a.f3 b.f0 b.f1 b.f2 b.f3 c.f0 c.f1 c.f2 c.f3 = some true := by
  rw [banksmanlaw10_SpanOn.j1]
  rw [span_Covers_f, Meets_f, Meets_f]
  simp only [Option.bind_some]
  cases hc : coversB a b with
  | false => simp [on_j2]
  | true =>
    cases hm : meetsB b c with
    | false => simp [on_j2]
    | true => rw [covers_meets hc hm]; simp [on_j2]
theorem on_j0 (k : Nat) (x : Bool) (a b c : S24) : banksmanlaw10_SpanOn.j0 (k + 3) true x a.f0 a.f1 a.f2 a.f3 b.f0 b.f1 b.f2 b.f3 c.f0 c.f1 c.f2 c.f3 = some true := by
  rw [banksmanlaw10_SpanOn.j0]
  cases x with
  | true => rfl
  | false =>
    rw [span_Covers_f, span_Covers_f, span_Covers_f]
    simp only [Option.bind_some]
    cases hc : coversB a b with
    | false => simp [on_j1]
    | true =>
      cases hm : coversB b c with
      | false => simp [on_j1]
      | true => rw [covers_trans hc hm]; simp [on_j1]
theorem short_f (a : S24) : ∃ r, banksmanlaw10_short.f a.f0 a.f1 a.f2 a.f3 = some r := by
  unfold banksmanlaw10_short.f
  split <;> exact ⟨_, rfl⟩
theorem SpanOn : banksmanlaw10_SpanOn.Pure := by
  intro a0 a1 a2 a3 b0 b1 b2 b3 c0 c1 c2 c3 _ _ _ _ _ _ _ _ _
  refine ⟨3, ?_⟩
  unfold banksmanlaw10_SpanOn.f
  have ha := short_f ⟨a0, a1, a2, a3⟩
  have hb := short_f ⟨b0, b1, b2, b3⟩
  have hc := short_f ⟨c0, c1, c2, c3⟩
  obtain ⟨ra, ha⟩ := ha
  obtain ⟨rb, hb⟩ := hb
  obtain ⟨rc, hc⟩ := hc
  simp only at ha hb hc
  rw [awake_f, ha, hb, hc]
  simp only [Option.bind_some]
  have h := fun x => on_j0 0 x ⟨a0, a1, a2, a3⟩ ⟨b0, b1, b2, b3⟩ ⟨c0, c1, c2, c3⟩
  simp only [Nat.zero_add] at h
  cases ra <;> cases rb <;> simp [h]
end Go.Proofs.Ytomlhapehldlnaa.Pure
