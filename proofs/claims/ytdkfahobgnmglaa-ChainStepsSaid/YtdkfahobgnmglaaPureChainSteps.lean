/- Proved: the law ChainSteps of banksmanlaw05 returns true for every input: a read at a sequence is the read at the last version's own. No conditions. -/
import Derived.Test.YtdkfahobgnmglaaLemRef05
import Derived.Test.YtdkfahobgnmglaaPx31
namespace Go.Proofs.Ytdkfahobgnmglaa.Pure
open Go.RowKit Go.Proofs.Ytdkfahobgnmglaa.P Go.Proofs.YtdkfahobgnmglaaW.PrintWords Go.Proofs.YtdkfahobgnmglaaW.PrintLast
set_option linter.unusedVariables false

/-- What is asked behind the law's own loop. -/
def stepsEnd (k : Nat) (l : List S25) (s : Int) (x5 : Bool) (x6 : List Int) (x7 : Bool) (x8 : Int) : Option Bool :=
  if (l.length : Int) > 0 then (if 0 ≤ (wrap64 ((l.length : Int) - 1)) then (if (wrap64 ((l.length : Int) - 1)) < (l.length : Int) then (banksmanlaw05_ChainSteps.j2 k l s x5 x6 x7 x8 (decide (((rd_T25 l (wrap64 ((l.length : Int) - 1))).f0) > s))) else (none)) else (none)) else (banksmanlaw05_ChainSteps.j2 k l s x5 x6 x7 x8 false)
theorem steps_l0 (l : List S25) (s : Int) (x5 : Bool) (x6 : List Int) (x7 : Bool) (hl : l.length ≤ 1000) : ∀ (n k i : Nat) (b : Int), l.length - i = n → i ≤ l.length →
    banksmanlaw05_ChainSteps.l0 (k + n + 1) l s x5 x6 x7 b (i : Int) = stepsEnd k l s x5 x6 x7 (atR s (l.drop i) i b) := by
  intro n
  induction n with
  | zero =>
    intro k i b hn hi
    rw [Nat.add_zero, banksmanlaw05_ChainSteps.l0, if_neg (by omega), List.drop_of_length_le (by omega)]
    rfl
  | succ n ih =>
    intro k i b hn hi
    have hlt : i < l.length := by omega
    have e : wrap64 ((i : Int) + 1) = ((i + 1 : Nat) : Int) := by rw [w64 (by omega) (by omega)]; omega
    have e2 : ((i + 1 : Nat) : Int) = (i : Int) + 1 := by omega
    have e3 : k + (n + 1) = k + n + 1 := by omega
    rw [e3, banksmanlaw05_ChainSteps.l0, if_pos (by omega), if_pos (by omega), rdT hlt, drop_at hlt, e]
    show _ = stepsEnd k l s x5 x6 x7 (atR s (l.drop (i + 1)) ((i : Int) + 1) (if (l[i]).f0 ≤ s then (i : Int) else b))
    by_cases h : (l[i]).f0 ≤ s
    · rw [if_pos h, if_pos h, ih k (i + 1) i (by omega) (by omega), e2]
    · rw [if_neg h, if_neg h, ih k (i + 1) b (by omega) (by omega), e2]
theorem newr_last {l : List S25} (s : Int) (h : chk 0 l = true) (hp : 0 < l.length) : newr l s = decide (lastf 0 l > s) := by
  rw [newr_is s h]
  obtain ⟨A, B, e, hA, hB, hle, hgt, -, -⟩ := cut s h
  rw [hB]
  cases B with
  | nil =>
    rw [List.append_nil] at e
    rcases List.eq_nil_or_concat A with eA | ⟨A', a, eA⟩
    · rw [e, eA] at hp; simp at hp
    · rw [List.concat_eq_append] at eA
      have := hle a (by rw [eA]; simp)
      rw [decide_eq_false (by rw [e, eA, lastf_snoc]; omega)]; rfl
  | cons x t =>
    have h2 := hgt x (by simp)
    have h3 := mem_le_last h (x := x) (by rw [e]; simp)
    rw [decide_eq_true (by omega)]; rfl
theorem ChainSteps : banksmanlaw05_ChainSteps.Pure := by
  intro l s hl hs
  refine ⟨2000 + l.length + 2, ?_⟩
  unfold banksmanlaw05_ChainSteps.f
  rw [awake_f (by omega), Option.bind_some]
  by_cases h1 : (l.length : Int) > 100
  · rw [if_pos h1]; simp only [banksmanlaw05_ChainSteps.j0]; rfl
  rw [if_neg h1, check_f (by omega) (by omega), Option.bind_some]
  simp only [banksmanlaw05_ChainSteps.j0]
  cases hch : chk 0 l with
  | false => rfl
  | true =>
    have hsm := chk_small hch (by omega)
    have h0 := steps_l0 l s true (rdp l s).1 (rdp l s).2 (by omega) l.length 2000 0 (-1) (by omega) (by omega)
    rw [List.drop_zero] at h0
    have h0' : banksmanlaw05_ChainSteps.l0 (2000 + l.length + 1) l s true (rdp l s).1 (rdp l s).2 (-1) 0 = stepsEnd 2000 l s true (rdp l s).1 (rdp l s).2 (atR s l 0 (-1)) := h0
    rw [if_neg (by decide), read_f hsm (by omega), Option.bind_some, h0', at_chk s hch]
    have hj : ∀ b, b = newr l s → banksmanlaw05_ChainSteps.j2 2000 l s true (rdp l s).1 (rdp l s).2 (((tw l s).length : Int) - 1) b = some true := by
      intro b hb
      simp only [banksmanlaw05_ChainSteps.j2, if_true]
      have hle := tw_len l s
      by_cases hp : 0 < (tw l s).length
      · obtain ⟨A', a, e, hg, hi, _, _⟩ := tw_last (l := l) (s := s) hp
        have e1 : ((tw l s).length : Int) - 1 = (((tw l s).length - 1 : Nat) : Int) := by omega
        have hlt : (tw l s).length - 1 < l.length := by omega
        have e2 : rd_T25 l (((tw l s).length - 1 : Nat) : Int) = a := by rw [rdT hlt]; rw [List.getElem?_eq_getElem hlt] at hi; exact Option.some.inj hi
        have has : a.f0 ≤ s := tw_le (l := l) (by rw [e]; simp)
        have etw : tw l a.f0 = tw l s := by
          obtain ⟨A, B, eAB, hA, hB, hle2, hgt2, hcA, hcB⟩ := cut s hch
          have hl2 : ∀ x ∈ A, x.f0 ≤ a.f0 := by
            intro x hx
            have := mem_le_last hcA hx
            rw [← hA, e, lastf_snoc] at this
            exact this
          have := (cutB (A := A) (B := B) (s := a.f0) hl2 (fun x t hx => by have := hgt2 x (by rw [hx]; simp); omega)).1
          rw [← eAB] at this
          rw [this, hA]
        have er : rdp l a.f0 = rdp l s := by rw [rdp_is _ hch, rdp_is _ hch, etw]
        rw [if_neg (by omega), e1, if_pos (by omega), if_pos (by omega), e2, read_f hsm (by omega), Option.bind_some, er, if_pos (by simp), newer_f hsm (by omega), Option.bind_some, hb, rdp_is s hch, hg]
        cases hf : a.f1 <;> simp [hf]
      · have et : tw l s = [] := List.eq_nil_of_length_eq_zero (by omega)
        have er : rdp l s = ([], false) := by rw [rdp_is s hch, et]; rfl
        rw [if_pos (by omega), er, newer_f hsm (by omega), hb]
        simp
    unfold stepsEnd
    by_cases hp : (l.length : Int) > 0
    · have e1 : wrap64 ((l.length : Int) - 1) = ((l.length - 1 : Nat) : Int) := by rw [w64 (by omega) (by omega)]; omega
      rw [if_pos hp, e1, if_pos (by omega), if_pos (by omega), last_rd (by omega)]
      exact hj _ (newr_last s hch (by omega)).symm
    · have : l = [] := List.eq_nil_of_length_eq_zero (by omega)
      rw [if_neg hp]
      refine hj _ ?_
      rw [this]; rfl
end Go.Proofs.Ytdkfahobgnmglaa.Pure
