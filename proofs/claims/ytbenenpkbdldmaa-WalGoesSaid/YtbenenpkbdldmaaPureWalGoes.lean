/- Proved: the law WalGoes of banksmanlaw04 returns true for every input: whatever is appended, synced, and lost in crashes, the texts of a log are the first ones of those that were there. No conditions. -/
import Derived.Test.YtbenenpkbdldmaaLem04b
import Derived.Test.YtbenenpkbdldmaaPx37
namespace Go.Proofs.Ytbenenpkbdldmaa.Pure
open Go.RowKit Go.Proofs.Ytbenenpkbdldmaa.P Go.Proofs.YtbenenpkbdldmaaW.PrintWords Go.Proofs.YtbenenpkbdldmaaW.PrintLast
set_option linter.unusedVariables false
set_option linter.unusedSimpArgs false

theorem goes_j2 (x0 : List (List Int)) (x1 x2 : List Int) (want : List (List Int)) (y i k : Nat) (sy : Int) (hI : Inv want y) (hsy : sy = ((encF (want.take y)).length : Int)) (hw : want.length ≤ 40) (hi : i ≤ 100) (hk : 50 ≤ k)
    (ih : banksmanlaw04_WalGoes.l0 k x0 x1 x2 true want (y : Int) ((i + 1 : Nat) : Int) (encF want) sy = some true) :
    banksmanlaw04_WalGoes.j2 (k + 1) x0 x1 x2 true want (y : Int) (i : Int) (encF want) sy = some true := by
  have hok := hI.ok
  rw [← hsy] at hok
  rw [banksmanlaw04_WalGoes.j2, texts_enc hI.fr hok, Option.bind_some, same_f (by omega) (by omega), Option.bind_some, if_pos rfl, wal_Check_f, Option.bind_some, hok, if_pos rfl, w64 (by omega) (by omega), show (i : Int) + 1 = ((i + 1 : Nat) : Int) by omega]
  exact ih
theorem goes_l0 (x0 : List (List Int)) (x1 x2 : List Int) (hob : ∀ t ∈ x0, okb t = true) : ∀ (d i : Nat) (want : List (List Int)) (y k : Nat) (sy : Int), i + d = 30 → want.length ≤ i → Few want → Inv want y → sy = ((encF (want.take y)).length : Int) → 3 * d + 60 ≤ k →
    banksmanlaw04_WalGoes.l0 k x0 x1 x2 true want (y : Int) (i : Int) (encF want) sy = some true := by
  intro d
  induction d with
  | zero =>
    intro i want y k sy hi hw hT hI hsy hk
    obtain ⟨k, rfl⟩ : ∃ q, k = q + 2 := ⟨k - 2, by omega⟩
    have hj : ∀ b, b = false → banksmanlaw04_WalGoes.j1 (k + 1) x0 x1 x2 true want (y : Int) (i : Int) b (encF want) sy = some true := by
      rintro b rfl
      rw [banksmanlaw04_WalGoes.j1, if_neg (by decide)]
    rw [banksmanlaw04_WalGoes.l0]
    split
    · split
      · exact hj _ (decide_eq_false (by omega))
      · exact hj _ rfl
    · exact hj _ rfl
  | succ d ih =>
    intro i want y k sy hi hw hT hI hsy hk
    obtain ⟨k, rfl⟩ : ∃ q, k = q + 3 := ⟨k - 3, by omega⟩
    have hj : ∀ b, b = false → banksmanlaw04_WalGoes.j1 (k + 2) x0 x1 x2 true want (y : Int) (i : Int) b (encF want) sy = some true := by
      rintro b rfl
      rw [banksmanlaw04_WalGoes.j1, if_neg (by decide)]
    rw [banksmanlaw04_WalGoes.l0]
    by_cases h0 : (i : Int) < (x0.length : Int)
    · rw [if_pos h0]
      by_cases h1 : (i : Int) < (x1.length : Int)
      · rw [if_pos h1, decide_eq_true (by omega), banksmanlaw04_WalGoes.j1, if_pos rfl, if_pos (by omega), if_pos h0]
        have hrt : ∃ t, rd_L1 x0 (i : Int) = t ∧ okb t = true := ⟨_, rfl, by
          have e : rd_L1 x0 (i : Int) = x0[i]'(by omega) := by unfold rd_L1; simp [List.getD_eq_getElem?_getD, show i < x0.length by omega]
          rw [e]
          exact hob _ (List.getElem_mem _)⟩
        obtain ⟨t, hrd, hto⟩ := hrt
        rw [hrd]
        by_cases h3 : (t.length : Int) > 100
        · rw [if_pos h3]
        · rw [if_neg h3, if_pos h1]
          have hok := hI.ok
          rw [← hsy] at hok
          by_cases h4 : (Int.tmod (rd x1 (i : Int)) 4) < 2
          · have hT' : Few (want ++ [t]) := few_snoc hT (by omega) hto
            have hlen := few_len hT'
            have hee : encF (want ++ [t]) = encF want ++ encF [t] := encF_app _ _
            have hl1 : (want ++ [t]).length = want.length + 1 := by simp
            rw [if_pos h4, append_f hok (fun x hx => by rw [List.mem_singleton.mp hx]; exact ⟨by omega, hto⟩) (by rw [← List.length_append, ← hee]; omega), Option.bind_some]
            dsimp only
            rw [if_pos rfl, if_pos (by omega), ← hee]
            have ht : (want ++ [t]).take y = want.take y := List.take_append_of_le_length hI.le
            have hI' : Inv (want ++ [t]) y := ⟨by have := hI.le; omega, hT'.fr, by omega⟩
            have hsy' : sy = ((encF ((want ++ [t]).take y)).length : Int) := by rw [ht]; exact hsy
            exact goes_j2 x0 x1 x2 _ y i k sy hI' hsy' (by omega) (by omega) (by omega) (ih (i + 1) _ y k sy (by omega) (by omega) hT' hI' hsy' (by omega))
          · rw [if_neg h4]
            by_cases h5 : (Int.tmod (rd x1 (i : Int)) 4) = 2
            · rw [if_pos h5, sync_f hok, Option.bind_some]
              dsimp only
              have hI' : Inv want want.length := ⟨Nat.le_refl _, hI.fr, hI.len⟩
              have hsy' : ((encF want).length : Int) = ((encF (want.take want.length)).length : Int) := by rw [List.take_length]
              exact goes_j2 x0 x1 x2 want want.length i k _ hI' hsy' (by omega) (by omega) (by omega) (ih (i + 1) want want.length k _ (by omega) (by omega) hT hI' hsy' (by omega))
            · rw [if_neg h5]
              by_cases h6 : (i : Int) < (x2.length : Int)
              · obtain ⟨m, b, s, hm1, hm2, hc, ht⟩ := crash_trim hI (wrap64 (rd x2 (i : Int)))
                rw [← hsy] at hc
                have hI' := hI.take hm2
                have hml : (want.take m).length = m := by rw [List.length_take]; omega
                have hsy' : ((encF (want.take m)).length : Int) = ((encF ((want.take m).take m)).length : Int) := by rw [List.take_take, Nat.min_self]
                have hok' := hI'.ok
                rw [← hsy'] at hok'
                rw [if_pos h6, hc, Option.bind_some]
                dsimp only
                rw [ht, Option.bind_some]
                dsimp only
                rw [texts_enc hI'.fr hok', Option.bind_some, hml, if_neg (by omega), if_neg (by omega), if_pos (by omega), if_pos (by omega), Int.toNat_natCast]
                exact goes_j2 x0 x1 x2 _ m i k _ hI' hsy' (by omega) (by omega) (by omega) (ih (i + 1) _ m k _ (by omega) (by omega) (fun x hx => hT x (List.mem_of_mem_take hx)) hI' hsy' (by omega))
              · rw [if_neg h6]
                exact goes_j2 x0 x1 x2 _ y i k sy hI hsy (by omega) (by omega) (by omega) (ih (i + 1) _ y k sy (by omega) (by omega) hT hI hsy (by omega))
      · rw [if_neg h1]; exact hj _ rfl
    · rw [if_neg h0]; exact hj _ rfl
theorem WalGoes : banksmanlaw04_WalGoes.Pure := by
  intro xs k1 k2 hx h1 h2
  refine ⟨200, ?_⟩
  unfold banksmanlaw04_WalGoes.f
  rw [banksmanlaw04_awake.settled, Option.bind_some]
  have := goes_l0 xs k1 k2 (fun t ht => okb_of (hx.2 t ht).2) 30 0 [] 0 200 0 (by omega) (by simp) (fun t ht => by simp at ht) ⟨Nat.le_refl _, fun t ht => by simp at ht, by simp [encF]⟩ (by simp [encF]) (by omega)
  simpa [encF] using this
end Go.Proofs.Ytbenenpkbdldmaa.Pure
