/- Proved: the law WalCrashes of banksmanlaw04 returns true for every input: behind a crash, at whatever place, the texts are the first ones, and all that were synced. No conditions. -/
import Derived.Test.YtbenenpkbdldmaaLemW04
import Derived.Test.YtbenenpkbdldmaaPx34
namespace Go.Proofs.Ytbenenpkbdldmaa.Pure
open Go.RowKit Go.Proofs.Ytbenenpkbdldmaa.P Go.Proofs.YtbenenpkbdldmaaW.PrintWords Go.Proofs.YtbenenpkbdldmaaW.PrintLast
set_option linter.unusedVariables false
set_option linter.unusedSimpArgs false

theorem crashes_j2 (ts : List (List Int)) (keep : Int) (more : List Int) (y k : Nat) (sy : Int) (hT : Few ts) (hts : ts.length ≤ 20) (hm : more.length ≤ 300) (hmo : okb more = true) (hI : Inv ts y) (hsy : sy = ((encF (ts.take y)).length : Int)) (hk : 60 ≤ k) :
    banksmanlaw04_WalCrashes.j2 k ts keep more true (y : Int) (encF ts) sy = some true := by
  obtain ⟨k, rfl⟩ : ∃ q, k = q + 2 := ⟨k - 2, by omega⟩
  obtain ⟨m, b, s, hm1, hm2, hc, ht⟩ := crash_trim hI keep
  rw [← hsy] at hc
  have hI' := hI.take hm2
  have hml : (ts.take m).length = m := by rw [List.length_take]; omega
  have hcut : (ts.take m).take m = ts.take m := by rw [List.take_take, Nat.min_self]
  have hok' := hI'.ok
  rw [hcut] at hok'
  have hT' : Few (ts.take m) := fun x hx => hT x (List.mem_of_mem_take hx)
  have hT2 : Few (ts.take m ++ [more]) := few_snoc hT' hm hmo
  have hlen2 := few_len hT2
  have hl2 : (ts.take m ++ [more]).length = m + 1 := by rw [List.length_append, hml]; rfl
  have hee : encF (ts.take m ++ [more]) = encF (ts.take m) ++ encF [more] := encF_app _ _
  have hI2 : Inv (ts.take m ++ [more]) m := ⟨by omega, hT2.fr, by omega⟩
  have ht2 : (ts.take m ++ [more]).take m = ts.take m := by rw [List.take_append_of_le_length (by omega), hcut]
  have hok2 := hI2.ok
  rw [ht2] at hok2
  have happ : wal_Append.f (encF (ts.take m)) ((encF (ts.take m)).length : Int) [more] = some (encF (ts.take m ++ [more]), ((encF (ts.take m)).length : Int), 0) := by
    rw [append_f hok' (fun x hx => by rw [List.mem_singleton.mp hx]; exact ⟨by omega, hmo⟩) (by rw [← List.length_append, ← hee]; omega), hee]
  obtain ⟨m3, b3, s3, hm3, hm4, hc3, ht3⟩ := crash_trim hI' keep
  rw [hml] at hm4
  obtain rfl : m3 = m := by omega
  rw [hcut] at hc3 ht3
  have hsame : banksmanref04_Same.f (encF (ts.take m3)) ((encF (ts.take m3)).length : Int) (encF (ts.take m3)) ((encF (ts.take m3)).length : Int) = some true := by unfold banksmanref04_Same.f; rw [if_pos rfl]; simp
  have hrd : rd_L1 (ts.take m3 ++ [more]) (m3 : Int) = more := by
    have := rdL (ts.take m3) [] more
    rw [hml] at this
    exact this
  have hj : banksmanlaw04_WalCrashes.j3 (k + 1) ts keep more true (ts.take m3) false (encF (ts.take m3)) ((encF (ts.take m3)).length : Int) = some true := by
    rw [banksmanlaw04_WalCrashes.j3, if_neg (by decide), if_pos (by omega), if_pos (by omega), hml, Int.toNat_natCast, same_f (by omega) (by omega), Option.bind_some, happ, Option.bind_some]
    dsimp only
    rw [texts_enc hI2.fr hok2, Option.bind_some, hc3, Option.bind_some]
    dsimp only
    rw [ht3, Option.bind_some]
    dsimp only
    rw [hsame, Option.bind_some, if_pos rfl, if_pos rfl, if_pos rfl, hl2, w64 (by omega) (by omega), if_pos (by omega), if_pos (by omega), ht2, same_f (by omega) (by omega), Option.bind_some, if_pos rfl, if_pos (by omega), hrd, if_pos rfl]
  rw [banksmanlaw04_WalCrashes.j2, hc, Option.bind_some]
  dsimp only
  rw [ht, Option.bind_some]
  dsimp only
  rw [texts_enc hI'.fr hok', Option.bind_some, hml, if_neg (by omega), decide_eq_false (by omega)]
  exact hj
/-- What is synced ahead of text i. -/
def syn (ts : List (List Int)) (q i : Nat) : Int := if i ≤ q then 0 else ((encF (ts.take q)).length : Int)
theorem crashes_l0 (keep : Int) (more : List Int) (hm : more.length ≤ 300) (hmo : okb more = true) (q : Nat) (hq : q ≤ 20) : ∀ (suf pre : List (List Int)) (k : Nat), (∀ t ∈ pre ++ suf, okb t = true) → Few pre → (pre ++ suf).length ≤ 20 → suf.length + 62 ≤ k →
    banksmanlaw04_WalCrashes.l0 k (pre ++ suf) keep more true (q : Int) (pre.length : Int) (encF pre) (syn pre q pre.length) = some true := by
  intro suf
  induction suf with
  | nil =>
    intro pre k hob hT hl hk
    obtain ⟨k, rfl⟩ : ∃ z, k = z + 1 := ⟨k - 1, by omega⟩
    rw [List.append_nil] at hl ⊢
    have hlen := few_len hT
    have hI : Inv pre pre.length := ⟨Nat.le_refl _, hT.fr, by omega⟩
    have hsy : syn pre q pre.length = ((encF (pre.take (if pre.length ≤ q then 0 else q))).length : Int) := by
      unfold syn
      split
      · simp [encF]
      · rfl
    rw [banksmanlaw04_WalCrashes.l0, if_neg (by omega)]
    by_cases h : (q : Int) ≥ (pre.length : Int)
    · have hok : okLog (encF pre).length (syn pre q pre.length) = true := (okLog_iff _ _).mpr ⟨hI.len, by unfold syn; rw [if_pos (by omega)]; omega, by unfold syn; rw [if_pos (by omega)]; omega⟩
      rw [if_pos h, sync_f hok, Option.bind_some]
      dsimp only
      exact crashes_j2 pre keep more pre.length k _ hT hl hm hmo hI (by rw [List.take_length]) (by simp at hk; omega)
    · rw [if_neg h]
      have hI' : Inv pre q := ⟨by omega, hT.fr, by omega⟩
      exact crashes_j2 pre keep more q k _ hT hl hm hmo hI' (by unfold syn; rw [if_neg (by omega)]) (by simp at hk; omega)
  | cons t suf ih =>
    intro pre k hob hT hl hk
    obtain ⟨k, rfl⟩ : ∃ z, k = z + 1 := ⟨k - 1, by omega⟩
    have hll : (pre ++ t :: suf).length = pre.length + 1 + suf.length := by simp; omega
    have hcut : pre ++ t :: suf = (pre ++ [t]) ++ suf := by simp
    have hrd : rd_L1 (pre ++ t :: suf) (pre.length : Int) = t := rdL pre suf t
    have hto : okb t = true := hob t (by simp)
    have hlen := few_len hT
    rw [banksmanlaw04_WalCrashes.l0, if_pos (by omega), if_pos (by omega), hrd]
    by_cases h3 : (t.length : Int) > 300
    · rw [if_pos h3]
    · rw [if_neg h3]
      have hT' : Few (pre ++ [t]) := few_snoc hT (by omega) hto
      have hlen' := few_len hT'
      have hl1 : (pre ++ [t]).length = pre.length + 1 := by simp
      have hee : encF (pre ++ [t]) = encF pre ++ encF [t] := encF_app _ _
      have happ : ∀ s, okLog (encF pre).length s = true → wal_Append.f (encF pre) s [t] = some (encF (pre ++ [t]), s, 0) := fun s hs => by
        rw [append_f hs (fun x hx => by rw [List.mem_singleton.mp hx]; exact ⟨by omega, hto⟩) (by rw [← List.length_append, ← hee]; omega), hee]
      have hz : ∀ s, s = syn (pre ++ [t]) q (pre ++ [t]).length → banksmanlaw04_WalCrashes.l0 k (pre ++ t :: suf) keep more true (q : Int) (wrap64 ((pre.length : Int) + 1)) (encF (pre ++ [t])) s = some true := by
        rintro s rfl
        rw [w64 (by omega) (by omega), show (pre.length : Int) + 1 = ((pre ++ [t]).length : Int) by rw [hl1]; omega, hcut]
        exact ih (pre ++ [t]) k (by rw [← hcut]; exact hob) hT' (by rw [← hcut]; exact hl) (by simp at hk; omega)
      have hsle := encF_take_le pre q
      have hok : okLog (encF pre).length (syn pre q pre.length) = true := (okLog_iff _ _).mpr ⟨by omega, by unfold syn; split <;> omega, by unfold syn; split <;> omega⟩
      by_cases h4 : (pre.length : Int) = (q : Int)
      · have hq4 : pre.length = q := by omega
        have hok2 : okLog (encF pre).length ((encF pre).length : Int) = true := (okLog_iff _ _).mpr ⟨by omega, by omega, by omega⟩
        rw [if_pos h4, sync_f hok, Option.bind_some]
        dsimp only
        rw [happ _ hok2, Option.bind_some]
        dsimp only
        rw [if_pos rfl]
        apply hz
        unfold syn
        rw [if_neg (by omega), List.take_append_of_le_length (by omega), ← hq4, List.take_length]
      · rw [if_neg h4, happ _ hok, Option.bind_some]
        dsimp only
        rw [if_pos rfl]
        apply hz
        unfold syn
        by_cases h5 : pre.length ≤ q
        · rw [if_pos h5, if_pos (by omega)]
        · rw [if_neg h5, if_neg (by omega), List.take_append_of_le_length (by omega)]
theorem WalCrashes : banksmanlaw04_WalCrashes.Pure := by
  intro xs a keep more hx ha hkp hm
  have hob : ∀ t ∈ xs, okb t = true := fun t ht => okb_of (hx.2 t ht).2
  refine ⟨200, ?_⟩
  unfold banksmanlaw04_WalCrashes.f
  rw [banksmanlaw04_awake.settled, Option.bind_some]
  by_cases h : (xs.length : Int) > 20
  · rw [if_pos h, banksmanlaw04_WalCrashes.j0, if_pos rfl]
  · rw [if_neg h]
    by_cases h2 : (more.length : Int) > 300
    · rw [decide_eq_true h2, banksmanlaw04_WalCrashes.j0, if_pos rfl]
    · rw [decide_eq_false h2, banksmanlaw04_WalCrashes.j0, if_neg (by decide)]
      obtain ⟨ha0, ha1⟩ := wf_u8 ha
      obtain ⟨q, hq⟩ : ∃ q : Nat, a = (q : Int) := ⟨a.toNat, by omega⟩
      have e1 : Int.tmod (wrap64 a) 21 = ((q % 21 : Nat) : Int) := by
        rw [w64 (by omega) (by omega), hq]
        exact (Int.ofNat_tmod q 21).symm
      rw [e1]
      have := crashes_l0 keep more (by omega) (okb_of hm.2) (q % 21) (by omega) xs [] 199 hob (fun t ht => by simp at ht) (by simp; omega) (by omega)
      simpa [encF, syn] using this
end Go.Proofs.Ytbenenpkbdldmaa.Pure
