/- Proved: the law FrameSizes of banksmanlaw03 returns true for every input: a text's frame has as many bytes as it says, and with a byte of the text, or of the four, changed it is no frame. No conditions. -/
import Derived.Test.YtficgggfplejpaaLem03
import Derived.Test.YtficgggfplejpaaPx36
namespace Go.Proofs.Ytficgggfplejpaa.Pure
open Go.RowKit Go.Proofs.Ytficgggfplejpaa.P Go.Proofs.YtficgggfplejpaaW.PrintWords Go.Proofs.YtficgggfplejpaaW.PrintLast
set_option linter.unusedVariables false
set_option linter.unusedSimpArgs false

theorem wf_u16 {x : Int} (h : (Lit.int .u16 x).wf = true) : 0 ≤ x ∧ x ≤ 65535 := by
  simp [Lit.wf, IntKind.min, IntKind.max, IntKind.bits, IntKind.signed] at h; omega
theorem size_f' (n : Int) (h0 : 0 ≤ n) (h1 : n ≤ 2147483647) : octet_Size.f n = some ((octBytes 5 n).length : Int) := by
  rw [size_f, numP_ok h0 h1, List.nil_append]
/-- What a byte is behind 'x ^ by'. -/
theorem xor_bd {x y : Int} (h0 : 0 ≤ x) (h1 : x ≤ 255) (h2 : 0 ≤ y) (h3 : y ≤ 255) : 0 ≤ Go.bits .xor .u8 x y ∧ Go.bits .xor .u8 x y ≤ 255 ∧ (Go.bits .xor .u8 x y = x ↔ y = 0) := by
  obtain ⟨a, rfl⟩ := Int.eq_ofNat_of_zero_le h0
  obtain ⟨b, rfl⟩ := Int.eq_ofNat_of_zero_le h2
  have e : Go.bits .xor .u8 (a : Int) (b : Int) = (((BitVec.ofNat 8 a ^^^ BitVec.ofNat 8 b).toNat : Nat) : Int) := by
    have hlt := (BitVec.ofNat 8 a ^^^ BitVec.ofNat 8 b).isLt
    have e2 : Go.bits .xor .u8 (a : Int) (b : Int) = IntKind.u8.wrap (((BitVec.ofInt 8 (a : Int) ^^^ BitVec.ofInt 8 (b : Int)).toNat : Nat) : Int) := rfl
    rw [e2, BitVec.ofInt_natCast, BitVec.ofInt_natCast]
    generalize (BitVec.ofNat 8 a ^^^ BitVec.ofNat 8 b).toNat = z at hlt ⊢
    simp only [IntKind.wrap, IntKind.bits, IntKind.signed]
    simp
    omega
  have hlt := (BitVec.ofNat 8 a ^^^ BitVec.ofNat 8 b).isLt
  rw [e]
  refine ⟨by omega, by omega, ?_⟩
  have ha : (BitVec.ofNat 8 a).toNat = a := by rw [BitVec.toNat_ofNat]; omega
  have hb : (BitVec.ofNat 8 b).toNat = b := by rw [BitVec.toNat_ofNat]; omega
  constructor
  · intro h
    have h4 : (BitVec.ofNat 8 a ^^^ BitVec.ofNat 8 b) = BitVec.ofNat 8 a := by
      apply BitVec.eq_of_toNat_eq
      rw [ha]; omega
    have h5 : BitVec.ofNat 8 b = 0#8 := by
      have h6 : BitVec.ofNat 8 a ^^^ (BitVec.ofNat 8 a ^^^ BitVec.ofNat 8 b) = BitVec.ofNat 8 a ^^^ BitVec.ofNat 8 a := by rw [h4]
      rw [← BitVec.xor_assoc, BitVec.xor_self, BitVec.zero_xor] at h6
      exact h6
    have h7 := congrArg BitVec.toNat h5
    rw [hb] at h7
    simp at h7
    omega
  · intro h
    have h8 : b = 0 := by omega
    subst h8
    rw [BitVec.xor_zero, ha]
theorem set_app_left (a b : List Int) (i : Nat) (v : Int) (h : i < a.length) : (a ++ b).set i v = a.set i v ++ b := List.set_append_left i v h
theorem set_app_right (a b : List Int) (i : Nat) (v : Int) : (a ++ b).set (a.length + i) v = a ++ b.set i v := by
  rw [List.set_append_right _ _ (by omega)]
  congr 2
  omega
theorem rd_left (a b : List Int) (i : Nat) (h : i < a.length) : rd (a ++ b) (i : Int) = rd a (i : Int) := by
  unfold rd
  simp [List.getD_eq_getElem?_getD, List.getElem?_append_left h]
theorem rd_right (a b : List Int) (i : Nat) : rd (a ++ b) ((a.length + i : Nat) : Int) = rd b (i : Int) := by
  unfold rd
  rw [Int.toNat_natCast, Int.toNat_natCast, List.getD_eq_getElem?_getD, List.getD_eq_getElem?_getD, List.getElem?_append_right (by omega)]
  congr 2
  omega
theorem val_set {t : List Int} (h : okb t = true) {i : Nat} (hi : i < t.length) {v : Int} (hv : 0 ≤ v ∧ v ≤ 255) (hne : v ≠ rd t (i : Int)) : val (t.set i v) ≠ val t := by
  intro he
  have e := congrArg Prod.fst (val_inj he)
  have hr := okb_rd h i hi
  rw [fst_sum, fst_sum, sum_set t v i hi] at e
  omega
/-- A frame with a byte of its text, or of its sum, that is another one, is none. -/
theorem rd_changed {t : List Int} (h : Fr t) {i : Nat} (hi : i < t.length + 4) {v : Int} (hv : 0 ≤ v ∧ v ≤ 255) (hne : v ≠ rd (frameP t) (((octBytes 5 t.length).length + i : Nat) : Int)) :
    (rdP ((frameP t).set ((octBytes 5 t.length).length + i) v)).2.2 ≠ 0 := by
  have hE : frameP t = octBytes 5 t.length ++ (t ++ tailP t) := by unfold frameP; rw [List.append_assoc]
  rw [hE, rd_right] at hne
  rw [hE, set_app_right]
  have key : ∀ (t' r' : List Int), t'.length = t.length → okb t' = true → r'.length = 4 → okb r' = true → r' ≠ tailP t' → (rdP (octBytes 5 t.length ++ (t' ++ r'))).2.2 ≠ 0 := by
    intro t' r' h1 h2 h3 h4 h5 h6
    have h7 : ttP (octBytes 5 t'.length ++ t' ++ r') = (t', r', 0) := tt_text (by have := h.1; omega) r'
    rw [← h1, ← List.append_assoc] at h6
    unfold rdP at h6
    rw [h7] at h6
    simp only at h6
    rw [if_neg (fun hc => h5 (by rw [← hc.2.2.2, List.take_of_length_le (by omega)]))] at h6
    exact absurd h6 (by decide)
  by_cases hit : i < t.length
  · rw [set_app_left _ _ _ _ hit]
    rw [rd_left _ _ _ hit] at hne
    refine key _ _ (by simp) (okb_set h.2 hv i) rfl (tailP_ok t) (fun he => val_set h.2 hit hv hne (tailP_inj he.symm))
  · obtain ⟨j, rfl⟩ : ∃ j, i = t.length + j := ⟨i - t.length, by omega⟩
    rw [set_app_right]
    rw [rd_right] at hne
    refine key _ _ rfl h.2 (by rw [List.length_set]; rfl) (okb_set (tailP_ok t) hv j) (fun he => ?_)
    have hj : j < (tailP t).length := by rw [tailP_len]; omega
    apply hne
    have h9 : rd ((tailP t).set j v) (j : Int) = v := by unfold rd; simp [List.getD_eq_getElem?_getD, hj]
    rw [he] at h9
    exact h9.symm
theorem FrameSizes : banksmanlaw03_FrameSizes.Pure := by
  intro t at_ y _ ht hwt ha hy
  have hot := okb_of hwt
  have ha := wf_u16 ha
  have hy := wf_u8 hy
  refine ⟨10, ?_⟩
  unfold banksmanlaw03_FrameSizes.f
  rw [banksmanlaw03_awake.settled, Option.bind_some]
  by_cases h : (t.length : Int) > 2000
  · rw [if_pos h]
  have hF : Fr t := ⟨by omega, hot⟩
  have hfl := frameP_len t
  have l5 := octBytes_len 5 t.length
  have hrw := rdP_ok hF []
  rw [List.append_nil] at hrw
  have bl : (frameP t).length < 1000000 := by omega
  have bz : ¬ ((t.length : Int) + 4 = 0) := by omega
  have bb : ([] : List Int).length + (frameP t).length < 140737488355328 := by simp; omega
  rw [if_neg h, write_ok hF, Option.bind_some, size_f' _ (by omega) (by omega), Option.bind_some]
  simp only
  rw [if_pos trivial, w64 (x := ((octBytes 5 (t.length : Int)).length : Int) + (t.length : Int)) (by omega) (by omega), w64 (by omega) (by omega)]
  have hne : (((frameP t).length : Int) != ((octBytes 5 (t.length : Int)).length : Int) + (t.length : Int) + 4) = false := by
    rw [bne_eq_false_iff_eq]; omega
  rw [hne]
  simp only [banksmanlaw03_FrameSizes.j0]
  have w4 : wrap64 ((t.length : Int) + 4) = (t.length : Int) + 4 := w64 (by omega) (by omega)
  have wa : wrap64 at_ = at_ := w64 (by omega) (by omega)
  have em : Int.tmod at_ ((t.length : Int) + 4) = at_ % ((t.length : Int) + 4) := Int.tmod_eq_emod_of_nonneg ha.1
  have m0 : 0 ≤ at_ % ((t.length : Int) + 4) := Int.emod_nonneg _ (by omega)
  have m1 : at_ % ((t.length : Int) + 4) < (t.length : Int) + 4 := Int.emod_lt_of_pos _ (by omega)
  obtain ⟨i, hi⟩ := Int.eq_ofNat_of_zero_le m0
  have wk : wrap64 (((octBytes 5 (t.length : Int)).length : Int) + (i : Int)) = (((octBytes 5 (t.length : Int)).length + i : Nat) : Int) := by rw [w64 (by omega) (by omega)]; omega
  have hi2 : i < t.length + 4 := by omega
  have hkz : (0 : Int) ≤ (((octBytes 5 (t.length : Int)).length + i : Nat) : Int) := Int.natCast_nonneg _
  rw [if_neg (by decide), read_f (frameP_ok hot) bl, Option.bind_some, hrw, w4, wa, em, hi, wk]
  clear m0 m1 hi em wa wk
  rw [if_neg bz, Option.bind_some, if_pos bb, Option.bind_some, List.nil_append, if_pos hkz]
  have hk : (octBytes 5 (t.length : Int)).length + i < (frameP t).length := by omega
  have hb := okb_rd (frameP_ok hot) _ hk
  obtain ⟨x0, x1, x2⟩ := xor_bd hb.1 hb.2 hy.1 hy.2
  have hok2 := okb_set (frameP_ok hot) ⟨x0, x1⟩ ((octBytes 5 (t.length : Int)).length + i)
  rw [if_pos (Int.ofNat_lt.mpr hk), Int.toNat_natCast, read_f hok2 (by rw [List.length_set]; exact bl), Option.bind_some, if_pos rfl]
  simp only [if_true]
  congr 1
  by_cases hy0 : y = 0
  · have hx := x2.mpr hy0
    rw [hx, set_self _ _ hk, hrw, hy0]
    rfl
  · have hx : Go.bits .xor .u8 (rd (frameP t) (((octBytes 5 (t.length : Int)).length + i : Nat) : Int)) y ≠ rd (frameP t) (((octBytes 5 (t.length : Int)).length + i : Nat) : Int) := fun e => hy0 (x2.mp e)
    have herr := rdP_err (rd_changed hF (i := i) (by omega) ⟨x0, x1⟩ hx)
    rw [herr]
    have hyb : (y != 0) = true := bne_iff_ne.mpr hy0
    rw [hyb]
    rfl
end Go.Proofs.Ytficgggfplejpaa.Pure
