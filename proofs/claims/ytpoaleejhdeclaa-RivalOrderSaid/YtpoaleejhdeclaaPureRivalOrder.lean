/- Proved: the law RivalOrder of banksmanlaw14 returns true for every input: transactions that commit one behind the other, judged, or held, stand in some order. No conditions. -/
import Derived.Test.YtpoaleejhdeclaaLem14
import Derived.Test.YtpoaleejhdeclaaPx63
namespace Go.Proofs.Ytpoaleejhdeclaa.Pure
open Go.RowKit Go.Proofs.Ytpoaleejhdeclaa.P Go.Proofs.YtpoaleejhdeclaaW.PrintWords Go.Proofs.YtpoaleejhdeclaaW.PrintLast
set_option linter.unusedVariables false
set_option linter.unusedSimpArgs false

theorem rd43 {l : List S43} {i : Nat} (h : i < l.length) : rd_T43 l (i : Int) = l[i] := by
  unfold rd_T43; rw [Int.toNat_natCast]; simp [List.getD_eq_getElem?_getD, h]
def edgeB (a b : S50) : Bool := (saB a.f4 b.f4 && decide (a.f1 < b.f1)) || (hitB b.f3 a.f4 && decide (a.f1 ≤ b.f0)) || (hitB a.f3 b.f4 && decide (a.f0 < b.f1))
def small (p : S50) : Prop := p.f3.length ≤ 6 ∧ p.f4.length ≤ 6
theorem edge_f (a b : S50) (ha : small a) (hb : small b) (k : Nat) (hk : 1000 ≤ k) : banksmanref14_edge.f k a.f0 a.f1 a.f2 a.f3 a.f4 a.f5 b.f0 b.f1 b.f2 b.f3 b.f4 b.f5 = some (edgeB a b) := by
  obtain ⟨a3, a4⟩ := ha
  obtain ⟨b3, b4⟩ := hb
  have m1 : a.f4.length * (b.f4.length + 2) ≤ 6 * 8 := Nat.mul_le_mul a4 (by omega)
  have m2 : b.f3.length * (a.f4.length + 2) ≤ 6 * 8 := Nat.mul_le_mul b3 (by omega)
  have m3 : a.f3.length * (b.f4.length + 2) ≤ 6 * 8 := Nat.mul_le_mul a3 (by omega)
  unfold banksmanref14_edge.f edgeB
  rw [Same_f a.f4 b.f4 (by omega) (by omega) k (by omega), Option.bind_some, Hit_f b.f3 a.f4 (by omega) (by omega) k (by omega), Option.bind_some, Hit_f a.f3 b.f4 (by omega) (by omega) k (by omega), Option.bind_some]
  cases saB a.f4 b.f4 <;> cases hitB b.f3 a.f4 <;> cases hitB a.f3 b.f4 <;> by_cases h1 : a.f1 < b.f1 <;> by_cases h2 : a.f1 ≤ b.f0 <;> by_cases h3 : a.f0 < b.f1 <;> simp [h1, h2, h3]

/-- Those who committed: the j-th has stamp j + 1; who is held reads as of j; who is not was judged beside those ahead of it. -/
def invAt (P : List S50) (j : Nat) (p : S50) : Prop := p.f1 = (j : Int) + 1 ∧ few10 p.f3 = true ∧ few08 p.f4 = true ∧ small p ∧
  ((p.f2 = true ∧ p.f0 = j) ∨ (0 ≤ p.f0 ∧ p.f0 ≤ j ∧ ∃ live, judgeB p.f3 p.f4 (meetB p.f0 (P.take j)) live = (p.f5, 0)))
def Inv (P : List S50) : Prop := ∀ j (h : j < P.length), invAt P j P[j]
theorem inv_snoc {P : List S50} {p : S50} (h : Inv P) (hp : invAt P P.length p) : Inv (P ++ [p]) := by
  intro j hj
  rw [List.length_append, List.length_singleton] at hj
  by_cases hl : j < P.length
  · rw [List.getElem_append_left hl]
    have := h j hl
    unfold invAt at this ⊢
    rw [List.take_append_of_le_length (by omega)]
    exact this
  · have e : j = P.length := by omega
    subst e
    rw [List.getElem_append_right (by omega)]
    simp only [Nat.sub_self, List.getElem_singleton]
    unfold invAt at hp ⊢
    rw [List.take_append_of_le_length (by omega)]
    exact hp
theorem inv_ok {P : List S50} (h : Inv P) : ∀ p ∈ P, okPa p = true := by
  intro p hp
  obtain ⟨j, hj, rfl⟩ := List.mem_iff_getElem.mp hp
  have := h j hj
  exact okPa_few this.2.1 this.2.2.1

/-! what a judgement of 0 says -/
theorem judged {rd : List S57} {wr : List S59} {m : List S50} {live : List S24} {o : Bool} (h : judgeB rd wr m live = (o, 0)) :
    (∀ p ∈ m, saB p.f4 wr = false ∧ (p.f5 = true → hitB rd p.f4 = false)) ∧ (∀ p ∈ m, hitB rd p.f4 = true → o = true ∧ ∀ q ∈ m, hitB q.f3 wr = false) := by
  unfold judgeB at h
  split at h
  · exact absurd (congrArg Prod.snd h) (by simp)
  rename_i hb
  have hbad : ∀ p ∈ m, saB p.f4 wr = false ∧ (p.f5 = true → hitB rd p.f4 = false) := by
    intro p hp
    have : badB rd wr p = false := by
      cases e : badB rd wr p with
      | false => rfl
      | true => exact absurd (List.any_eq_true.mpr ⟨p, hp, e⟩) hb
    unfold badB at this
    rw [Bool.or_eq_false_iff, Bool.and_eq_false_iff] at this
    refine ⟨this.1, fun h5 => ?_⟩
    rcases this.2 with h6 | h6
    · rw [h5] at h6; cases h6
    · exact h6
  refine ⟨hbad, ?_⟩
  intro p hp hh
  rw [if_pos (List.any_eq_true.mpr ⟨p, hp, hh⟩)] at h
  split at h
  · exact absurd (congrArg Prod.snd h) (by simp)
  rename_i hn
  split at h
  · exact absurd (congrArg Prod.snd h) (by simp)
  refine ⟨(congrArg Prod.fst h).symm, ?_⟩
  intro q hq
  cases e : hitB q.f3 wr with
  | false => rfl
  | true => exact absurd (List.any_eq_true.mpr ⟨q, hq, e⟩) hn
theorem meet_of {P : List S50} (hP : Inv P) {i j : Nat} (hi : i < P.length) (hij : i < j) {s : Int} (hs : s < (i : Int) + 1) : P[i] ∈ meetB s (P.take j) := by
  unfold meetB
  rw [List.mem_filter]
  refine ⟨?_, decide_eq_true (by rw [(hP i hi).1]; exact hs)⟩
  rw [List.mem_take_iff_getElem]
  exact ⟨i, by omega, rfl⟩

/-- Of those that are not done one can go: nobody else who is not done leads to it. -/
theorem one_goes (P : List S50) (hP : Inv P) (U : Nat → Prop) (hU : ∃ i, U i ∧ i < P.length) :
    ∃ i, ∃ hi : i < P.length, U i ∧ ∀ k, ∀ hk : k < P.length, U k → k ≠ i → edgeB P[k] P[i] = false := by
  classical
  obtain ⟨c, ⟨hcU, hc⟩, hmin⟩ : ∃ c, (U c ∧ c < P.length) ∧ ∀ d, U d → d < P.length → c ≤ d := by
    obtain ⟨i, hi⟩ := hU
    have : ∀ n i, i ≤ n → (U i ∧ i < P.length) → ∃ c, (U c ∧ c < P.length) ∧ ∀ d, U d → d < P.length → c ≤ d := by
      intro n
      induction n with
      | zero => intro i h0 h; exact ⟨i, h, fun d _ _ => by omega⟩
      | succ n ih =>
        intro i h0 h
        by_cases he : ∃ d, (U d ∧ d < P.length) ∧ d < i
        · obtain ⟨d, hd, hlt⟩ := he
          exact ih d (by omega) hd
        · exact ⟨i, h, fun d h1 h2 => Nat.le_of_not_lt fun h3 => he ⟨d, ⟨h1, h2⟩, h3⟩⟩
    exact this i i (Nat.le_refl _) hi
  by_cases hfree : ∀ k, ∀ hk : k < P.length, U k → k ≠ c → edgeB P[k] P[c] = false
  · exact ⟨c, hc, hcU, hfree⟩
  -- the step into c is from who read to who wrote
  obtain ⟨b, hb, hbU, hbc, hbe⟩ : ∃ b, ∃ hb : b < P.length, U b ∧ b ≠ c ∧ edgeB P[b] P[c] = true := by
    refine Classical.byContradiction fun hno => hfree fun k hk hkU hkc => ?_
    cases e : edgeB P[k] P[c] with
    | false => rfl
    | true => exact absurd ⟨k, hk, hkU, hkc, e⟩ hno
  have hcb : c < b := by have := hmin b hbU hb; omega
  have ic := hP c hc
  have ib := hP b hb
  have hcs : ∀ (x : Int), x = P[c].f0 → x ≤ c := by
    intro x hx
    rcases ic.2.2.2.2 with h | h <;> omega
  have hc0 := hcs _ rfl
  obtain ⟨hrw, hsn⟩ : hitB P[b].f3 P[c].f4 = true ∧ P[b].f0 < P[c].f1 := by
    unfold edgeB at hbe
    simp only [Bool.or_eq_true, Bool.and_eq_true, decide_eq_true_eq] at hbe
    rcases hbe with (h | h) | h
    · have := h.2; rw [ib.1, ic.1] at this; omega
    · have := h.2; rw [ib.1] at this; omega
    · exact h
  rw [ic.1] at hsn
  obtain ⟨live, hj⟩ : ∃ live, judgeB P[b].f3 P[b].f4 (meetB P[b].f0 (P.take b)) live = (P[b].f5, 0) := by
    rcases ib.2.2.2.2 with h | h
    · omega
    · exact h.2.2
  have J := judged hj
  have hcm : P[c] ∈ meetB P[b].f0 (P.take b) := meet_of hP hc hcb hsn
  have JO := J.2 _ hcm hrw
  refine ⟨b, hb, hbU, ?_⟩
  intro a ha haU hab
  have hca := hmin a haU ha
  have ia := hP a ha
  cases e : edgeB P[a] P[b] with
  | false => rfl
  | true =>
    exfalso
    unfold edgeB at e
    simp only [Bool.or_eq_true, Bool.and_eq_true, decide_eq_true_eq] at e
    rcases e with (h | h) | h
    · have h2 := h.2
      rw [ia.1, ib.1] at h2
      have ham : P[a] ∈ meetB P[b].f0 (P.take b) := meet_of hP ha (by omega) (by omega)
      rw [(J.1 _ ham).1] at h
      exact absurd h.1 (by decide)
    · have h2 := h.2
      rw [ia.1] at h2
      omega
    · by_cases hlt : a < b
      · have ham : P[a] ∈ meetB P[b].f0 (P.take b) := meet_of hP ha hlt (by omega)
        rw [JO.2 _ ham] at h
        exact absurd h.1 (by decide)
      · have h2 := h.2
        rw [ib.1] at h2
        rcases ia.2.2.2.2 with g | ⟨_, _, live2, g⟩
        · omega
        · have hbm : P[b] ∈ meetB P[a].f0 (P.take a) := meet_of hP hb (by omega) h2
          rw [((judged g).1 _ hbm).2 JO.1] at h
          exact absurd h.1 (by decide)

/-! the document's order -/
def Good (P : List S50) (r : Option (List Int × Bool)) : Prop := ∃ R, r = some (R, true) ∧ R.length = P.length
def goes (P : List S50) (done : List Bool) (i : Nat) : Prop := done.getD i false = false ∧ ∀ k, ∀ hk : k < P.length, ∀ hi : i < P.length, done.getD k false = false → k ≠ i → edgeB P[k] P[i] = false
theorem rdD {l : List Bool} {i : Nat} : rdOf false l (i : Int) = l.getD i false := by unfold rdOf; rw [Int.toNat_natCast]
theorem order_l2 (P : List S50) (hl : P.length ≤ 8) (hs : ∀ p ∈ P, small p) (out : List Int) (done : List Bool) (hd : done.length = P.length) (x6 : Int) (i : Nat) (hi : i < P.length) (K : Nat) (b0 : Bool) (hb0 : b0 = true → done.getD i false = false)
    (hyes : goes P done i → ∀ k', K ≤ k' → Good P (banksmanref14_Order.l1 k' P out done (i : Int) ((i + 1 : Nat) : Int)))
    (hno : (b0 = false ∨ ¬ goes P done i) → ∀ k', K ≤ k' → Good P (banksmanref14_Order.l1 k' P out done x6 ((i + 1 : Nat) : Int))) :
    ∀ (d j k : Nat) (b : Bool), j + d = P.length → K + 2 * d + 2000 ≤ k → (b = true → b0 = true ∧ ∀ q, q < j → ∀ hq : q < P.length, done.getD q false = false → q ≠ i → edgeB P[q] P[i] = false) → (b = false → b0 = false ∨ ¬ goes P done i) →
    Good P (banksmanref14_Order.l2 k P out done x6 (i : Int) b (j : Int)) := by
  intro d
  have ei : wrap64 ((i : Int) + 1) = ((i + 1 : Nat) : Int) := by rw [w64 (by omega) (by omega)]; omega
  have last : ∀ (j k : Nat) (b : Bool), K + 1000 ≤ k → (b = true → goes P done i) → (b = false → b0 = false ∨ ¬ goes P done i) → Good P (banksmanref14_Order.j4 k P out done x6 (i : Int) b (j : Int) false) := by
    intro j k b hk h1 h2
    obtain ⟨k, rfl⟩ : ∃ m, k = m + 1 := ⟨k - 1, by omega⟩
    rw [banksmanref14_Order.j4, if_neg (by simp), ei]
    cases b with
    | true => rw [if_pos rfl]; exact hyes (h1 rfl) k (by omega)
    | false => rw [if_neg (by simp)]; exact hno (h2 rfl) k (by omega)
  induction d with
  | zero =>
    intro j k b hj hk h1 h2
    obtain ⟨k, rfl⟩ : ∃ m, k = m + 1 := ⟨k - 1, by omega⟩
    rw [banksmanref14_Order.l2, if_neg (by omega)]
    refine last j k b (by omega) (fun hb => ?_) h2
    refine ⟨hb0 (h1 hb).1, fun q hq hi' hdq hqi => (h1 hb).2 q (by omega) hq hdq hqi⟩
  | succ d ih =>
    intro j k b hj hk h1 h2
    obtain ⟨k, rfl⟩ : ∃ m, k = m + 2 := ⟨k - 2, by omega⟩
    have hjl : j < P.length := by omega
    have e2 : wrap64 ((j : Int) + 1) = ((j + 1 : Nat) : Int) := by rw [w64 (by omega) (by omega)]; omega
    rw [banksmanref14_Order.l2, if_pos (by omega)]
    cases b with
    | false => exact last j (k + 1) false (by omega) (fun h => by cases h) h2
    | true =>
      have g := h1 rfl
      rw [banksmanref14_Order.j4, if_pos rfl, e2]
      by_cases hji : j = i
      · rw [if_pos (by omega)]
        refine ih (j + 1) k true (by omega) (by omega) (fun _ => ⟨g.1, fun q hq hql hdq hqi => ?_⟩) (fun h => by cases h)
        exact g.2 q (by omega) hql hdq hqi
      · rw [if_neg (by omega), if_pos (by omega), if_pos (by omega), rdD]
        by_cases hdj : done.getD j false = true
        · rw [if_pos hdj]
          refine ih (j + 1) k true (by omega) (by omega) (fun _ => ⟨g.1, fun q hq hql hdq hqi => ?_⟩) (fun h => by cases h)
          by_cases e : q = j
          · subst e; rw [hdj] at hdq; cases hdq
          · exact g.2 q (by omega) hql hdq hqi
        · rw [if_neg hdj, if_pos (by omega), if_pos (by omega), if_pos (by omega), rd50 hjl, rd50 hi, edge_f P[j] P[i] (hs _ (List.getElem_mem hjl)) (hs _ (List.getElem_mem hi)) k (by omega), Option.bind_some]
          refine ih (j + 1) k _ (by omega) (by omega) (fun he => ⟨g.1, fun q hq hql hdq hqi => ?_⟩) (fun he => Or.inr fun hg => ?_)
          · by_cases e : q = j
            · subst e; simpa using he
            · exact g.2 q (by omega) hql hdq hqi
          · have := hg.2 j hjl hi (by simpa using hdj) hji
            rw [this] at he
            cases he
theorem order_l1 (P : List S50) (hl : P.length ≤ 8) (hs : ∀ p ∈ P, small p) (out : List Int) (ho : out.length ≤ 8) (done : List Bool) (hd : done.length = P.length) (K : Nat)
    (hnext : ∀ i, i < P.length → goes P done i → ∀ k', K ≤ k' → Good P (banksmanref14_Order.l0 k' P (out ++ [(i : Int)]) (done.set i true))) :
    ∀ (d i k : Nat), i + d = P.length → K + 4000 * d + 4000 ≤ k → (∃ j, i ≤ j ∧ j < P.length ∧ goes P done j) → Good P (banksmanref14_Order.l1 k P out done (-1) (i : Int)) := by
  have found : ∀ (i j k : Nat), i < P.length → goes P done i → K + 10 ≤ k → Good P (banksmanref14_Order.l1 k P out done (i : Int) (j : Int)) := by
    intro i j k hi hg hk
    obtain ⟨k, rfl⟩ : ∃ m, k = m + 2 := ⟨k - 2, by omega⟩
    have ej : banksmanref14_Order.j2 (k + 1) P out done (i : Int) (j : Int) false = banksmanref14_Order.l0 k P (out ++ [(i : Int)]) (done.set i true) := by
      rw [banksmanref14_Order.j2, if_neg (by simp), if_neg (by omega), if_pos (by omega), if_pos (by omega), if_pos (by omega), Int.toNat_natCast]
    rw [banksmanref14_Order.l1]
    have e3 : decide ((i : Int) < 0) = false := decide_eq_false (by omega)
    rw [e3, ej]
    split <;> exact hnext i hi hg k (by omega)
  intro d
  induction d with
  | zero =>
    intro i k hi hk h
    obtain ⟨j, h1, h2, _⟩ := h
    omega
  | succ d ih =>
    intro i k hi hk h
    obtain ⟨k, rfl⟩ : ∃ m, k = m + 2 := ⟨k - 2, by omega⟩
    have hil : i < P.length := by omega
    rw [banksmanref14_Order.l1, if_pos (by omega), decide_eq_true (by omega : (-1 : Int) < 0), banksmanref14_Order.j2, if_pos rfl, if_pos (by omega), if_pos (by omega), rdD]
    show Good P (banksmanref14_Order.l2 k P out done (-1) (i : Int) (!(done.getD i false)) ((0 : Nat) : Int))
    obtain ⟨K2, hK2⟩ : ∃ x, x = K + 4000 * d + 4000 := ⟨_, rfl⟩
    have hyes : goes P done i → ∀ k', K2 ≤ k' → Good P (banksmanref14_Order.l1 k' P out done (i : Int) ((i + 1 : Nat) : Int)) := fun hg k' hk' => found i (i + 1) k' hil hg (by omega)
    have hno : ((!(done.getD i false)) = false ∨ ¬ goes P done i) → ∀ k', K2 ≤ k' → Good P (banksmanref14_Order.l1 k' P out done (-1) ((i + 1 : Nat) : Int)) := fun hng k' hk' => by
      refine ih (i + 1) k' (by omega) (by omega) ?_
      obtain ⟨j, h1, h2, h3⟩ := h
      refine ⟨j, ?_, h2, h3⟩
      by_cases e : j = i
      · subst e
        rcases hng with hb | hb
        · have := h3.1; rw [this] at hb; cases hb
        · exact absurd h3 hb
      · omega
    have hk2 : K2 + 2 * P.length + 2000 ≤ k := by omega
    have h0 : 0 + P.length = P.length := Nat.zero_add _
    exact order_l2 P hl hs out done hd (-1) i hil K2 (!(done.getD i false)) (fun h => by simpa using h) hyes hno P.length 0 k (!(done.getD i false)) h0 hk2 (fun hb => ⟨hb, fun q hq => absurd hq (Nat.not_lt_zero q)⟩) (fun hb => Or.inl hb)
theorem order_l0 (P : List S50) (hl : P.length ≤ 8) (hP : Inv P) : ∀ (d k : Nat) (out : List Int) (done : List Bool), done.length = P.length → out.length + d = P.length → done.count true = out.length → 50000 * d + 10 ≤ k →
    Good P (banksmanref14_Order.l0 k P out done) := by
  have hs : ∀ p ∈ P, small p := by
    intro p hp
    obtain ⟨j, hj, rfl⟩ := List.mem_iff_getElem.mp hp
    exact (hP j hj).2.2.2.1
  intro d
  induction d with
  | zero =>
    intro k out done hd ho hc hk
    obtain ⟨k, rfl⟩ : ∃ m, k = m + 1 := ⟨k - 1, by omega⟩
    rw [banksmanref14_Order.l0, if_neg (by omega)]
    exact ⟨out, rfl, by omega⟩
  | succ d ih =>
    intro k out done hd ho hc hk
    obtain ⟨k, rfl⟩ : ∃ m, k = m + 1 := ⟨k - 1, by omega⟩
    rw [banksmanref14_Order.l0, if_pos (by omega)]
    refine order_l1 P hl hs out (by omega) done hd (50000 * d + 10) (fun i hi hg k' hk' => ?_) P.length 0 k (by omega) (by omega) ?_
    · refine ih k' _ _ (by rw [List.length_set]; exact hd) (by rw [List.length_append, List.length_singleton]; omega) ?_ hk'
      have hfi : done[i]'(by omega) = false := by
        have := hg.1
        rw [List.getD_eq_getElem?_getD, List.getElem?_eq_getElem (by omega)] at this
        exact this
      rw [List.count_set (by omega), hfi, List.length_append, List.length_singleton, hc]
      simp
    · have hex : ∃ i, done.getD i false = false ∧ i < P.length := by
        refine Classical.byContradiction fun hno => ?_
        have hall : ∀ x ∈ done, true = x := by
          intro x hx
          obtain ⟨j, hj, rfl⟩ := List.mem_iff_getElem.mp hx
          cases e : done[j] with
          | true => rfl
          | false => exact absurd ⟨j, by rw [List.getD_eq_getElem?_getD, List.getElem?_eq_getElem hj]; exact e, by omega⟩ hno
        have := List.count_eq_length.mpr hall
        omega
      obtain ⟨i, hi, hu, hf⟩ := one_goes P hP (fun i => done.getD i false = false) hex
      exact ⟨i, by omega, hi, hu, fun q hq hi' hdq hqi => hf q hq hdq hqi⟩
theorem Order_f (P : List S50) (hl : P.length ≤ 8) (hP : Inv P) (k : Nat) (hk : 500000 ≤ k) : Good P (banksmanref14_Order.f k P) := by
  unfold banksmanref14_Order.f
  rw [if_pos (by omega), if_pos (by omega)]
  refine order_l0 P hl hP P.length k [] _ (by rw [List.length_replicate]; omega) (by simp) ?_ (by omega)
  rw [List.count_replicate]
  simp

/-! those who commit -/
def okT (x : S43) : Prop := (0 ≤ x.f0 ∧ x.f0 ≤ 255) ∧ (0 ≤ x.f4 ∧ x.f4 ≤ 255) ∧ x.f2.length ≤ 6 ∧ x.f3.length ≤ 6 ∧ few10 x.f2 = true ∧ few08 x.f3 = true
def Done (r : Option (List S50)) : Prop := ∃ P, r = some P ∧ Inv P ∧ P.length ≤ 8
theorem com_l1 (l : List S43) (hl : l.length ≤ 8) (hok : ∀ x ∈ l, okT x) (past : List S50) (i : Nat) (hi : i < l.length) (st sn : Int) (K : Nat)
    (hend : ∀ (live : List S24) (k' : Nat), K ≤ k' → Done ((rival_Judge.f sn l[i].f2 l[i].f3 past live).bind fun bt => if bt.2 = 0 then (if past.length < 1759218604441 then banksmanlaw14_committed.l0 k' l (past ++ [(⟨sn, st, l[i].f1, l[i].f2, l[i].f3, bt.1⟩ : S50)]) (wrap64 ((i : Int) + 1)) else none) else banksmanlaw14_committed.l0 k' l past (wrap64 ((i : Int) + 1)))) :
    ∀ (d j k : Nat) (live : List S24), j + d = l.length → live.length ≤ j → K + d + 1 ≤ k → Done (banksmanlaw14_committed.l1 k l past (i : Int) st sn live (j : Int)) := by
  intro d
  induction d with
  | zero =>
    intro j k live hj hv hk
    obtain ⟨k, rfl⟩ : ∃ m, k = m + 1 := ⟨k - 1, by omega⟩
    rw [banksmanlaw14_committed.l1, if_neg (by omega), if_pos (by omega), if_pos (by omega), rd43 hi]
    exact hend live k (by omega)
  | succ d ih =>
    intro j k live hj hv hk
    obtain ⟨k, rfl⟩ : ∃ m, k = m + 1 := ⟨k - 1, by omega⟩
    have hjl : j < l.length := by omega
    have e2 : wrap64 ((j : Int) + 1) = ((j + 1 : Nat) : Int) := by rw [w64 (by omega) (by omega)]; omega
    have h := hok l[j] (List.getElem_mem hjl)
    have ew : wrap64 ((l[j].f2.length : Int) + 1) = (l[j].f2.length : Int) + 1 := w64 (by omega) (by have := h.2.2.1; omega)
    have e4 : wrap64 l[j].f4 = l[j].f4 := w64 (by have := h.2.1; omega) (by have := h.2.1; omega)
    have m0 : 0 ≤ Int.tmod l[j].f4 ((l[j].f2.length : Int) + 1) := Int.tmod_nonneg _ h.2.1.1
    have m1 : Int.tmod l[j].f4 ((l[j].f2.length : Int) + 1) < (l[j].f2.length : Int) + 1 := Int.tmod_lt_of_pos _ (by omega)
    rw [banksmanlaw14_committed.l1, if_pos (by omega), if_pos (by omega), rd43 hjl, ew, e4, e2, if_neg (by omega)]
    by_cases hh : l[j].f1 = true
    · rw [if_pos hh]; exact ih (j + 1) k live (by omega) (by omega) (by omega)
    · rw [if_neg hh, if_pos m0, if_pos (by omega), if_pos (by omega)]
      exact ih (j + 1) k _ (by omega) (by rw [List.length_append, List.length_singleton]; omega) (by omega)
theorem com_l0 (l : List S43) (hl : l.length ≤ 8) (hok : ∀ x ∈ l, okT x) : ∀ (d i k : Nat) (past : List S50), i + d = l.length → past.length ≤ i → Inv past → 20 * d + 10 ≤ k → Done (banksmanlaw14_committed.l0 k l past (i : Int)) := by
  intro d
  induction d with
  | zero =>
    intro i k past hi hp hP hk
    obtain ⟨k, rfl⟩ : ∃ m, k = m + 1 := ⟨k - 1, by omega⟩
    rw [banksmanlaw14_committed.l0, if_neg (by omega)]
    exact ⟨past, rfl, hP, by omega⟩
  | succ d ih =>
    intro i k past hi hp hP hk
    obtain ⟨k, rfl⟩ : ∃ m, k = m + 1 := ⟨k - 1, by omega⟩
    have hil : i < l.length := by omega
    have e2 : wrap64 ((i : Int) + 1) = ((i + 1 : Nat) : Int) := by rw [w64 (by omega) (by omega)]; omega
    have h := hok l[i] (List.getElem_mem hil)
    have es : wrap64 ((past.length : Int) + 1) = (past.length : Int) + 1 := w64 (by omega) (by omega)
    have es2 : wrap64 ((past.length : Int) + 1 - 1) = (past.length : Int) := by rw [w64 (by omega) (by omega)]; omega
    rw [banksmanlaw14_committed.l0, if_pos (by omega), if_pos (by omega), rd43 hil, es, es2, if_neg (by omega), e2]
    by_cases hh : l[i].f1 = true
    · rw [if_pos hh, if_pos (by omega)]
      refine ih (i + 1) k _ (by omega) (by rw [List.length_append, List.length_singleton]; omega) (inv_snoc hP ?_) (by omega)
      exact ⟨rfl, h.2.2.2.2.1, h.2.2.2.2.2, ⟨h.2.2.1, h.2.2.2.1⟩, Or.inl ⟨hh, rfl⟩⟩
    · rw [if_neg hh]
      have eb : wrap64 l[i].f0 = l[i].f0 := w64 (by have := h.1; omega) (by have := h.1; omega)
      have m0 : 0 ≤ Int.tmod l[i].f0 ((past.length : Int) + 1) := Int.tmod_nonneg _ h.1.1
      have m1 : Int.tmod l[i].f0 ((past.length : Int) + 1) < (past.length : Int) + 1 := Int.tmod_lt_of_pos _ (by omega)
      rw [eb, w64 (by omega) (by omega)]
      refine com_l1 l hl hok past i hil _ _ (20 * d + 10) (fun live k' hk' => ?_) d (i + 1) k [] (by omega) (by simp) (by omega)
      rw [Judge_f _ _ _ past live (by omega) (inv_ok hP), Option.bind_some, e2]
      by_cases hz : (judgeB l[i].f2 l[i].f3 (meetB ((past.length : Int) - Int.tmod l[i].f0 ((past.length : Int) + 1)) past) live).2 = 0
      · rw [if_pos hz, if_pos (by omega)]
        refine ih (i + 1) k' _ (by omega) (by rw [List.length_append, List.length_singleton]; omega) (inv_snoc hP ?_) hk'
        refine ⟨rfl, h.2.2.2.2.1, h.2.2.2.2.2, ⟨h.2.2.1, h.2.2.2.1⟩, Or.inr ⟨(by omega : (0 : Int) ≤ (past.length : Int) - Int.tmod l[i].f0 ((past.length : Int) + 1)), (by omega : (past.length : Int) - Int.tmod l[i].f0 ((past.length : Int) + 1) ≤ (past.length : Int)), live, ?_⟩⟩
        rw [List.take_length]
        exact Prod.ext rfl hz
      · rw [if_neg hz]
        exact ih (i + 1) k' past (by omega) (by omega) hP hk'
theorem law_l0 (l : List S43) (hl : l.length ≤ 8) (hok : ∀ x ∈ l, (0 ≤ x.f0 ∧ x.f0 ≤ 255) ∧ (0 ≤ x.f4 ∧ x.f4 ≤ 255)) : ∀ (d i k : Nat), i + d = l.length → 600000 + d ≤ k → (∀ j, j < i → ∀ hj : j < l.length, okT l[j]) → banksmanlaw14_RivalOrder.l0 k l true (i : Int) = some true := by
  intro d
  induction d with
  | zero =>
    intro i k hi hk ho
    obtain ⟨k, rfl⟩ : ∃ m, k = m + 1 := ⟨k - 1, by omega⟩
    have hall : ∀ x ∈ l, okT x := by
      intro x hx
      obtain ⟨j, hj, rfl⟩ := List.mem_iff_getElem.mp hx
      exact ho j (by omega) hj
    obtain ⟨P, e1, hP, hPl⟩ := com_l0 l hl hall l.length 0 k [] (by omega) (by simp) (fun j hj => by simp at hj) (by omega)
    obtain ⟨R, e3, hR⟩ := Order_f P hPl hP k (by omega)
    have e0 : banksmanlaw14_committed.f k l = some P := e1
    rw [banksmanlaw14_RivalOrder.l0, if_neg (by omega), e0, Option.bind_some, e3, Option.bind_some, if_pos rfl, if_pos rfl, hR]
    simp
  | succ d ih =>
    intro i k hi hk ho
    obtain ⟨k, rfl⟩ : ∃ m, k = m + 1 := ⟨k - 1, by omega⟩
    have hil : i < l.length := by omega
    have e2 : wrap64 ((i : Int) + 1) = ((i + 1 : Nat) : Int) := by rw [w64 (by omega) (by omega)]; omega
    rw [banksmanlaw14_RivalOrder.l0, if_pos (by omega), if_pos (by omega), rd43 hil, Few10_f _ k (by omega), Option.bind_some, Few08_f _ k (by omega), Option.bind_some, e2]
    by_cases h1 : (l[i].f2.length : Int) > 6
    · rw [if_pos h1]
    rw [if_neg h1]
    by_cases h2 : (l[i].f3.length : Int) > 6
    · rw [if_pos h2]
    rw [if_neg h2]
    by_cases h3 : few10 l[i].f2 = true
    · rw [if_pos h3]
      by_cases h4 : few08 l[i].f3 = true
      · rw [if_pos h4]
        refine ih (i + 1) k (by omega) (by omega) (fun j hj hjl => ?_)
        by_cases e : j = i
        · subst e
          have := hok l[j] (List.getElem_mem hjl)
          exact ⟨this.1, this.2, by omega, by omega, h3, h4⟩
        · exact ho j (by omega) hjl
      · rw [if_neg h4]
    · rw [if_neg h3]
theorem wf_u8 {x : Int} (h : (Lit.int .u8 x).wf = true) : 0 ≤ x ∧ x ≤ 255 := by
  simp [Lit.wf, IntKind.min, IntKind.max, IntKind.bits, IntKind.signed] at h; omega
theorem RivalOrder : banksmanlaw14_RivalOrder.Pure := by
  intro l hw
  refine ⟨700000, ?_⟩
  unfold banksmanlaw14_RivalOrder.f
  rw [banksmanlaw14_awake.settled, Option.bind_some]
  by_cases h : (l.length : Int) > 8
  · rw [if_pos h]
  · rw [if_neg h]
    exact law_l0 l (by omega) (fun x hx => ⟨wf_u8 (hw.2 x hx).1, wf_u8 (hw.2 x hx).2.2.2.2⟩) l.length 0 700000 (by omega) (by omega) (fun j hj => by omega)
end Go.Proofs.Ytpoaleejhdeclaa.Pure
