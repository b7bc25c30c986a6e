import Derived.Test.YtpoaleejhdeclaaLem14
import Derived.Test.YtpoaleejhdeclaaPx56
namespace Go.Proofs.Ytpoaleejhdeclaa.Pure
open Go.RowKit Go.Proofs.Ytpoaleejhdeclaa.P Go.Proofs.YtpoaleejhdeclaaW.PrintWords Go.Proofs.YtpoaleejhdeclaaW.PrintLast
set_option linter.unusedVariables false
set_option linter.unusedSimpArgs false
theorem take_snoc {α : Type} (l : List α) (i : Nat) (h : i < l.length) : l.take i ++ [l[i]] = l.take (i + 1) := by
 rw [List.take_succ_eq_append_getElem h]
theorem copy10_l0 (l : List S57) (h : few10 l = true) : ∀ (d i k : Nat), i + d = l.length → d + 1 ≤ k →
  banksmanref10_Copy.l0 k l (l.take i) (i : Int) = some l := by
 have hf := few10_mem h
 intro d
 induction d with
 | zero =>
  intro i k hi hk
  obtain ⟨k, rfl⟩ : ∃ m, k = m + 1 := ⟨k - 1, by omega⟩
  rw [banksmanref10_Copy.l0, if_neg (by omega), List.take_of_length_le (by omega)]
 | succ d ih =>
  intro i k hi hk
  obtain ⟨k, rfl⟩ : ∃ m, k = m + 1 := ⟨k - 1, by omega⟩
  have hil : i < l.length := by omega
  have e2 : (i : Int) + 1 = ((i + 1 : Nat) : Int) := by omega
  have hm := hf.2 l[i] (List.getElem_mem hil)
  rw [banksmanref10_Copy.l0, if_pos (by omega), if_pos (by omega), rd57 hil]
  simp only [Option.bind_some, List.nil_append, List.length_nil, Nat.zero_add]
  rw [if_pos (by omega), if_pos (by omega), if_pos (by rw [List.length_take]; omega), w64 (by omega) (by omega), e2]
  show banksmanref10_Copy.l0 k l (l.take i ++ [l[i]]) _ = _
  rw [take_snoc l i hil]
  exact ih (i + 1) k (by omega) (by omega)
theorem Copy10_f (l : List S57) (h : few10 l = true) (k : Nat) (hk : 200 ≤ k) : banksmanref10_Copy.f k l = some l := by
 have := (few10_mem h).1
 exact copy10_l0 l h l.length 0 k (by omega) (by omega)
theorem copy08_l0 (l : List S59) (h : few08 l = true) : ∀ (d i k : Nat), i + d = l.length → d + 1 ≤ k →
  banksmanref08_Copy.l0 k (i : Int) l [] (l.take i) [] = some (l, []) := by
 have hf := few08_mem h
 intro d
 induction d with
 | zero =>
  intro i k hi hk
  obtain ⟨k, rfl⟩ : ∃ m, k = m + 1 := ⟨k - 1, by omega⟩
  rw [banksmanref08_Copy.l0, if_neg (by omega), List.take_of_length_le (by omega)]
 | succ d ih =>
  intro i k hi hk
  obtain ⟨k, rfl⟩ : ∃ m, k = m + 1 := ⟨k - 1, by omega⟩
  have hil : i < l.length := by omega
  have e2 : (i : Int) + 1 = ((i + 1 : Nat) : Int) := by omega
  have hm := hf.2 l[i] (List.getElem_mem hil)
  have ew : banksmanref08_write.f l[i].f0 l[i].f1 l[i].f2 l[i].f3 = some (l[i].f0, l[i].f1, l[i].f2, l[i].f3) := by
   unfold banksmanref08_write.f
   simp only [Option.bind_some, List.nil_append, List.length_nil, Nat.zero_add]
   rw [if_pos (by omega), if_pos (by omega)]
  rw [banksmanref08_Copy.l0, if_pos (by omega), if_pos (by omega), rd59 hil, ew, Option.bind_some, if_pos (by rw [List.length_take]; omega), w64 (by omega) (by omega), e2]
  show banksmanref08_Copy.l0 k _ l [] (l.take i ++ [l[i]]) [] = _
  rw [take_snoc l i hil]
  exact ih (i + 1) k (by omega) (by omega)
theorem Copy08_f (l : List S59) (h : few08 l = true) (k : Nat) (hk : 200 ≤ k) : banksmanref08_Copy.f k l [] = some (l, []) := by
 have := (few08_mem h).1
 unfold banksmanref08_Copy.f
 rw [Option.bind_some, if_pos (by simp)]
 exact copy08_l0 l h l.length 0 k (by omega) (by omega)
theorem Copy13_f (p : S50) (h3 : few10 p.f3 = true) (h4 : few08 p.f4 = true) (k : Nat) (hk : 200 ≤ k) : banksmanref13_Copy.f k p.f0 p.f1 p.f2 p.f3 p.f4 p.f5 = some (p.f0, p.f1, p.f2, p.f3, p.f4, p.f5) := by
 unfold banksmanref13_Copy.f
 rw [Copy10_f p.f3 h3 k hk, Option.bind_some, Copy08_f p.f4 h4 k hk, Option.bind_some]
theorem keep_l0 (snap : Int) (l : List S50) (hl : l.length ≤ 30) (ho : ∀ p ∈ l, few10 p.f3 = true ∧ few08 p.f4 = true ∧ p.f3.length ≤ 30) : ∀ (d i k : Nat), i + d = l.length → 4 * d + 300 ≤ k →
  banksmanref13_Keep.l0 k l [⟨snap, []⟩] (meetB snap (l.take i)) (i : Int) = some (meetB snap l) := by
 intro d
 induction d with
 | zero =>
  intro i k hi hk
  obtain ⟨k, rfl⟩ : ∃ m, k = m + 1 := ⟨k - 1, by omega⟩
  rw [banksmanref13_Keep.l0, if_neg (by omega), List.take_of_length_le (by omega)]
 | succ d ih =>
  intro i k hi hk
  obtain ⟨k, rfl⟩ : ∃ m, k = m + 3 := ⟨k - 3, by omega⟩
  have hil : i < l.length := by omega
  have e2 : (i : Int) + 1 = ((i + 1 : Nat) : Int) := by omega
  have hm := ho l[i] (List.getElem_mem hil)
  have r0 : rd_T24 [(⟨snap, []⟩ : S24)] 0 = ⟨snap, []⟩ := rfl
  have e1 : wrap64 (0 + 1) = 1 := by unfold wrap64; omega
  have es : meetB snap (l.take (i + 1)) = meetB snap (l.take i) ++ if snap < l[i].f1 then [l[i]] else [] := by
    rw [← take_snoc l i hil]
    unfold meetB
    rw [List.filter_append]
    by_cases h : snap < l[i].f1 <;> simp [h]
  have hln : (meetB snap (l.take i)).length ≤ 30 := Nat.le_trans (List.length_filter_le _ _) (by rw [List.length_take]; omega)
  rw [banksmanref13_Keep.l0, if_pos (by omega), banksmanref13_Keep.l1, if_pos (by simp), if_neg (by simp), if_pos (by omega), if_pos (by omega), if_pos (by omega), rd50 hil, r0, e1, banksmanref13_Keep.l1, if_neg (by simp), w64 (by omega) (by omega), e2]
  have nx := ih (i + 1) k (by omega) (by omega)
  by_cases h : snap < l[i].f1
  · rw [if_pos (decide_eq_true h), if_pos (by omega), if_pos (by omega), rd50 hil, Copy13_f _ hm.1 hm.2.1 k (by omega), Option.bind_some, if_pos (by omega)]
    rw [es, if_pos h] at nx
    exact nx
  · rw [if_neg (by simpa using h)]
    rw [es, if_neg h, List.append_nil] at nx
    exact nx
theorem RMeets_f (snap : Int) (l : List S50) (hl : l.length ≤ 30) (ho : ∀ p ∈ l, few10 p.f3 = true ∧ few08 p.f4 = true ∧ p.f3.length ≤ 30) (k : Nat) (hk : 1000 ≤ k) : banksmanref14_Meets.f k snap l = some (meetB snap l) := by
 have := keep_l0 snap l hl ho l.length 0 k (by omega) (by omega)
 unfold banksmanref14_Meets.f banksmanref13_Keep.f
 rw [List.take_zero] at this
 have e : meetB snap [] = [] := rfl
 rw [e] at this
 show (banksmanref13_Keep.l0 k l [⟨snap, []⟩] [] ((0 : Nat) : Int)).bind _ = _
 rw [this, Option.bind_some]
def outB (rd : List S57) (wr : List S59) (live : List S24) (o n : Bool) (m : List S50) : Bool × Int :=
 if m.any (badB rd wr) = true then (false, 140) else
  if (o || m.any fun p => hitB rd p.f4) = true then (if (n || (m.any fun p => hitB p.f3 wr) || live.any fun v => hitB v.f1 wr) = true then (false, 140) else (true, 0)) else (false, 0)
theorem rj_l1 (wr : List S59) (live : List S24) (hw : wr.length ≤ 30) (hv : live.length ≤ 30) (ho : ∀ x ∈ live, few10 x.f1 = true ∧ x.f1.length ≤ 30) (o : Bool) : ∀ (d i k : Nat) (n : Bool), i + d = live.length → d + 4000 ≤ k →
  banksmanref14_Judge.l1 k wr live o n (i : Int) = some (if o = true then (if (n || (live.drop i).any fun v => hitB v.f1 wr) = true then (false, 140) else (true, 0)) else (false, 0)) := by
 intro d
 induction d with
 | zero =>
  intro i k n hi hk
  obtain ⟨k, rfl⟩ : ∃ m, k = m + 1 := ⟨k - 1, by omega⟩
  rw [banksmanref14_Judge.l1, if_neg (by omega), List.drop_of_length_le (by omega)]
  cases o <;> cases n <;> rfl
 | succ d ih =>
  intro i k n hi hk
  obtain ⟨k, rfl⟩ : ∃ m, k = m + 1 := ⟨k - 1, by omega⟩
  have hil : i < live.length := by omega
  have e2 : (i : Int) + 1 = ((i + 1 : Nat) : Int) := by omega
  have hm := ho live[i] (List.getElem_mem hil)
  have b1 : live[i].f1.length * (wr.length + 2) ≤ 30 * 32 := Nat.mul_le_mul hm.2 (by omega)
  rw [banksmanref14_Judge.l1, if_pos (by omega), if_pos (by omega), rd24 hil, Hit_f live[i].f1 wr (by omega) (by omega) k (by omega), Option.bind_some, w64 (by omega) (by omega), e2, ih (i + 1) k _ (by omega) (by omega), ih (i + 1) k _ (by omega) (by omega), any_split live i hil]
  cases n <;> simp
theorem rj_l0 (wr : List S59) (live : List S24) (m : List S50) (snap : Int) (rd : List S57) (hr : rd.length ≤ 100) (hw : wr.length ≤ 30) (hv : live.length ≤ 30) (hm : m.length ≤ 30) (ho : ∀ x ∈ live, few10 x.f1 = true ∧ x.f1.length ≤ 30) (hp : ∀ p ∈ m, few10 p.f3 = true ∧ few08 p.f4 = true ∧ p.f3.length ≤ 30) : ∀ (d i k : Nat) (o n : Bool), i + d = m.length → d + 5000 ≤ k →
  banksmanref14_Judge.l0 k wr live m o n (i : Int) snap rd = some (outB rd wr live o n (m.drop i)) := by
 intro d
 induction d with
 | zero =>
  intro i k o n hi hk
  obtain ⟨k, rfl⟩ : ∃ m, k = m + 1 := ⟨k - 1, by omega⟩
  have := rj_l1 wr live hw hv ho o live.length 0 k n (by omega) (by omega)
  rw [List.drop_zero] at this
  rw [banksmanref14_Judge.l0, if_neg (by omega), List.drop_of_length_le (by omega)]
  refine Eq.trans this ?_
  unfold outB
  simp
 | succ d ih =>
  intro i k o n hi hk
  obtain ⟨k, rfl⟩ : ∃ m, k = m + 1 := ⟨k - 1, by omega⟩
  have hil : i < m.length := by omega
  have e2 : (i : Int) + 1 = ((i + 1 : Nat) : Int) := by omega
  have h := hp m[i] (List.getElem_mem hil)
  have h4 := (few08_mem h.2.1).1
  have b0 : m[i].f4.length * (wr.length + 2) ≤ 30 * 32 := Nat.mul_le_mul h4 (by omega)
  have b1 : rd.length * (m[i].f4.length + 2) ≤ 100 * 32 := Nat.mul_le_mul hr (by omega)
  have b2 : m[i].f3.length * (wr.length + 2) ≤ 30 * 32 := Nat.mul_le_mul h.2.2 (by omega)
  rw [banksmanref14_Judge.l0, if_pos (by omega), if_pos (by omega), rd50 hil, Same_f m[i].f4 wr (by omega) (by omega) k (by omega), Option.bind_some, Hit_f rd m[i].f4 (by omega) (by omega) k (by omega), Option.bind_some, Hit_f m[i].f3 wr (by omega) (by omega) k (by omega), Option.bind_some, w64 (by omega) (by omega), e2]
  simp only [ih (i + 1) k _ _ (by omega) (by omega)]
  unfold outB badB
  rw [any_split m i hil, any_split m i hil, any_split m i hil]
  cases saB m[i].f4 wr <;> cases hitB rd m[i].f4 <;> cases m[i].f5 <;> cases hitB m[i].f3 wr <;> cases o <;> cases n <;> simp
theorem out_judge (rd : List S57) (wr : List S59) (live : List S24) (m : List S50) : outB rd wr live false false m = judgeB rd wr m live := by
 unfold outB judgeB
 cases m.any (badB rd wr) <;> cases (m.any fun p => hitB rd p.f4) <;> cases (m.any fun p => hitB p.f3 wr) <;> cases (live.any fun v => hitB v.f1 wr) <;> rfl
theorem same10_l0 (l : List S57) (hl : l.length ≤ 100) : ∀ (d i k : Nat), i + d = l.length → d + 1 ≤ k → banksmanref10_Same.l0 k l l (i : Int) = some true := by
 intro d
 induction d with
 | zero =>
  intro i k hi hk
  obtain ⟨k, rfl⟩ : ∃ m, k = m + 1 := ⟨k - 1, by omega⟩
  rw [banksmanref10_Same.l0, if_neg (by omega)]
 | succ d ih =>
  intro i k hi hk
  obtain ⟨k, rfl⟩ : ∃ m, k = m + 1 := ⟨k - 1, by omega⟩
  have e2 : (i : Int) + 1 = ((i + 1 : Nat) : Int) := by omega
  have e1 : ∀ x : S57, banksmanref10_One.f x.f0 x.f1 x.f2 x.f3 x.f0 x.f1 x.f2 x.f3 = some true := fun x => by unfold banksmanref10_One.f; simp
  rw [banksmanref10_Same.l0, if_pos (by omega), if_pos (by omega), if_pos (by omega), e1, Option.bind_some, if_pos rfl, w64 (by omega) (by omega), e2]
  exact ih (i + 1) k (by omega) (by omega)
theorem writes_l0 (l : List S59) (hl : l.length ≤ 30) : ∀ (d i k : Nat), i + d = l.length → d + 1 ≤ k → banksmanref08_Writes.l0 k l l (i : Int) = some true := by
 intro d
 induction d with
 | zero =>
  intro i k hi hk
  obtain ⟨k, rfl⟩ : ∃ m, k = m + 1 := ⟨k - 1, by omega⟩
  rw [banksmanref08_Writes.l0, if_neg (by omega)]
 | succ d ih =>
  intro i k hi hk
  obtain ⟨k, rfl⟩ : ∃ m, k = m + 1 := ⟨k - 1, by omega⟩
  have e2 : (i : Int) + 1 = ((i + 1 : Nat) : Int) := by omega
  rw [banksmanref08_Writes.l0, if_pos (by omega), if_pos (by omega), if_pos (by omega), if_pos rfl, if_pos rfl, if_neg (by simp), if_pos rfl, w64 (by omega) (by omega), e2]
  exact ih (i + 1) k (by omega) (by omega)
theorem One_f (p : S50) (h3 : few10 p.f3 = true) (h4 : few08 p.f4 = true) (k : Nat) (hk : 200 ≤ k) : banksmanref13_One.f k p.f0 p.f1 p.f2 p.f3 p.f4 p.f5 p.f0 p.f1 p.f2 p.f3 p.f4 p.f5 = some true := by
 have a := (few10_mem h3).1
 have b := (few08_mem h4).1
 have s1 : banksmanref10_Same.f k p.f3 p.f3 = some true := by
  unfold banksmanref10_Same.f
  rw [if_pos rfl]
  exact same10_l0 p.f3 a p.f3.length 0 k (by omega) (by omega)
 have s2 : banksmanref08_Writes.f k p.f4 p.f4 = some true := by
  unfold banksmanref08_Writes.f
  rw [if_pos rfl]
  exact writes_l0 p.f4 b p.f4.length 0 k (by omega) (by omega)
 unfold banksmanref13_One.f
 rw [s1, Option.bind_some, if_pos rfl, s2, Option.bind_some]
 simp
theorem all_l0 (m : List S50) (hm : m.length ≤ 30) (hp : ∀ p ∈ m, few10 p.f3 = true ∧ few08 p.f4 = true ∧ p.f3.length ≤ 30) : ∀ (d i k : Nat), i + d = m.length → d + 300 ≤ k → banksmanref13_All.l0 k m m (i : Int) = some true := by
 intro d
 induction d with
 | zero =>
  intro i k hi hk
  obtain ⟨k, rfl⟩ : ∃ m, k = m + 1 := ⟨k - 1, by omega⟩
  rw [banksmanref13_All.l0, if_neg (by omega)]
 | succ d ih =>
  intro i k hi hk
  obtain ⟨k, rfl⟩ : ∃ m, k = m + 1 := ⟨k - 1, by omega⟩
  have hil : i < m.length := by omega
  have e2 : (i : Int) + 1 = ((i + 1 : Nat) : Int) := by omega
  have h := hp m[i] (List.getElem_mem hil)
  rw [banksmanref13_All.l0, if_pos (by omega), if_pos (by omega), if_pos (by omega), rd50 hil, One_f m[i] h.1 h.2.1 k (by omega), Option.bind_some, if_pos rfl, w64 (by omega) (by omega), e2]
  exact ih (i + 1) k (by omega) (by omega)
theorem All_f (m : List S50) (hm : m.length ≤ 30) (hp : ∀ p ∈ m, few10 p.f3 = true ∧ few08 p.f4 = true ∧ p.f3.length ≤ 30) (k : Nat) (hk : 1000 ≤ k) : banksmanref13_All.f k m m = some true := by
 unfold banksmanref13_All.f
 rw [if_pos rfl]
 exact all_l0 m hm hp m.length 0 k (by omega) (by omega)
theorem RivalTells : banksmanlaw14_RivalTells.Pure := by
 intro snap rd wr l live _ _ _ _ _
 refine ⟨10000, ?_⟩
 unfold banksmanlaw14_RivalTells.f
 rw [banksmanlaw14_awake.settled, Option.bind_some, Few10_f rd _ (by omega), Option.bind_some]
 have e1 : banksmanlaw14_RivalTells.j0 10000 wr l live true true snap rd = some true := by rw [banksmanlaw14_RivalTells.j0]; rfl
 cases h1 : few10 rd with
 | false => rw [if_neg (by simp), e1]
 | true =>
  rw [if_pos rfl, Few08_f wr _ (by omega), Option.bind_some]
  cases h2 : few08 wr with
  | false => rw [if_neg (by simp), e1]
  | true =>
   rw [if_pos rfl, Few13_f l live _ (by omega), Option.bind_some]
   cases h3 : few13 l live with
   | false => exact e1
   | true =>
    have a1 := few10_mem h1
    have a2 := few08_mem h2
    have a3 := few13_mem h3
    have hok : ∀ p ∈ l, okPa p = true := fun p hp => okPa_few (a3.2.2.1 p hp).1 (a3.2.2.1 p hp).2.1
    have hml : (meetB snap l).length ≤ 30 := Nat.le_trans (List.length_filter_le _ _) a3.1
    have hmp : ∀ p ∈ meetB snap l, few10 p.f3 = true ∧ few08 p.f4 = true ∧ p.f3.length ≤ 30 := fun p hp => a3.2.2.1 p (List.mem_filter.mp hp).1
    have ej : banksmanref14_Judge.f 9999 snap rd wr l live = some (judgeB rd wr (meetB snap l) live) := by
     unfold banksmanref14_Judge.f
     rw [RMeets_f snap l a3.1 a3.2.2.1 9999 (by omega), Option.bind_some, ← out_judge]
     exact rj_l0 wr live (meetB snap l) snap rd a1.1 a2.1 a3.2.1 hml a3.2.2.2 hmp (meetB snap l).length 0 9999 false false (by omega) (by omega)
    show banksmanlaw14_RivalTells.j0 10000 wr l live true false snap rd = some true
    rw [banksmanlaw14_RivalTells.j0, if_neg (by simp), Judge_f snap rd wr l live (by omega) hok, Option.bind_some, ej, Option.bind_some, Meets_f snap l (by omega) hok, Option.bind_some, RMeets_f snap l a3.1 a3.2.2.1 9999 (by omega), Option.bind_some, All_f _ hml hmp 9999 (by omega), Option.bind_some]
    simp
end Go.Proofs.Ytpoaleejhdeclaa.Pure
