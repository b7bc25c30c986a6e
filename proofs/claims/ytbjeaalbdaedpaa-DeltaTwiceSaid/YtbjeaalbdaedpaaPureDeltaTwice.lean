import Derived.Test.YtbjeaalbdaedpaaLem08c
import Derived.Test.YtbjeaalbdaedpaaPx103
namespace Go.Proofs.Ytbjeaalbdaedpaa.Pure
open Go.RowKit Go.Proofs.Ytbjeaalbdaedpaa.P Go.Proofs.YtbjeaalbdaedpaaW.PrintWords Go.Proofs.YtbjeaalbdaedpaaW.PrintLast
set_option linter.unusedVariables false
set_option linter.unusedSimpArgs false
theorem ltW_apart (t : Int) (lo hi : List Int) (op : Bool) {ws : List S28} (h : ws.Pairwise ltW) : Apart t lo hi op ws := by
  refine h.imp fun {w v} hlt h1 h2 h0 => ?_
  have e1 : w.f0 = t := by unfold inX at h1; simp only [Bool.and_eq_true, decide_eq_true_eq] at h1; exact h1.1
  have e2 : v.f0 = t := by unfold inX at h2; simp only [Bool.and_eq_true, decide_eq_true_eq] at h2; exact h2.1
  have e3 : Lib.bytesOf w.f1 = Lib.bytesOf v.f1 := cmp_zero _ _ h0
  have e4 : strOfNums w.f1 = strOfNums v.f1 := congrArg (fun b : List UInt8 => (⟨b.toArray⟩ : ByteArray)) e3
  refine ltW_ne hlt ?_
  unfold plW
  rw [e1, e2, e4]
def lastW (d : List S28) (m : List Int) : List S28 := if checkD d m = true then lastL d else []
theorem lastW_rises (d : List S28) (m : List Int) : (lastW d m).Pairwise ltW := by
  unfold lastW
  split
  · exact (lastL_spec _ d rfl).1
  · exact .nil
theorem lastL_sub {d : List S28} {x : S28} (h : x ∈ lastL d) : x ∈ d := by
  have := ((lastL_spec _ d rfl).2 x).1 h
  unfold lastAt at this
  exact List.mem_reverse.1 (List.mem_of_find?_eq_some this)
theorem lastW_sub {d : List S28} {m : List Int} {x : S28} (h : x ∈ lastW d m) : x ∈ d := by
  unfold lastW at h
  split at h
  · exact lastL_sub h
  · cases h
theorem over_eq (d : List S28) (m : List Int) (t : Int) (lo hi : List Int) (op : Bool) (l : List S53) : overL d m t lo hi op l = if risesL l = true then (lastW d m).foldl (ovStep t lo hi op) l else l := rfl
theorem over_mem (d : List S28) (m : List Int) (t : Int) (lo hi : List Int) (op : Bool) {l : List S53} (h : risesL l = true) : Sr (overL d m t lo hi op l) ∧
    ∀ y, y ∈ overL d m t lo hi op l ↔ (∃ w ∈ lastW d m, inX t lo hi op w = true ∧ w.f2 = false ∧ y = pairOf w) ∨ (y ∈ l ∧ ∀ w ∈ lastW d m, inX t lo hi op w = true → cmpK y.f0 w.f1 ≠ 0) := by
  rw [over_eq, if_pos h]
  exact fold_mem t lo hi op _ (ltW_apart t lo hi op (lastW_rises d m)) (rises_Sr h)
theorem over_twice (d : List S28) (m : List Int) (t : Int) (lo hi : List Int) (op : Bool) (l : List S53) : overL d m t lo hi op (overL d m t lo hi op l) = overL d m t lo hi op l := by
  cases h : risesL l
  · have e : overL d m t lo hi op l = l := by rw [over_eq, if_neg (by rw [h]; simp)]
    rw [e, e]
  · obtain ⟨h1, h2⟩ := over_mem d m t lo hi op h
    obtain ⟨h3, h4⟩ := over_mem d m t lo hi op (Sr_rises h1)
    refine Sr_unique h3 h1 fun y => ?_
    rw [h4 y, h2 y]
    constructor
    · rintro (g | ⟨g, _⟩)
      · exact .inl g
      · exact g
    · rintro (g | ⟨g, hall⟩)
      · exact .inl g
      · exact .inr ⟨.inr ⟨g, hall⟩, hall⟩
def shortL (l : List S53) : Bool := decide (l.length ≤ 100) && l.all fun p => decide (p.f0.length ≤ 100) && decide (p.f1.length ≤ 100)
theorem short_l0 (l : List S53) (hl : l.length ≤ 100) : ∀ (d i k : Nat), i + d = l.length → d + 1 ≤ k →
    banksmanlaw08_short.l0 k l (i : Int) = some ((l.drop i).all fun p => decide (p.f0.length ≤ 100) && decide (p.f1.length ≤ 100)) := by
  intro d
  induction d with
  | zero =>
    intro i k hi hk
    obtain ⟨k, rfl⟩ : ∃ m, k = m + 1 := ⟨k - 1, by omega⟩
    rw [banksmanlaw08_short.l0, if_neg (by omega), List.drop_of_length_le (by omega)]
    rfl
  | succ d ih =>
    intro i k hi hk
    obtain ⟨k, rfl⟩ : ∃ m, k = m + 1 := ⟨k - 1, by omega⟩
    have hil : i < l.length := by omega
    have e2 : (i : Int) + 1 = ((i + 1 : Nat) : Int) := by omega
    rw [banksmanlaw08_short.l0, if_pos (by omega), if_pos (by omega), rd53 hil, w64 (by omega) (by omega), e2, ih (i + 1) k (by omega) (by omega), all_split l i hil]
    by_cases h1 : (l[i].f0.length : Int) > 100
    · rw [if_pos h1, decide_eq_false (by omega)]; rfl
    · rw [if_neg h1, decide_eq_true (by omega : l[i].f0.length ≤ 100), Bool.true_and]
      by_cases h2 : (l[i].f1.length : Int) > 100
      · rw [if_pos h2, decide_eq_false (by omega)]; rfl
      · rw [if_neg h2, decide_eq_true (by omega : l[i].f1.length ≤ 100), Bool.true_and]
theorem short_f (l : List S53) {k : Nat} (hk : 101 ≤ k) : banksmanlaw08_short.f k l = some (shortL l) := by
  unfold banksmanlaw08_short.f shortL
  by_cases h : (l.length : Int) > 100
  · rw [if_pos h, decide_eq_false (by omega)]; rfl
  · rw [if_neg h, decide_eq_true (by omega : l.length ≤ 100), Bool.true_and]
    have := short_l0 l (by omega) l.length 0 k (by omega) (by omega)
    rw [List.drop_zero] at this
    exact this
theorem pairs_l0 (l : List S53) (hl : l.length ≤ 1000) : ∀ (d i k : Nat), i + d = l.length → d + 1 ≤ k → banksmanref07_Pairs.l0 k l l (i : Int) = some true := by
  intro d
  induction d with
  | zero =>
    intro i k hi hk
    obtain ⟨k, rfl⟩ : ∃ m, k = m + 1 := ⟨k - 1, by omega⟩
    rw [banksmanref07_Pairs.l0, if_neg (by omega)]
  | succ d ih =>
    intro i k hi hk
    obtain ⟨k, rfl⟩ : ∃ m, k = m + 1 := ⟨k - 1, by omega⟩
    have e2 : (i : Int) + 1 = ((i + 1 : Nat) : Int) := by omega
    rw [banksmanref07_Pairs.l0, if_pos (by omega), if_pos (by omega), if_pos (by omega), if_pos rfl, if_pos rfl, w64 (by omega) (by omega), e2, ih (i + 1) k (by omega) (by omega)]
theorem Pairs_self (l : List S53) (hl : l.length ≤ 1000) {k : Nat} (hk : 1001 ≤ k) : banksmanref07_Pairs.f k l l = some true := by
  unfold banksmanref07_Pairs.f
  rw [if_pos rfl]
  exact pairs_l0 l hl l.length 0 k (by omega) (by omega)
theorem lastW_len (d : List S28) (m : List Int) : (lastW d m).length ≤ 20 := by
  unfold lastW
  split
  · rename_i h
    have := (check_len h).1
    exact Nat.le_trans (lastL_len d) this
  · exact Nat.zero_le _
theorem over_ok {d : List S28} {m : List Int} (hs : Sm 30 d m) (t : Int) (lo hi : List Int) (op : Bool) {l : List S53} (hl : shortL l = true) : okPs (overL d m t lo hi op l) = true ∧ (overL d m t lo hi op l).length ≤ 1000 := by
  unfold shortL at hl
  simp only [Bool.and_eq_true, decide_eq_true_eq, List.all_eq_true] at hl
  have hlen : (overL d m t lo hi op l).length ≤ 1000 := by
    rw [over_eq]
    split
    · have h1 := ovFold_len t lo hi op (lastW d m) l
      have h2 := lastW_len d m
      omega
    · omega
  refine ⟨?_, hlen⟩
  unfold okPs
  rw [decide_eq_true hlen, Bool.true_and, List.all_eq_true]
  intro y hy
  simp only [Bool.and_eq_true, decide_eq_true_eq]
  cases h : risesL l
  · rw [over_eq, if_neg (by rw [h]; simp)] at hy
    have := hl.2 y hy
    omega
  · rcases ((over_mem d m t lo hi op h).2 y).1 hy with ⟨w, hw, _, _, rfl⟩ | ⟨hy, _⟩
    · have := hs.2.2 w (lastW_sub hw)
      unfold pairOf
      simp only
      omega
    · have := hl.2 y hy
      omega
theorem short_ok {l : List S53} (hl : shortL l = true) : okPs l = true := by
  unfold shortL at hl
  simp only [Bool.and_eq_true, decide_eq_true_eq, List.all_eq_true] at hl
  unfold okPs
  simp only [Bool.and_eq_true, decide_eq_true_eq, List.all_eq_true]
  exact ⟨by omega, fun y hy => by have := hl.2 y hy; omega⟩
theorem Over_f (d : List S28) (m : List Int) (t : Int) (lo hi : List Int) (op : Bool) {l : List S53} (h : okPs l = true) : delta_Over.f d m t lo hi op l = some (overL d m t lo hi op l) := by
  unfold delta_Over.f; rw [if_pos h]
theorem check_put {d : List S28} {m : List Int} {x : S28} (h : checkD d m = true) (hx : mayB x = true) (hl : d.length < 20) : checkD (d ++ [x]) m = true := by
  unfold checkD at h ⊢
  simp only [Bool.and_eq_true, Bool.not_eq_true', decide_eq_true_eq, List.any_eq_false, Bool.or_eq_true, not_or, List.length_append, List.length_singleton, List.mem_append, List.mem_singleton] at h ⊢
  refine ⟨by omega, h.2.1, fun y hy => ?_, fun n hn => ?_, h.2.2.2.2⟩
  · rcases hy with hy | rfl
    · exact h.2.2.1 y hy
    · rw [hx]; simp
  · have := h.2.2.2.1 n hn
    omega
theorem last_again {d : List S28} {x : S28} (h : x ∈ lastL d) : lastL (d ++ [x]) = lastL d := by
  obtain ⟨h1, h2⟩ := lastL_spec _ d rfl
  refine (lastL_unique _ _ h1 fun y => ?_).symm
  rw [h2 y, lastAt_snoc]
  by_cases e : plW x = plW y
  · rw [if_pos e, ← e, (h2 x).1 h]
  · rw [if_neg e]
theorem DeltaTwice : banksmanlaw08_DeltaTwice.Pure := by
  intro d m t lo hi op l _ _ _ _ _ _
  refine ⟨2001, ?_⟩
  unfold banksmanlaw08_DeltaTwice.f banksmanlaw08_awake.f
  rw [Option.bind_some, Few08_f _ _ _ (by omega), Option.bind_some]
  cases hf : few08 d m
  · rw [if_neg (by simp), banksmanlaw08_DeltaTwice.j0, if_pos rfl]
  rw [if_pos rfl]
  by_cases h1 : (lo.length : Int) > 100
  · rw [if_pos h1, banksmanlaw08_DeltaTwice.j0, if_pos rfl]
  rw [if_neg h1]
  by_cases h2 : (hi.length : Int) > 100
  · rw [if_pos h2, banksmanlaw08_DeltaTwice.j0, if_pos rfl]
  rw [if_neg h2, short_f l (by omega), Option.bind_some, banksmanlaw08_DeltaTwice.j0]
  cases hsh : shortL l
  · rw [if_pos (show (!false) = true from rfl)]
  rw [if_neg (by simp)]
  have hs := few_Sm hf
  obtain ⟨ho1, ho2⟩ := over_ok hs t lo hi op hsh
  rw [Over_f d m t lo hi op (short_ok hsh), Option.bind_some, Over_f d m t lo hi op ho1, Option.bind_some, over_twice, Pairs_self _ ho2 (by omega), Option.bind_some]
  have hL : delta_Last.f d m = some (lastW d m) := rfl
  rw [hL, Option.bind_some]
  by_cases h0 : ((lastW d m).length : Int) = 0
  · rw [if_pos h0, if_pos rfl]
  rw [if_neg h0, if_pos (by omega)]
  have hpos : 0 < (lastW d m).length := by omega
  have hr : rd_T28 (lastW d m) 0 = (lastW d m)[0] := rd28 (i := 0) hpos
  rw [hr]
  have hx : (lastW d m)[0] ∈ lastW d m := List.getElem_mem hpos
  generalize (lastW d m)[0] = x at hx
  have hxd := lastW_sub hx
  obtain ⟨g1, g3⟩ := hs.2.2 x hxd
  have hck : checkD d m = true := by
    cases hc : checkD d m
    · unfold lastW at hx; rw [hc] at hx; simp at hx
    · rfl
  have hxl : x ∈ lastL d := by unfold lastW at hx; rw [if_pos hck] at hx; exact hx
  rw [Put_f (by omega : 30 ≤ 1000) hs x g1 g3 (by omega), Option.bind_some]
  have hw : (lastW d m).length ≤ 1000 := Nat.le_trans (lastW_len d m) (by omega)
  by_cases c1 : (checkD d m && mayB x) = false
  · rw [if_pos c1]
    dsimp only
    rw [hL, Option.bind_some, Writes_self _ hw (by omega), Option.bind_some, if_pos rfl, if_pos rfl]
    rfl
  · rw [if_neg c1]
    by_cases c2 : 20 ≤ d.length
    · rw [if_pos c2]
      dsimp only
      rw [hL, Option.bind_some, Writes_self _ hw (by omega), Option.bind_some, if_pos rfl, if_pos rfl]
      rfl
    · rw [if_neg c2]
      dsimp only
      have hmay : mayB x = true := by
        cases hm : mayB x
        · rw [hm, Bool.and_false] at c1; exact absurd rfl c1
        · rfl
      have hL2 : delta_Last.f (d ++ [x]) m = some (lastW d m) := by
        unfold delta_Last.f lastW
        rw [if_pos (check_put hck hmay (by omega)), if_pos hck, last_again hxl]
      rw [hL2, Option.bind_some, Writes_self _ hw (by omega), Option.bind_some, if_pos rfl, if_pos rfl, if_pos rfl]
end Go.Proofs.Ytbjeaalbdaedpaa.Pure
