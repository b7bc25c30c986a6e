-- Written by wip/gprint.py, a program of this session over the kit's print; Lean checks it.
import Derived.Test.YtdkfahobgnmglaaPx0
import Derived.Test.YtdkfahobgnmglaaPx1
namespace Go.Proofs.Ytdkfahobgnmglaa.P
open Go.RowKit Go.Proofs.YtdkfahobgnmglaaW.PrintWords Go.Proofs.YtdkfahobgnmglaaW.PrintLast Go.Proofs.YtdkfahobgnmglaaW.PrintMore
attribute [local go_sem] max2_int min2_int max_two min_two max_three min_three max_four min_four   -- for this text's walks alone
set_option linter.unusedVariables false
set_option linter.unusedSimpArgs false

/-GIVEN chain_behind-/
/-! ### chain_behind: function 23 -/
def behindN (l : List S25) (s : Int) : Nat := (l.takeWhile fun x => decide (x.f0 ≤ s)).length
theorem behindN_le (l : List S25) (s : Int) : behindN l s ≤ l.length := by
  unfold behindN
  induction l with
  | nil => simp
  | cons x l ih =>
    rw [List.takeWhile_cons]
    split
    · simp only [List.length_cons]; omega
    · simp
theorem behindN_at (s : Int) : ∀ (l : List S25) (k : Nat), k ≤ behindN l s → k < l.length → (s < (rd_T25 l (k : Int)).f0 → behindN l s = k) ∧ (¬ s < (rd_T25 l (k : Int)).f0 → k + 1 ≤ behindN l s) := by
  intro l
  induction l with
  | nil => intro k _ h; simp at h
  | cons x l ih =>
    intro k hk hlt
    cases k with
    | zero =>
      have e : rd_T25 (x :: l) ((0 : Nat) : Int) = x := by simp [rd_T25]
      rw [e]
      unfold behindN
      rw [List.takeWhile_cons]
      constructor
      · intro h; rw [if_neg (by simp; omega)]; rfl
      · intro h; rw [if_pos (by simp; omega), List.length_cons]; omega
    | succ k =>
      have e : rd_T25 (x :: l) ((k + 1 : Nat) : Int) = rd_T25 l (k : Int) := by
        unfold rd_T25
        rw [Int.toNat_natCast, Int.toNat_natCast, List.getD_cons_succ]
      rw [e]
      unfold behindN at hk ⊢
      rw [List.takeWhile_cons] at hk ⊢
      split at hk
      · rename_i hx
        rw [if_pos hx, List.length_cons] at *
        have := ih k (by unfold behindN; omega) (by simpa using hlt)
        unfold behindN at this
        constructor
        · intro h; have := this.1 h; omega
        · intro h; have := this.2 h; omega
      · simp at hk
def chain_behind.f (l0 : List (S25)) (a1 : Int) : Option (Int) := some (behindN l0 a1)
def idxRes (l : List S25) (s : Int) : Int := if behindN l s < l.length then (behindN l s : Int) else -1
theorem idxRes_lt {l : List S25} {s : Int} (h : behindN l s < l.length) : idxRes l s = behindN l s := by unfold idxRes; rw [if_pos h]
theorem idxRes_ge {l : List S25} {s : Int} (h : ¬ behindN l s < l.length) : idxRes l s = -1 := by unfold idxRes; rw [if_neg h]
set_option maxHeartbeats 1000000 in
set_option maxRecDepth 100000 in
theorem chain_over (f0 : Int) (f1 : Bool) (v2 : Value) (s : Int) (g : Nat) (w : World) (b : Bool) (hb : decide (s < f0) = b) (hg : w.heap[g]? = some (.cells #[.int .i64 s] 3 (0, 0))) :
    Calls Try.prog 32 #[.agg #[.int .i64 f0, .bool f1, v2], .pointer (some ⟨g, 0, none⟩)] w fun e w' => e = .returned (.bool b) ∧ Below w.heap.size w w' := by
  have hc : ∀ o, (w.alloc o).cell? ⟨g, 0, none⟩ = some (.int .i64 s) := fun o => (World.cell?_alloc_lt w o _ (blk_lt hg)).trans ((blk_cell hg 0).trans rfl)
  have hu := Try.underlying25
  clear hg
  go_enter Try.func32, Try.ntmps32
  go_wp2
  go_ret
  exact ⟨rfl, below_alloc (Below.refl _ _) _⟩
set_option maxHeartbeats 1000000 in
set_option maxRecDepth 100000 in
theorem chain_idx (A0 : Option Addr) (c0 : Nat) (l0 : List S25) (s : Int) (g : Nat) (w : World) (hr0 : Kd.C k25 w A0 l0.length l0) (hg : w.heap[g]? = some (.cells #[.int .i64 s] 3 (0, 0))) :
    Calls Try.prog 31 #[.slice A0 l0.length c0, .func (.func 32) #[] #[.pointer (some ⟨g, 0, none⟩)]] w fun e w' => e = .returned (.int .i64 (idxRes l0 s)) ∧ Below w.heap.size w w' := by
  have hm : l0.length ≤ 9223372036854775807 := Kd.C_max hr0
  have HR := Aside0.mk hr0
  have HG := Aside0.mk hg
  have hgl : g < w.heap.size := blk_lt hg
  have hu := Try.underlying25
  clear hr0 hg
  go_enter Try.func31, Try.ntmps31
  go_wp2
  go_loopw [8] (fun i wr => ∃ k : Nat, k ≤ behindN l0 s ∧ i = .int .i64 k ∧ Aside0 (Below w.heap.size w wr)) (fun i _ => l0.length - (intOf i).toNat)
  case atStart => exact ⟨0, Nat.zero_le _, rfl, ⟨Below.refl _ _⟩⟩
  case round =>
    obtain ⟨k, hk, rfl, HB⟩ := hrel
    have hle := behindN_le l0 s
    by_cases hlt : k < l0.length
    · obtain ⟨hy, hn⟩ := behindN_at s l0 k hk hlt
      obtain ⟨ad, A2, c2, e, hx0, hx1, hx2, hl2, hi2⟩ := at_T25 (Kd.C_below HR.out HB.out) k (by omega) (by omega)
      cases e
      rw [Int.toNat_natCast] at hx0 hx1 hx2
      have HGR := Aside0.mk ((HB.out.block g hgl).trans HG.out)
      generalize hv : rd_T25 l0 (k : Int) = v at *
      by_cases hs : s < v.f0
      · have e1 := hy hs
        have HE := Aside0.mk (show idxRes l0 s = k by rw [idxRes_lt (by omega), e1])
        have d0 : decide (s < v.f0) = true := decide_eq_true hs
        clear hy hn hv e1 hs
        go_wp2_with (go_at_call 32; refine (chain_over _ _ _ s g _ true d0 HGR.out).mono ?_; rintro e w1 ⟨rfl, hb⟩; have HB1 := Aside0.mk (below_step HB.out hb); clear hb)
        go_ret
        exact ⟨ret_int HE.out.symm, HB1.out⟩
      · have e1 := hn hs
        have d0 : decide (s < v.f0) = false := decide_eq_false hs
        clear hy hn hv hs
        go_wp2_with (go_at_call 32; refine (chain_over _ _ _ s g _ false d0 HGR.out).mono ?_; rintro e w1 ⟨rfl, hb⟩; have HB1 := Aside0.mk (below_step HB.out hb); clear hb)
        go_roundw
        case rel => exact ⟨k + 1, e1, by go_num, HB1⟩
        case measure => simp [intOf]; omega
    · have HE := Aside0.mk (idxRes_ge (l := l0) (s := s) (by omega))
      go_wp2
      go_ret
      exact ⟨ret_int HE.out.symm, HB.out⟩
set_option maxHeartbeats 1000000 in
set_option maxRecDepth 100000 in
theorem chain_behind.calls (A0 : Option Addr) (c0 : Nat) (l0 : List (S25)) (a1 : Int) (r : Int) (w : World) (hr0 : Kd.C k25 w A0 l0.length l0) (hc0 : l0.length ≤ c0) (h : chain_behind.f l0 a1 = some r) :
    Calls Try.prog 23 #[.slice A0 l0.length c0, .int .i64 a1] w fun e w' => e = .returned (.int .i64 r) ∧ Below w.heap.size w w' := by
  unfold chain_behind.f at h
  obtain rfl := Option.some.inj h
  clear h
  have hmf : ∀ (fn : Fn) (first cap : Array Value) (w : World), (Instr.makeFunc fn first cap).run Try.prog w = .ok (.func fn first cap) w := fun _ _ _ _ => rfl
  have hle := behindN_le l0 a1
  have HR := Aside0.mk hr0
  clear hr0
  go_enter Try.func23, Try.ntmps23
  by_cases hlt : behindN l0 a1 < l0.length
  · have HE := Aside0.mk (idxRes_lt hlt)
    have d0 : decide ((behindN l0 a1 : Int) < 0) = false := decide_eq_false (by omega)
    go_wp2_with (go_at_call 31; refine (chain_idx _ _ l0 a1 w.heap.size _ (Kd.C_alloc HR.out _) (heap_alloc_new _ _)).mono ?_; rw [HE.out]; rintro e w1 ⟨rfl, hb⟩; have HB := Aside0.mk (below_step (below_alloc (Below.refl w.heap.size w) _) hb); clear hb)
    go_ret
    exact ⟨rfl, HB.out⟩
  · have he : behindN l0 a1 = l0.length := by omega
    have HE := Aside0.mk (idxRes_ge hlt)
    have HF := Aside0.mk he
    clear hlt he hle
    go_wp2_with (go_at_call 31; refine (chain_idx _ _ l0 a1 w.heap.size _ (Kd.C_alloc HR.out _) (heap_alloc_new _ _)).mono ?_; rw [HE.out]; rintro e w1 ⟨rfl, hb⟩; have HB := Aside0.mk (below_step (below_alloc (Below.refl w.heap.size w) _) hb); clear hb)
    go_ret
    exact ⟨ret_int (by rw [HF.out]), HB.out⟩

end Go.Proofs.Ytdkfahobgnmglaa.P
