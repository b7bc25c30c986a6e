-- Written by wip/gprint.py, a program of this session over the kit's print; Lean checks it.
import Derived.Test.YtomlhapehldlnaaPx0
import Derived.Test.YtomlhapehldlnaaPx1
import Derived.Shelf.Abstract
namespace Go.Proofs.Ytomlhapehldlnaa.P
open Go.RowKit Go.Proofs.YtomlhapehldlnaaW.PrintWords Go.Proofs.YtomlhapehldlnaaW.PrintLast Go.Proofs.YtomlhapehldlnaaW.PrintMore
attribute [local go_sem] max2_int min2_int max_two min_two max_three min_three max_four min_four   -- for this text's walks alone
set_option linter.unusedVariables false
set_option linter.unusedSimpArgs false

/-GIVEN span_Meets-/
/-! ### span_Meets: function 20 -/
theorem span_In_fM (x : S24) (t : Int) (k : List Int) : span_In.f x.f0 x.f1 x.f2 x.f3 t k = some (inB x t k) := by
  unfold span_In.f inB
  simp only [bytes_Compare.f, Option.bind_some]
  by_cases h : x.f0 = t
  · rw [if_pos h, decide_eq_true h, Bool.true_and]
    by_cases h2 : Lib.compareBytes (Lib.bytesOf x.f1) (Lib.bytesOf k) ≤ 0
    · rw [if_pos h2, decide_eq_true h2, Bool.true_and]
      cases x.f3 <;> rfl
    · rw [if_neg h2, decide_eq_false h2]; rfl
  · rw [if_neg h, decide_eq_false h]; rfl
set_option maxHeartbeats 1000000 in
set_option maxRecDepth 100000 in
theorem meets_in (g gf : Nat) (ta : Int) (v1 v2 v3 : Value) (Ak : Option Addr) (key : List Int) (ck : Nat) (W : World) (x : S24) (A1 : Option Addr) (c1 : Nat) (A2 : Option Addr) (c2 : Nat)
    (hg : W.heap[g]? = some (.cells #[.int .i64 ta, v1, v2, v3] 24 (0, 0))) (hgf : W.heap[gf]? = some (.cells #[.slice Ak key.length ck] 22 (0, 0))) (hk : Kd.C (Kd.int .u8) W Ak key.length key) (hck : key.length ≤ ck)
    (h1 : x.f1.length ≤ c1) (i1 : Kd.C (Kd.int .u8) W A1 x.f1.length x.f1) (h2 : x.f2.length ≤ c2) (i2 : Kd.C (Kd.int .u8) W A2 x.f2.length x.f2) :
    Calls Try.prog 32 #[.agg #[.int .i64 x.f0, .slice A1 x.f1.length c1, .slice A2 x.f2.length c2, .bool x.f3], .pointer (some ⟨g, 0, none⟩), .pointer (some ⟨gf, 0, none⟩)] W fun e w' => e = .returned (.bool (!inB x ta key)) ∧ Below W.heap.size W w' := by
  have e0 : ∀ o, (W.alloc o).cell? ⟨g, 0, none⟩ = some (.int .i64 ta) := fun o => (World.cell?_alloc_lt W o _ (blk_lt hg)).trans ((blk_cell hg 0).trans rfl)
  have e1 : ∀ o, (W.alloc o).cell? ⟨gf, 0, none⟩ = some (.slice Ak key.length ck) := fun o => (World.cell?_alloc_lt W o _ (blk_lt hgf)).trans ((blk_cell hgf 0).trans rfl)
  have HIN := fun o => Aside0.mk (span_In.calls x.f0 A1 c1 x.f1 A2 c2 x.f2 x.f3 ta Ak ck key (inB x ta key) (W.alloc o) (Kd.C_alloc i1 o) h1 (Kd.C_alloc i2 o) h2 (Kd.C_alloc hk o) hck (span_In_fM x ta key))
  have hu := Try.underlying24
  clear hg hgf hk hck h1 i1 h2 i2
  generalize inB x ta key = b at HIN ⊢
  go_enter Try.func32, Try.ntmps32
  go_wp2_with (go_at_call 18; refine (HIN _).out.mono ?_; rintro e w1 ⟨rfl, hb⟩; have HB1 := Aside0.mk (below_step (below_alloc (Below.refl W.heap.size W) _) hb); clear hb)
  go_ret
  exact ⟨rfl, HB1.out⟩
set_option maxHeartbeats 1000000 in
set_option maxRecDepth 100000 in
theorem meets_both (g gf : Nat) (ta : Int) (v1 v2 v3 : Value) (Ak : Option Addr) (key : List Int) (ck : Nat) (W : World) (A0 : Option Addr) (c0 : Nat) (l0 : List S24)
    (hg : W.heap[g]? = some (.cells #[.int .i64 ta, v1, v2, v3] 24 (0, 0))) (hgf : W.heap[gf]? = some (.cells #[.slice Ak key.length ck] 22 (0, 0))) (hk : Kd.C (Kd.int .u8) W Ak key.length key) (hck : key.length ≤ ck)
    (hr0 : Kd.C k24 W A0 l0.length l0) :
    Calls Try.prog 30 #[.slice A0 l0.length c0, .pointer (some ⟨g, 0, none⟩), .pointer (some ⟨gf, 0, none⟩)] W fun e w' => e = .returned (.bool (!(l0.any fun x => !inB x ta key))) ∧ Below W.heap.size W w' := by
  have HIN := Aside0.mk (has_Span 32 #[.pointer (some ⟨g, 0, none⟩), .pointer (some ⟨gf, 0, none⟩)] (fun x => !inB x ta key) A0 c0 l0 W hr0 (enters_of Try.func32 (by kernel_rfl) rfl)
    (fun W1 x B1 d1 B2 d2 _ hb j1 k1 j2 k2 => meets_in g gf ta v1 v2 v3 Ak key ck W1 x B1 d1 B2 d2 ((hb.block _ (blk_lt hg)).trans hg) ((hb.block _ (blk_lt hgf)).trans hgf) (Kd.C_below hk hb) hck j1 k1 j2 k2))
  have hmf : ∀ (fn : Fn) (first cap : Array Value) (w : World), (Instr.makeFunc fn first cap).run Try.prog w = .ok (.func fn first cap) w := fun _ _ _ _ => rfl
  clear hg hgf hk hck hr0
  generalize (l0.any fun x => !inB x ta key) = b at HIN ⊢
  go_enter Try.func30, Try.ntmps30
  go_wp2_with (go_at_call 31; refine HIN.out.mono ?_; rintro e w1 ⟨rfl, hb⟩; have HB1 := Aside0.mk hb; clear hb)
  go_ret
  exact ⟨rfl, HB1.out⟩
def span_Meets.f (a0_0 : Int) (l0_1 : List Int) (l0_2 : List Int) (a0_3 : Bool) (a1_0 : Int) (l1_1 : List Int) (l1_2 : List Int) (a1_3 : Bool) : Option (Bool) := some (meetsB ⟨a0_0, l0_1, l0_2, a0_3⟩ ⟨a1_0, l1_1, l1_2, a1_3⟩)
set_option maxHeartbeats 2000000 in
set_option maxRecDepth 100000 in
theorem span_Meets.calls (a0_0 : Int) (A0_1 : Option Addr) (c0_1 : Nat) (l0_1 : List Int) (A0_2 : Option Addr) (c0_2 : Nat) (l0_2 : List Int) (a0_3 : Bool) (a1_0 : Int) (A1_1 : Option Addr) (c1_1 : Nat) (l1_1 : List Int) (A1_2 : Option Addr) (c1_2 : Nat) (l1_2 : List Int) (a1_3 : Bool) (r : Bool) (w : World) (hr0_1 : Kd.C (Kd.int .u8) w A0_1 l0_1.length l0_1) (hc0_1 : l0_1.length ≤ c0_1) (hr0_2 : Kd.C (Kd.int .u8) w A0_2 l0_2.length l0_2) (hc0_2 : l0_2.length ≤ c0_2) (hr1_1 : Kd.C (Kd.int .u8) w A1_1 l1_1.length l1_1) (hc1_1 : l1_1.length ≤ c1_1) (hr1_2 : Kd.C (Kd.int .u8) w A1_2 l1_2.length l1_2) (hc1_2 : l1_2.length ≤ c1_2) (h : span_Meets.f a0_0 l0_1 l0_2 a0_3 a1_0 l1_1 l1_2 a1_3 = some r) :
    Calls Try.prog 20 #[.agg #[.int .i64 a0_0, .slice A0_1 l0_1.length c0_1, .slice A0_2 l0_2.length c0_2, .bool a0_3], .agg #[.int .i64 a1_0, .slice A1_1 l1_1.length c1_1, .slice A1_2 l1_2.length c1_2, .bool a1_3]] w fun e w' => e = .returned (.bool r) ∧ Below w.heap.size w w' := by
  unfold span_Meets.f at h
  obtain rfl := Option.some.inj h
  clear h
  obtain ⟨W2, hW2⟩ : ∃ W2, W2 = (((w.alloc (.cells #[.int .i64 a0_0, .slice A0_1 l0_1.length c0_1, .slice A0_2 l0_2.length c0_2, .bool a0_3] 24 (0, 0))).alloc (.cells #[.int .i64 a1_0, .slice A1_1 l1_1.length c1_1, .slice A1_2 l1_2.length c1_2, .bool a1_3] 24 (0, 0))).alloc (.cells #[.slice A0_1 l0_1.length c0_1] 22 (0, 0))) := ⟨_, rfl⟩
  have hbW : Below w.heap.size w W2 := by rw [hW2]; exact below_alloc (below_alloc (below_alloc (Below.refl _ _) _) _) _
  have hs2 : W2.heap[w.heap.size + 1 + 1]? = some (.cells #[.slice A0_1 l0_1.length c0_1] 22 (0, 0)) := by
    have := heap_alloc_new ((w.alloc (.cells #[.int .i64 a0_0, .slice A0_1 l0_1.length c0_1, .slice A0_2 l0_2.length c0_2, .bool a0_3] 24 (0, 0))).alloc (.cells #[.int .i64 a1_0, .slice A1_1 l1_1.length c1_1, .slice A1_2 l1_2.length c1_2, .bool a1_3] 24 (0, 0))) (.cells #[.slice A0_1 l0_1.length c0_1] 22 (0, 0))
    rw [World.size_alloc, World.size_alloc] at this
    rw [hW2]; exact this
  have hs1 : W2.heap[w.heap.size + 1]? = some (.cells #[.int .i64 a1_0, .slice A1_1 l1_1.length c1_1, .slice A1_2 l1_2.length c1_2, .bool a1_3] 24 (0, 0)) := by
    have := heap_alloc_new (w.alloc (.cells #[.int .i64 a0_0, .slice A0_1 l0_1.length c0_1, .slice A0_2 l0_2.length c0_2, .bool a0_3] 24 (0, 0))) (.cells #[.int .i64 a1_0, .slice A1_1 l1_1.length c1_1, .slice A1_2 l1_2.length c1_2, .bool a1_3] 24 (0, 0))
    rw [World.size_alloc] at this
    rw [hW2]; exact blk_alloc this _
  have hs0 : W2.heap[w.heap.size]? = some (.cells #[.int .i64 a0_0, .slice A0_1 l0_1.length c0_1, .slice A0_2 l0_2.length c0_2, .bool a0_3] 24 (0, 0)) := by
    rw [hW2]; exact blk_alloc (blk_alloc (heap_alloc_new w _) _) _
  have HC := bytes_Compare.calls A0_1 c0_1 l0_1 A1_1 c1_1 l1_1 _ W2 (Kd.C_below hr0_1 hbW) hc0_1 (Kd.C_below hr1_1 hbW) hc1_1 rfl
  rw [hW2] at HC
  have HC := Aside0.mk HC
  have HW2 := Aside0.mk hW2
  have HBW := Aside0.mk hbW
  have HS0 := Aside0.mk hs0
  have HS1 := Aside0.mk hs1
  have HS2 := Aside0.mk hs2
  have HR1 := Aside0.mk (And.intro hr0_1 hc0_1)
  have HR2 := Aside0.mk (And.intro hr0_2 hc0_2)
  have HR3 := Aside0.mk (And.intro hr1_1 hc1_1)
  have HR4 := Aside0.mk (And.intro hr1_2 hc1_2)
  have hu := Try.underlying24
  have he := enters_of (P := Try.prog) Try.func30 (by kernel_rfl) rfl
  have hmf : ∀ (fn : Fn) (first cap : Array Value) (w : World), (Instr.makeFunc fn first cap).run Try.prog w = .ok (.func fn first cap) w := fun _ _ _ _ => rfl
  unfold meetsB firstB
  generalize hcmp : Lib.compareBytes (Lib.bytesOf l0_1) (Lib.bytesOf l1_1) = cmp at HC ⊢
  clear hr0_1 hc0_1 hr0_2 hc0_2 hr1_1 hc1_1 hr1_2 hc1_2 hW2 hbW hs0 hs1 hs2 hcmp
  have key : ∀ (W3 : World) (g : Nat) (Ak : Option Addr) (kl : List Int) (ck : Nat), Below w.heap.size w W3 → g = W3.heap.size → W3.heap[w.heap.size]? = some (.cells #[.int .i64 a0_0, .slice A0_1 l0_1.length c0_1, .slice A0_2 l0_2.length c0_2, .bool a0_3] 24 (0, 0)) → W3.heap[w.heap.size + 1 + 1]? = some (.cells #[.slice Ak kl.length ck] 22 (0, 0)) → Kd.C (Kd.int .u8) w Ak kl.length kl → kl.length ≤ ck →
      Calls Try.prog 30 #[.slice (some ⟨g, 0, none⟩) 2 2, .pointer (some ⟨w.heap.size, 0, none⟩), .pointer (some ⟨w.heap.size + 1 + 1, 0, none⟩)] (W3.alloc (.cells #[.int .i64 a0_0, .slice A0_1 l0_1.length c0_1, .slice A0_2 l0_2.length c0_2, .bool a0_3, .int .i64 a1_0, .slice A1_1 l1_1.length c1_1, .slice A1_2 l1_2.length c1_2, .bool a1_3] 24 (0, 0))) fun e w' => e = .returned (.bool (!([(⟨a0_0, l0_1, l0_2, a0_3⟩ : S24), ⟨a1_0, l1_1, l1_2, a1_3⟩].any fun x => !inB x a0_0 kl))) ∧ Below W3.heap.size W3 w' := by
    intro W3 g Ak kl ck hb3 hg h0 h2 hk hck
    subst hg
    have hb4 := below_alloc hb3 (.cells #[.int .i64 a0_0, .slice A0_1 l0_1.length c0_1, .slice A0_2 l0_2.length c0_2, .bool a0_3, .int .i64 a1_0, .slice A1_1 l1_1.length c1_1, .slice A1_2 l1_2.length c1_2, .bool a1_3] 24 (0, 0))
    have hC : Kd.C k24 (W3.alloc (.cells #[.int .i64 a0_0, .slice A0_1 l0_1.length c0_1, .slice A0_2 l0_2.length c0_2, .bool a0_3, .int .i64 a1_0, .slice A1_1 l1_1.length c1_1, .slice A1_2 l1_2.length c1_2, .bool a1_3] 24 (0, 0))) (some ⟨W3.heap.size, 0, none⟩) [(⟨a0_0, l0_1, l0_2, a0_3⟩ : S24), ⟨a1_0, l1_1, l1_2, a1_3⟩].length [⟨a0_0, l0_1, l0_2, a0_3⟩, ⟨a1_0, l1_1, l1_2, a1_3⟩] := by
      refine C_of_block (cur := #[.int .i64 a0_0, .slice A0_1 l0_1.length c0_1, .slice A0_2 l0_2.length c0_2, .bool a0_3, .int .i64 a1_0, .slice A1_1 l1_1.length c1_1, .slice A1_2 l1_2.length c1_2, .bool a1_3].toList) (by simp) (heap_alloc_new W3 _) (by show 2 * 4 ≤ 8; omega) (fun j p hj => ?_)
      rcases j with _ | _ | j
      · cases hj
        exact k24_mk _ (⟨a0_0, l0_1, l0_2, a0_3⟩ : S24) HR1.out.2 (Kd.C_below HR1.out.1 hb4) HR2.out.2 (Kd.C_below HR2.out.1 hb4)
      · cases hj
        exact k24_mk _ (⟨a1_0, l1_1, l1_2, a1_3⟩ : S24) HR3.out.2 (Kd.C_below HR3.out.1 hb4) HR4.out.2 (Kd.C_below HR4.out.1 hb4)
      · cases hj
    refine (meets_both w.heap.size (w.heap.size + 1 + 1) a0_0 _ _ _ Ak kl ck _ (some ⟨W3.heap.size, 0, none⟩) 2 [⟨a0_0, l0_1, l0_2, a0_3⟩, ⟨a1_0, l1_1, l1_2, a1_3⟩] (blk_alloc h0 _) (blk_alloc h2 _) (Kd.C_below hk hb4) hck hC).mono ?_
    rintro e w' ⟨rfl, hb⟩
    exact ⟨rfl, below_step (below_alloc (Below.refl _ _) _) hb⟩
  have KEY := Aside0.mk key
  clear key
  by_cases hlt : cmp < 0
  · rw [if_pos hlt]
    go_enter Try.func20, Try.ntmps20
    go_wp2_with (go_at_call 29; refine HC.out.mono ?_; rintro e w1 ⟨rfl, hd⟩; rw [← HW2.out] at hd; have HB1 := Aside0.mk (below_step HBW.out hd.below); have h0 := (hd.below.block _ (blk_lt HS0.out)).trans HS0.out; have h1 := (hd.below.block _ (blk_lt HS1.out)).trans HS1.out; have h2 := (hd.below.block _ (blk_lt HS2.out)).trans HS2.out; have HD0 := Aside0.mk h0; have HD2 := Aside0.mk h2; have x0 := (blk_cell h0 0).trans rfl; have x1 := (blk_cell h0 1).trans rfl; have x2 := (blk_cell h0 2).trans rfl; have x3 := (blk_cell h0 3).trans rfl; have y0 := (blk_cell h1 0).trans rfl; have y1 := (blk_cell h1 1).trans rfl; have y2 := (blk_cell h1 2).trans rfl; have y3 := (blk_cell h1 3).trans rfl; have z0 := (blk_cell h2 0).trans rfl; have z1 := blk_frozen h2 0; clear h0 h1 h2 hd)
    refine (KEY.out _ _ A1_1 l1_1 c1_1 ((HB1.out).setCell (p := ⟨w.heap.size + 1 + 1, 0, none⟩) (by show w.heap.size ≤ w.heap.size + 1 + 1; omega) _) (by simp) ((Below.heap_setCell _ _ _ _ (by show w.heap.size ≠ w.heap.size + 1 + 1; omega)).trans HD0.out) (blk_set HD2.out 0 _) HR3.out.1 HR3.out.2).mono ?_
    rintro e w5 ⟨rfl, hb⟩
    have HB5 := Aside0.mk (below_step ((HB1.out).setCell (p := ⟨w.heap.size + 1 + 1, 0, none⟩) (by show w.heap.size ≤ w.heap.size + 1 + 1; omega) _) hb)
    clear hb
    obtain ⟨q, hq⟩ : ∃ q, q = (!([(⟨a0_0, l0_1, l0_2, a0_3⟩ : S24), ⟨a1_0, l1_1, l1_2, a1_3⟩].any fun x => !inB x a0_0 l1_1)) := ⟨_, rfl⟩
    rw [← hq]
    have HQ := Aside0.mk hq
    clear hq
    go_wp2
    go_ret
    exact ⟨by rw [← HQ.out]; rfl, HB5.out⟩
  · rw [if_neg hlt]
    go_enter Try.func20, Try.ntmps20
    go_wp2_with (go_at_call 29; refine HC.out.mono ?_; rintro e w1 ⟨rfl, hd⟩; rw [← HW2.out] at hd; have HB1 := Aside0.mk (below_step HBW.out hd.below); have h0 := (hd.below.block _ (blk_lt HS0.out)).trans HS0.out; have h1 := (hd.below.block _ (blk_lt HS1.out)).trans HS1.out; have h2 := (hd.below.block _ (blk_lt HS2.out)).trans HS2.out; have HD0 := Aside0.mk h0; have HD2 := Aside0.mk h2; have x0 := (blk_cell h0 0).trans rfl; have x1 := (blk_cell h0 1).trans rfl; have x2 := (blk_cell h0 2).trans rfl; have x3 := (blk_cell h0 3).trans rfl; have y0 := (blk_cell h1 0).trans rfl; have y1 := (blk_cell h1 1).trans rfl; have y2 := (blk_cell h1 2).trans rfl; have y3 := (blk_cell h1 3).trans rfl; have z0 := (blk_cell h2 0).trans rfl; clear h0 h1 h2 hd)
    refine (KEY.out _ _ A0_1 l0_1 c0_1 HB1.out (by rfl) HD0.out HD2.out HR1.out.1 HR1.out.2).mono ?_
    rintro e w5 ⟨rfl, hb⟩
    have HB5 := Aside0.mk (below_step HB1.out hb)
    clear hb
    obtain ⟨q, hq⟩ : ∃ q, q = (!([(⟨a0_0, l0_1, l0_2, a0_3⟩ : S24), ⟨a1_0, l1_1, l1_2, a1_3⟩].any fun x => !inB x a0_0 l0_1)) := ⟨_, rfl⟩
    rw [← hq]
    have HQ := Aside0.mk hq
    clear hq
    go_wp2
    go_ret
    exact ⟨by rw [← HQ.out]; rfl, HB5.out⟩

end Go.Proofs.Ytomlhapehldlnaa.P
