-- Written by wip/gprint.py, a program of this session over the kit's print; Lean checks it.
import Derived.Test.YtbenenpkbdldmaaPx0
import Derived.Test.YtbenenpkbdldmaaPx1
import Derived.Test.YtbenenpkbdldmaaPx14
import Derived.Lib.EndianBits
import Derived.ScopeJumps
import Derived.WalkMore
namespace Go.Proofs.Ytbenenpkbdldmaa.P
open Go.RowKit Go.Proofs.YtbenenpkbdldmaaW.PrintWords Go.Proofs.YtbenenpkbdldmaaW.PrintLast Go.Proofs.YtbenenpkbdldmaaW.PrintMore
attribute [local go_sem] max2_int min2_int max_two min_two max_three min_three max_four min_four   -- for this text's walks alone
set_option linter.unusedVariables false
set_option linter.unusedSimpArgs false

/-GIVEN octet_Take-/
/-! ### octet_Take: function 42 -/
def takeR : List Int → Nat → Int → Option (Int × List Int)
  | [], _, _ => none
  | x :: t, k, n =>
    if k ≥ 5 then none else
    if x ≥ 128 then takeR t (k + 1) (n + x % 128 * 128 ^ k) else
    if n + x * 128 ^ k > 2147483647 ∨ (x = 0 ∧ k ≥ 1) then none else some (n + x * 128 ^ k, t)
def takeRes : Option (Int × List Int) → Int × List Int × Int
  | none => (0, [], 10)
  | some (n, t) => (n, t, 0)
theorem take_and {x : Int} (h0 : 0 ≤ x) (h1 : x ≤ 255) : bits .and .u8 x 128 = if 128 ≤ x then 128 else 0 := by
  have H : ∀ a : Fin 256, bits .and .u8 ((a.val : Nat) : Int) 128 = if 128 ≤ ((a.val : Nat) : Int) then 128 else 0 := by decide +kernel
  have := H ⟨x.toNat, by omega⟩
  simpa [Int.toNat_of_nonneg h0] using this
theorem take_andNot {x : Int} (h0 : 0 ≤ x) (h1 : x ≤ 255) : bits .andNot .u8 x 128 = x % 128 := by
  have H : ∀ a : Fin 256, bits .andNot .u8 ((a.val : Nat) : Int) 128 = ((a.val : Nat) : Int) % 128 := by decide +kernel
  have := H ⟨x.toNat, by omega⟩
  simpa [Int.toNat_of_nonneg h0] using this
theorem wraps_i64' (n : Int) (h₀ : 0 ≤ n) (h₁ : n < 2 ^ 62) : IntKind.i64.wrap n = n := by simp [IntKind.wrap, IntKind.bits, IntKind.signed]; omega
theorem take_or {x n : Int} {k : Nat} (h0 : 0 ≤ x) (h1 : x ≤ 255) (hk : k ≤ 4) (n0 : 0 ≤ n) (n1 : n < 128 ^ k) : bits .or .i64 n (wrap64 (wrap64 (bits .andNot .u8 x 128) * 2 ^ (7 * k))) = n + x % 128 * 128 ^ k := by
  rw [take_andNot h0 h1]
  have e1 : wrap64 (x % 128) = x % 128 := by unfold wrap64; omega
  rw [e1]
  obtain rfl | rfl | rfl | rfl | rfl : k = 0 ∨ k = 1 ∨ k = 2 ∨ k = 3 ∨ k = 4 := by omega
  all_goals
    simp only [Nat.mul_zero, Nat.reduceMul, Nat.mul_one, Int.reducePow, Int.pow_zero, Int.mul_one] at *
    first
    | rw [show wrap64 (x % 128) = x % 128 from e1, bits_join_low .i64 62 (by decide) wraps_i64' 0 n (x % 128) n0 (by simpa using n1) (by omega) (by omega) (by omega) (by omega)]
    | rw [show wrap64 (x % 128 * 128) = x % 128 * 128 by (unfold wrap64; omega), bits_join_low .i64 62 (by decide) wraps_i64' 7 n (x % 128 * 128) n0 (by omega) (by omega) (by omega) (by omega) (by omega)]
    | rw [show wrap64 (x % 128 * 16384) = x % 128 * 16384 by (unfold wrap64; omega), bits_join_low .i64 62 (by decide) wraps_i64' 14 n (x % 128 * 16384) n0 (by omega) (by omega) (by omega) (by omega) (by omega)]
    | rw [show wrap64 (x % 128 * 2097152) = x % 128 * 2097152 by (unfold wrap64; omega), bits_join_low .i64 62 (by decide) wraps_i64' 21 n (x % 128 * 2097152) n0 (by omega) (by omega) (by omega) (by omega) (by omega)]
    | rw [show wrap64 (x % 128 * 268435456) = x % 128 * 268435456 by (unfold wrap64; omega), bits_join_low .i64 62 (by decide) wraps_i64' 28 n (x % 128 * 268435456) n0 (by omega) (by omega) (by omega) (by omega) (by omega)]
def OctJ (A0 : Option Addr) (c0 : Nat) (l0 : List Int) (w : World) (a' : Act) (w' : World) : Prop := w' = w ∧ ∃ (k : Nat) (n : Int) (u1 u7 u8 u9 u10 u11 u12 u13 u14 u15 u16 u17 u18 u19 u20 u21 u22 u23 u24 u25 u26 u27 u28 u29 u30 u31 u32 u33 u34 u35 u36 u37 u38 u39 u40 u41 u42 u43 u44 u45 u46 u47 u48 : Value),
  a' = { tmps := #[.slice A0 l0.length c0, u1, .int .i64 0, .slice none 0 0, .int .i64 0, .int .i64 n, .int .i64 k, u7, u8, u9, u10, u11, u12, u13, u14, u15, u16, u17, u18, u19, u20, u21, u22, u23, u24, u25, u26, u27, u28, u29, u30, u31, u32, u33, u34, u35, u36, u37, u38, u39, u40, u41, u42, u43, u44, u45, u46, u47, u48], defers := [] } ∧ k ≤ l0.length ∧ 0 ≤ n ∧ n < 128 ^ k ∧ k ≤ 5 ∧ takeR l0 0 0 = takeR (l0.drop k) k n
def OctM (a' : Act) : Nat := 100 - (match a'.tmps.getD 6 undef with | .int _ q => q.toNat | _ => 0)
def octet_Take.f (l0 : List Int) : Option (Int × List Int × Int) := if okb l0 = true then (if l0.length < 140737488355328 then some (takeRes (takeR l0 0 0)) else none) else none
set_option maxHeartbeats 2000000 in
set_option maxRecDepth 1000000 in
theorem octet_Take.calls (A0 : Option Addr) (c0 : Nat) (l0 : List Int) (r1 : Int) (r2 : List Int) (r3 : Int) (w : World) (hr0 : Kd.C (Kd.int .u8) w A0 l0.length l0) (hc0 : l0.length ≤ c0) (h : octet_Take.f l0 = some (r1, r2, r3)) :
    Calls Try.prog 42 #[.slice A0 l0.length c0] w fun e w' => ∃ v1_ : Value, e = .returned (.tuple #[.int .i64 r1, v1_, .int .i64 r3]) ∧ Kd.R (Kd.int .u8) 5 w' w.heap.size (fun _ => True) v1_ r2 ∧ Below w.heap.size w w' := by
  unfold octet_Take.f at h
  have hok : okb l0 = true := Classical.byContradiction fun hn => by rw [if_neg hn] at h; cases h
  rw [if_pos hok] at h
  have hlt : l0.length < 140737488355328 := Classical.byContradiction fun hn => by rw [if_neg hn] at h; cases h
  rw [if_pos hlt] at h
  have hres := Aside0.mk (Option.some.inj h)
  have HOK := Aside0.mk hok
  have HR := Aside0.mk hr0
  have HL := Aside0.mk hlt
  clear h hok hr0 hlt
  go_enter Try.func42, Try.ntmps42
  go_wp2
  refine wp_scope_jumps 0 (OctJ A0 c0 l0 w) (fun a' _ => OctM a') rfl ?first ?pass
  case first =>
    go_wp2
    go_step3
    refine (show ∀ (k : Nat) (n : Int), k ≤ l0.length → 0 ≤ n → n < 128 ^ k → k ≤ 5 → Aside0 (takeR l0 0 0 = takeR (l0.drop k) k n) → Exit.then _ _ Exit.normal { tmps := #[.slice A0 l0.length c0, undef, .int .i64 0, .slice none 0 0, .int .i64 0, .int .i64 n, .int .i64 k, undef, undef, undef, undef, undef, undef, undef, undef, undef, undef, undef, undef, undef, undef, undef, undef, undef, undef, undef, undef, undef, undef, undef, undef, undef, undef, undef, undef, undef, undef, undef, undef, undef, undef, undef, undef, undef, undef, undef, undef, undef, undef], defers := [] } _ from ?_) 0 0 (by omega) (by omega) (by decide) (by omega) ⟨rfl⟩
    intro k n hk hn0 hn1 hk5 HT
    by_cases hkl : k = l0.length
    · have hkz : (k : Int) = (l0.length : Int) := by omega
      have hnone : takeR (l0.drop k) k n = none := by rw [List.drop_of_length_le (by omega)]; rfl
      obtain ⟨rfl, rfl, rfl⟩ : 0 = r1 ∧ [] = r2 ∧ 10 = r3 := by have := hres.out; rw [HT.out, hnone] at this; simpa [takeRes] using this
      go_wp2
      simp only [Exit.jump]
      refine bodyPost_ret (results_tmp3 rfl _ _ _) rfl ?_
      exact ⟨_, rfl, Kd.R_nil _ _ _ _ _, Below.refl _ _⟩
    · have hlt : k < l0.length := by omega
      obtain ⟨hb0, hb1⟩ := okb_rd HOK.out k hlt
      obtain ⟨ad, e, hc⟩ := Kd.at_int HR.out k (by omega) (by omega)
      have hne : ¬ (k : Int) = (l0.length : Int) := by omega
      simp only [Int.toNat_natCast] at hc
      have hdr : l0.drop k = rd l0 (k : Int) :: l0.drop (k + 1) := by
        rw [List.drop_eq_getElem_cons hlt]; congr 1; unfold rd; simp [List.getD_eq_getElem?_getD, hlt]
      have hHT := HT.out
      rw [hdr] at hHT
      obtain ⟨x, hx⟩ : ∃ x, x = rd l0 (k : Int) := ⟨_, rfl⟩
      rw [← hx] at hc hb0 hb1 hHT
      clear hx hdr HT
      have HT := Aside0.mk hHT
      clear hHT
      have hki : (k : Int) < (l0.length : Int) := by omega
      subst e
      by_cases hk4 : k = 5
      · have h7 : 7 * (k : Int) > 31 := by omega
        have hnone : takeR (x :: l0.drop (k + 1)) k n = none := by rw [takeR, if_pos (by omega)]
        obtain ⟨rfl, rfl, rfl⟩ : 0 = r1 ∧ [] = r2 ∧ 10 = r3 := by have := hres.out; rw [HT.out, hnone] at this; simpa [takeRes] using this
        go_wp2
        simp only [Exit.jump]
        refine bodyPost_ret (results_tmp3 rfl _ _ _) rfl ?_
        exact ⟨_, rfl, Kd.R_nil _ _ _ _ _, Below.refl _ _⟩
      · have h7 : ¬ (7 * (k : Int) > 31) := by omega
        obtain ⟨n', hn'⟩ : ∃ n', n' = n + x % 128 * 128 ^ k := ⟨_, rfl⟩
        have hO := take_or hb0 hb1 (show k ≤ 4 by omega) hn0 hn1
        rw [← hn'] at hO
        have hA := take_and hb0 hb1
        have hp : (0 : Int) < 128 ^ k := Int.pow_pos (by decide)
        have hn'0 : 0 ≤ n' := by have : 0 ≤ x % 128 * 128 ^ k := Int.mul_nonneg (by omega) (by omega); omega
        have hn'1 : n' < 128 ^ (k + 1) := by
          have e1 : (128 : Int) ^ (k + 1) = 128 ^ k * 128 := Int.pow_succ _ _
          have e2 : x % 128 * 128 ^ k ≤ 127 * 128 ^ k := Int.mul_le_mul_of_nonneg_right (by omega) (by omega)
          omega
        by_cases h128 : 128 ≤ x
        · rw [if_pos h128] at hA
          have hT' : takeR l0 0 0 = takeR (l0.drop (k + 1)) (k + 1) n' := by rw [HT.out, takeR, if_neg (by omega), if_pos h128, hn']
          have hT'' := Aside0.mk hT'
          have hN := Aside0.mk (And.intro hn' (And.intro hn'0 hn'1))
          clear hT' hn' hn'0 hn'1
          go_wp2
          obtain ⟨hn', hn'0, hn'1⟩ := hN.out
          have hT' := hT''.out
          go_step3
          exact ⟨rfl, rfl, k + 1, n', _, _, _, _, _, _, _, _, _, _, _, _, _, _, _, _, _, _, _, _, _, _, _, _, _, _, _, _, _, _, _, _, _, _, _, _, _, _, _, _, _, _, _, rfl, by omega, hn'0, hn'1, by omega, hT'⟩
        · rw [if_neg h128] at hA
          have hxm : x % 128 = x := by omega
          rw [hxm] at hn'
          have HN := Aside0.mk (And.intro hn' (And.intro hn'0 hn'1))
          clear hn' hn'0 hn'1 hxm
          by_cases hm : n' > 2147483647
          · have hnone : takeR (x :: l0.drop (k + 1)) k n = none := by rw [takeR, if_neg (by omega), if_neg (by omega), if_pos (.inl (by have := HN.out.1; omega))]
            obtain ⟨rfl, rfl, rfl⟩ : 0 = r1 ∧ [] = r2 ∧ 10 = r3 := by have := hres.out; rw [HT.out, hnone] at this; simpa [takeRes] using this
            go_wp2
            simp only [Exit.jump]
            refine bodyPost_ret (results_tmp3 rfl _ _ _) rfl ?_
            exact ⟨_, rfl, Kd.R_nil _ _ _ _ _, Below.refl _ _⟩
          · by_cases hz : x = 0
            · by_cases hk1 : k ≥ 1
              · have hnone : takeR (x :: l0.drop (k + 1)) k n = none := by rw [takeR, if_neg (by omega), if_neg (by omega), if_pos (.inr ⟨hz, hk1⟩)]
                subst hz
                have hk2 : (k : Int) + 1 > 1 := by omega
                have hk3 : (0 : Int) < (k : Int) := by omega
                obtain ⟨rfl, rfl, rfl⟩ : 0 = r1 ∧ [] = r2 ∧ 10 = r3 := by have := hres.out; rw [HT.out, hnone] at this; simpa [takeRes] using this
                go_wp2
                simp only [Exit.jump]
                refine bodyPost_ret (results_tmp3 rfl _ _ _) rfl ?_
                exact ⟨_, rfl, Kd.R_nil _ _ _ _ _, Below.refl _ _⟩
              · have hok_ : ¬ (n + x * 128 ^ k > 2147483647 ∨ (x = 0 ∧ k ≥ 1)) := by have := HN.out.1; omega
                subst hz
                have hk2 : ¬ ((k : Int) + 1 > 1) := by omega
                have hk3 : ¬ ((0 : Int) < (k : Int)) := by omega
                obtain ⟨y, hy⟩ : ∃ y, y = l0.drop (k + 1) := ⟨_, rfl⟩
                have hsome : takeR (0 :: l0.drop (k + 1)) k n = some (n', y) := by rw [takeR, if_neg (by omega), if_neg (by omega), if_neg hok_, ← HN.out.1, hy]
                obtain ⟨rfl, rfl, rfl⟩ : n' = r1 ∧ y = r2 ∧ 0 = r3 := by have := hres.out; rw [HT.out, hsome] at this; simpa [takeRes] using this
                have hyl : y.length = l0.length - (k + 1) := by rw [hy, List.length_drop]
                have hr := Kd.C_drop (m := k + 1) (c := c0) HR.out (by omega) hc0
                rw [← hy] at hr
                obtain ⟨i0, hi0, _, hsz, _⟩ := info_parts info5
                have hcut := cut_from (P := Try.prog) 23 5 .i64 Try.underlying23 hi0 1 hsz (some ad) l0.length c0 ((k : Int) + 1) (by omega) (by omega)
                have ek : ((k : Int) + 1).toNat = k + 1 := by omega
                obtain ⟨A1, hA1⟩ : ∃ A1, A1 = (if c0 = k + 1 then (some ad) else ((some ad) : Option Addr).map (·.add ((k + 1) * 1))) := ⟨_, rfl⟩
                obtain ⟨c1, hc1⟩ : ∃ c1, c1 = c0 - (k + 1) := ⟨_, rfl⟩
                rw [ek, ← hA1, ← hc1, ← hyl] at hcut
                have hcy : y.length ≤ c1 := by omega
                have HCY := Aside0.mk hcy
                have HRY := Aside0.mk (show Kd.C (Kd.int .u8) _ A1 y.length y by rw [hA1]; exact hr)
                have HCL := Aside0.mk (show bytes_Clone.f y = some y by unfold bytes_Clone.f; rw [if_pos (by have := HL.out; omega)])
                clear hr hA1 hc1 hy hyl hsome hcy hi0 hsz hok_
                go_wp2_with (go_at_call 29; refine (bytes_Clone.calls A1 c1 y y _ HRY.out HCY.out HCL.out).mono ?_; rintro e w1 ⟨v1, rfl, ho1, hb1⟩)
                simp only [Exit.jump]
                refine bodyPost_ret (results_tmp3 rfl _ _ _) rfl ?_
                exact ⟨_, rfl, ho1, hb1⟩
            · have hok_ : ¬ (n + x * 128 ^ k > 2147483647 ∨ (x = 0 ∧ k ≥ 1)) := by have := HN.out.1; omega
              obtain ⟨y, hy⟩ : ∃ y, y = l0.drop (k + 1) := ⟨_, rfl⟩
              have hsome : takeR (x :: l0.drop (k + 1)) k n = some (n', y) := by rw [takeR, if_neg (by omega), if_neg (by omega), if_neg hok_, ← HN.out.1, hy]
              obtain ⟨rfl, rfl, rfl⟩ : n' = r1 ∧ y = r2 ∧ 0 = r3 := by have := hres.out; rw [HT.out, hsome] at this; simpa [takeRes] using this
              have hyl : y.length = l0.length - (k + 1) := by rw [hy, List.length_drop]
              have hr := Kd.C_drop (m := k + 1) (c := c0) HR.out (by omega) hc0
              rw [← hy] at hr
              obtain ⟨i0, hi0, _, hsz, _⟩ := info_parts info5
              have hcut := cut_from (P := Try.prog) 23 5 .i64 Try.underlying23 hi0 1 hsz (some ad) l0.length c0 ((k : Int) + 1) (by omega) (by omega)
              have ek : ((k : Int) + 1).toNat = k + 1 := by omega
              obtain ⟨A1, hA1⟩ : ∃ A1, A1 = (if c0 = k + 1 then (some ad) else ((some ad) : Option Addr).map (·.add ((k + 1) * 1))) := ⟨_, rfl⟩
              obtain ⟨c1, hc1⟩ : ∃ c1, c1 = c0 - (k + 1) := ⟨_, rfl⟩
              rw [ek, ← hA1, ← hc1, ← hyl] at hcut
              have hcy : y.length ≤ c1 := by omega
              have HCY := Aside0.mk hcy
              have HRY := Aside0.mk (show Kd.C (Kd.int .u8) _ A1 y.length y by rw [hA1]; exact hr)
              have HCL := Aside0.mk (show bytes_Clone.f y = some y by unfold bytes_Clone.f; rw [if_pos (by have := HL.out; omega)])
              clear hr hA1 hc1 hy hyl hsome hcy hi0 hsz hok_
              go_wp2_with (go_at_call 29; refine (bytes_Clone.calls A1 c1 y y _ HRY.out HCY.out HCL.out).mono ?_; rintro e w1 ⟨v1, rfl, ho1, hb1⟩)
              simp only [Exit.jump]
              refine bodyPost_ret (results_tmp3 rfl _ _ _) rfl ?_
              exact ⟨_, rfl, ho1, hb1⟩
  case pass =>
    intro a' w' hJ
    obtain ⟨rfl, k, n, u1, u7, u8, u9, u10, u11, u12, u13, u14, u15, u16, u17, u18, u19, u20, u21, u22, u23, u24, u25, u26, u27, u28, u29, u30, u31, u32, u33, u34, u35, u36, u37, u38, u39, u40, u41, u42, u43, u44, u45, u46, u47, u48, rfl, hk, hn0, hn1, hk5, ht⟩ := hJ
    have HT := Aside0.mk ht
    clear ht
    by_cases hkl : k = l0.length
    · have hkz : (k : Int) = (l0.length : Int) := by omega
      have hnone : takeR (l0.drop k) k n = none := by rw [List.drop_of_length_le (by omega)]; rfl
      obtain ⟨rfl, rfl, rfl⟩ : 0 = r1 ∧ [] = r2 ∧ 10 = r3 := by have := hres.out; rw [HT.out, hnone] at this; simpa [takeRes] using this
      go_wp2
      simp only [Exit.jump]
      refine bodyPost_ret (results_tmp3 rfl _ _ _) rfl ?_
      exact ⟨_, rfl, Kd.R_nil _ _ _ _ _, Below.refl _ _⟩
    · have hlt : k < l0.length := by omega
      obtain ⟨hb0, hb1⟩ := okb_rd HOK.out k hlt
      obtain ⟨ad, e, hc⟩ := Kd.at_int HR.out k (by omega) (by omega)
      have hne : ¬ (k : Int) = (l0.length : Int) := by omega
      simp only [Int.toNat_natCast] at hc
      have hdr : l0.drop k = rd l0 (k : Int) :: l0.drop (k + 1) := by
        rw [List.drop_eq_getElem_cons hlt]; congr 1; unfold rd; simp [List.getD_eq_getElem?_getD, hlt]
      have hHT := HT.out
      rw [hdr] at hHT
      obtain ⟨x, hx⟩ : ∃ x, x = rd l0 (k : Int) := ⟨_, rfl⟩
      rw [← hx] at hc hb0 hb1 hHT
      clear hx hdr HT
      have HT := Aside0.mk hHT
      clear hHT
      have hki : (k : Int) < (l0.length : Int) := by omega
      subst e
      by_cases hk4 : k = 5
      · have h7 : 7 * (k : Int) > 31 := by omega
        have hnone : takeR (x :: l0.drop (k + 1)) k n = none := by rw [takeR, if_pos (by omega)]
        obtain ⟨rfl, rfl, rfl⟩ : 0 = r1 ∧ [] = r2 ∧ 10 = r3 := by have := hres.out; rw [HT.out, hnone] at this; simpa [takeRes] using this
        go_wp2
        simp only [Exit.jump]
        refine bodyPost_ret (results_tmp3 rfl _ _ _) rfl ?_
        exact ⟨_, rfl, Kd.R_nil _ _ _ _ _, Below.refl _ _⟩
      · have h7 : ¬ (7 * (k : Int) > 31) := by omega
        obtain ⟨n', hn'⟩ : ∃ n', n' = n + x % 128 * 128 ^ k := ⟨_, rfl⟩
        have hO := take_or hb0 hb1 (show k ≤ 4 by omega) hn0 hn1
        rw [← hn'] at hO
        have hA := take_and hb0 hb1
        have hp : (0 : Int) < 128 ^ k := Int.pow_pos (by decide)
        have hn'0 : 0 ≤ n' := by have : 0 ≤ x % 128 * 128 ^ k := Int.mul_nonneg (by omega) (by omega); omega
        have hn'1 : n' < 128 ^ (k + 1) := by
          have e1 : (128 : Int) ^ (k + 1) = 128 ^ k * 128 := Int.pow_succ _ _
          have e2 : x % 128 * 128 ^ k ≤ 127 * 128 ^ k := Int.mul_le_mul_of_nonneg_right (by omega) (by omega)
          omega
        by_cases h128 : 128 ≤ x
        · rw [if_pos h128] at hA
          have hT' : takeR l0 0 0 = takeR (l0.drop (k + 1)) (k + 1) n' := by rw [HT.out, takeR, if_neg (by omega), if_pos h128, hn']
          have hT'' := Aside0.mk hT'
          have hN := Aside0.mk (And.intro hn' (And.intro hn'0 hn'1))
          clear hT' hn' hn'0 hn'1
          go_wp2
          obtain ⟨hn', hn'0, hn'1⟩ := hN.out
          have hT' := hT''.out
          go_step3
          exact ⟨rfl, ⟨rfl, k + 1, n', _, _, _, _, _, _, _, _, _, _, _, _, _, _, _, _, _, _, _, _, _, _, _, _, _, _, _, _, _, _, _, _, _, _, _, _, _, _, _, _, _, _, _, rfl, by omega, hn'0, hn'1, by omega, hT'⟩, by simp [OctM]; omega⟩
        · rw [if_neg h128] at hA
          have hxm : x % 128 = x := by omega
          rw [hxm] at hn'
          have HN := Aside0.mk (And.intro hn' (And.intro hn'0 hn'1))
          clear hn' hn'0 hn'1 hxm
          by_cases hm : n' > 2147483647
          · have hnone : takeR (x :: l0.drop (k + 1)) k n = none := by rw [takeR, if_neg (by omega), if_neg (by omega), if_pos (.inl (by have := HN.out.1; omega))]
            obtain ⟨rfl, rfl, rfl⟩ : 0 = r1 ∧ [] = r2 ∧ 10 = r3 := by have := hres.out; rw [HT.out, hnone] at this; simpa [takeRes] using this
            go_wp2
            simp only [Exit.jump]
            refine bodyPost_ret (results_tmp3 rfl _ _ _) rfl ?_
            exact ⟨_, rfl, Kd.R_nil _ _ _ _ _, Below.refl _ _⟩
          · by_cases hz : x = 0
            · by_cases hk1 : k ≥ 1
              · have hnone : takeR (x :: l0.drop (k + 1)) k n = none := by rw [takeR, if_neg (by omega), if_neg (by omega), if_pos (.inr ⟨hz, hk1⟩)]
                subst hz
                have hk2 : (k : Int) + 1 > 1 := by omega
                have hk3 : (0 : Int) < (k : Int) := by omega
                obtain ⟨rfl, rfl, rfl⟩ : 0 = r1 ∧ [] = r2 ∧ 10 = r3 := by have := hres.out; rw [HT.out, hnone] at this; simpa [takeRes] using this
                go_wp2
                simp only [Exit.jump]
                refine bodyPost_ret (results_tmp3 rfl _ _ _) rfl ?_
                exact ⟨_, rfl, Kd.R_nil _ _ _ _ _, Below.refl _ _⟩
              · have hok_ : ¬ (n + x * 128 ^ k > 2147483647 ∨ (x = 0 ∧ k ≥ 1)) := by have := HN.out.1; omega
                subst hz
                have hk2 : ¬ ((k : Int) + 1 > 1) := by omega
                have hk3 : ¬ ((0 : Int) < (k : Int)) := by omega
                obtain ⟨y, hy⟩ : ∃ y, y = l0.drop (k + 1) := ⟨_, rfl⟩
                have hsome : takeR (0 :: l0.drop (k + 1)) k n = some (n', y) := by rw [takeR, if_neg (by omega), if_neg (by omega), if_neg hok_, ← HN.out.1, hy]
                obtain ⟨rfl, rfl, rfl⟩ : n' = r1 ∧ y = r2 ∧ 0 = r3 := by have := hres.out; rw [HT.out, hsome] at this; simpa [takeRes] using this
                have hyl : y.length = l0.length - (k + 1) := by rw [hy, List.length_drop]
                have hr := Kd.C_drop (m := k + 1) (c := c0) HR.out (by omega) hc0
                rw [← hy] at hr
                obtain ⟨i0, hi0, _, hsz, _⟩ := info_parts info5
                have hcut := cut_from (P := Try.prog) 23 5 .i64 Try.underlying23 hi0 1 hsz (some ad) l0.length c0 ((k : Int) + 1) (by omega) (by omega)
                have ek : ((k : Int) + 1).toNat = k + 1 := by omega
                obtain ⟨A1, hA1⟩ : ∃ A1, A1 = (if c0 = k + 1 then (some ad) else ((some ad) : Option Addr).map (·.add ((k + 1) * 1))) := ⟨_, rfl⟩
                obtain ⟨c1, hc1⟩ : ∃ c1, c1 = c0 - (k + 1) := ⟨_, rfl⟩
                rw [ek, ← hA1, ← hc1, ← hyl] at hcut
                have hcy : y.length ≤ c1 := by omega
                have HCY := Aside0.mk hcy
                have HRY := Aside0.mk (show Kd.C (Kd.int .u8) _ A1 y.length y by rw [hA1]; exact hr)
                have HCL := Aside0.mk (show bytes_Clone.f y = some y by unfold bytes_Clone.f; rw [if_pos (by have := HL.out; omega)])
                clear hr hA1 hc1 hy hyl hsome hcy hi0 hsz hok_
                go_wp2_with (go_at_call 29; refine (bytes_Clone.calls A1 c1 y y _ HRY.out HCY.out HCL.out).mono ?_; rintro e w1 ⟨v1, rfl, ho1, hb1⟩)
                simp only [Exit.jump]
                refine bodyPost_ret (results_tmp3 rfl _ _ _) rfl ?_
                exact ⟨_, rfl, ho1, hb1⟩
            · have hok_ : ¬ (n + x * 128 ^ k > 2147483647 ∨ (x = 0 ∧ k ≥ 1)) := by have := HN.out.1; omega
              obtain ⟨y, hy⟩ : ∃ y, y = l0.drop (k + 1) := ⟨_, rfl⟩
              have hsome : takeR (x :: l0.drop (k + 1)) k n = some (n', y) := by rw [takeR, if_neg (by omega), if_neg (by omega), if_neg hok_, ← HN.out.1, hy]
              obtain ⟨rfl, rfl, rfl⟩ : n' = r1 ∧ y = r2 ∧ 0 = r3 := by have := hres.out; rw [HT.out, hsome] at this; simpa [takeRes] using this
              have hyl : y.length = l0.length - (k + 1) := by rw [hy, List.length_drop]
              have hr := Kd.C_drop (m := k + 1) (c := c0) HR.out (by omega) hc0
              rw [← hy] at hr
              obtain ⟨i0, hi0, _, hsz, _⟩ := info_parts info5
              have hcut := cut_from (P := Try.prog) 23 5 .i64 Try.underlying23 hi0 1 hsz (some ad) l0.length c0 ((k : Int) + 1) (by omega) (by omega)
              have ek : ((k : Int) + 1).toNat = k + 1 := by omega
              obtain ⟨A1, hA1⟩ : ∃ A1, A1 = (if c0 = k + 1 then (some ad) else ((some ad) : Option Addr).map (·.add ((k + 1) * 1))) := ⟨_, rfl⟩
              obtain ⟨c1, hc1⟩ : ∃ c1, c1 = c0 - (k + 1) := ⟨_, rfl⟩
              rw [ek, ← hA1, ← hc1, ← hyl] at hcut
              have hcy : y.length ≤ c1 := by omega
              have HCY := Aside0.mk hcy
              have HRY := Aside0.mk (show Kd.C (Kd.int .u8) _ A1 y.length y by rw [hA1]; exact hr)
              have HCL := Aside0.mk (show bytes_Clone.f y = some y by unfold bytes_Clone.f; rw [if_pos (by have := HL.out; omega)])
              clear hr hA1 hc1 hy hyl hsome hcy hi0 hsz hok_
              go_wp2_with (go_at_call 29; refine (bytes_Clone.calls A1 c1 y y _ HRY.out HCY.out HCL.out).mono ?_; rintro e w1 ⟨v1, rfl, ho1, hb1⟩)
              simp only [Exit.jump]
              refine bodyPost_ret (results_tmp3 rfl _ _ _) rfl ?_
              exact ⟨_, rfl, ho1, hb1⟩

end Go.Proofs.Ytbenenpkbdldmaa.P
