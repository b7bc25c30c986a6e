-- Written by wip/gprint.py, a program of this session over the kit's print; Lean checks it.
import Derived.Test.YtpknchaajgkbnaaPx0
import Derived.Test.YtpknchaajgkbnaaPx1
import Derived.Test.YtpknchaajgkbnaaPx43
import Derived.Test.YtpknchaajgkbnaaPx47
import Derived.Test.YtpknchaajgkbnaaPx48
import Derived.Test.YtpknchaajgkbnaaPx54
import Derived.Test.YtpknchaajgkbnaaPx57
import Derived.BigQuiet
import Derived.Shelf.Abstract
namespace Go.Proofs.Ytpknchaajgkbnaa.P
open Go.RowKit Go.Proofs.YtpknchaajgkbnaaW.PrintWords Go.Proofs.YtpknchaajgkbnaaW.PrintLast Go.Proofs.YtpknchaajgkbnaaW.PrintMore
attribute [local go_sem] max2_int min2_int max_two min_two max_three min_three max_four min_four   -- for this text's walks alone
set_option linter.unusedVariables false
set_option linter.unusedSimpArgs false

/-GIVEN banksmanlaw13_ReadsKeep-/
/-! ### banksmanlaw13_ReadsKeep: function 3 -/
def oneP (k : Nat) (x p : S34) : Option Bool := banksmanref13_One.f k x.f0 x.f1 x.f2 x.f3 x.f4 x.f5 p.f0 p.f1 p.f2 p.f3 p.f4 p.f5
def cntK (k : Nat) (a : List S34) : List S34 → Nat → Option Nat
  | [], m => some m
  | p :: ps, m => if m < a.length then (oneP k (rd_T34 a (m : Int)) p).bind fun s => cntK k a ps (if s = true then m + 1 else m) else cntK k a ps m
theorem rd_mem_Past (l : List S34) (i : Nat) (h : i < l.length) : rd_T34 l (i : Int) ∈ l ∧ l.drop i = rd_T34 l (i : Int) :: l.drop (i + 1) := by
  have e : rd_T34 l (i : Int) = l[i] := by unfold rd_T34; simp [List.getD_eq_getElem?_getD, h]
  rw [e]
  exact ⟨List.getElem_mem h, by rw [List.drop_eq_getElem_cons h]⟩
def banksmanlaw13_ReadsKeep.f (k : Nat) (l0 : List (S34)) (l1 : List (S29)) (a2 : Int) : Option (Bool) := (banksmanref13_Few.f k l0 l1).bind fun fw => if fw = false then some true else (reads_Keep.f l0 l1).bind fun a => (reads_Keep.f l0 (l1 ++ [(⟨a2, []⟩ : S29)])).bind fun b => (reads_Keep.f a l1).bind fun g => (banksmanref13_All.f k g a).bind fun again => (reads_Keep.f l0 [(⟨a2, []⟩ : S29)]).bind fun one => (cntK k a l0 0).bind fun kk =>
  if again = true ∧ kk = a.length ∧ a.length ≤ b.length ∧ one.length ≤ b.length ∧ (∀ x ∈ one, a2 < x.f1) ∧ l1.length ≤ 1000 then some true else none
set_option maxHeartbeats 1500000 in
set_option maxRecDepth 100000 in
theorem banksmanlaw13_ReadsKeep.calls (k : Nat) (A0 : Option Addr) (c0 : Nat) (l0 : List (S34)) (A1 : Option Addr) (c1 : Nat) (l1 : List (S29)) (a2 : Int) (r : Bool) (w : World) (hr0 : Kd.C k34 w A0 l0.length l0) (hc0 : l0.length ≤ c0) (hr1 : Kd.C k29 w A1 l1.length l1) (hc1 : l1.length ≤ c1) (h : banksmanlaw13_ReadsKeep.f k l0 l1 a2 = some r) (HTr_ : r = true) :
    Calls Try.prog 3 #[.slice A0 l0.length c0, .slice A1 l1.length c1, .int .i64 a2] w fun e w' => e = .returned (.bool r) ∧ Below w.heap.size w w' := by
  unfold banksmanlaw13_ReadsKeep.f at h
  obtain ⟨fw, hfw, h⟩ := Option.bind_eq_some_iff.mp h
  have hAW : ∀ W, Calls Try.prog 5 #[] W fun e w' => e = .returned (.bool true) ∧ Below W.heap.size W w' := fun W => banksmanlaw13_awake.calls true W rfl
  have H0 := Aside0.mk (AB.start w)
  have H1 := Aside0.mk (H0.out.add (stable_C k34 _ _) hr0)
  clear H0
  have H2 := Aside0.mk (H1.out.add (stable_C k29 _ _) hr1)
  clear H1
  clear hr0 hr1
  have husp := Try.underlying38
  have huwr := Try.underlying46
  have hupa := Try.underlying34
  have huli := Try.underlying29
  have HH0 := Aside0.mk h
  clear h
  go_enter Try.func3, Try.ntmps3
  go_wp2_with (go_at_call 5; (with_reducible refine (hAW _).mono ?_); rintro e v3 ⟨rfl, hb⟩; (suffices hsuf : Aside0 _ from hsuf.out))
  refine ⟨?_⟩
  have H4 := Aside0.mk (H2.out.below hb)
  clear H2
  clear hb
  go_wp2_with (go_at_call 6; refine (banksmanref13_Few.calls k A0 c0 l0 A1 c1 l1 fw v3 H4.out.hp.2.1 hc0 H4.out.hp.1 hc1 hfw).mono ?_; rintro e v5 ⟨rfl, hb⟩; (suffices hsuf : Aside0 _ from hsuf.out))
  refine ⟨?_⟩
  have H6 := Aside0.mk (H4.out.below hb)
  clear H4
  clear hb
  cases fw with
  | false =>
    have h := HH0.out
    obtain rfl := Option.some.inj h
    clear h HH0
    go_wp2
    go_ret
    exact ⟨rfl, H6.out.hb⟩
  | true =>
  have h := HH0.out
  clear HH0
  rw [if_neg (by decide)] at h
  obtain ⟨a, ha, h⟩ := Option.bind_eq_some_iff.mp h
  obtain ⟨b, hb_, h⟩ := Option.bind_eq_some_iff.mp h
  obtain ⟨g, hg_, h⟩ := Option.bind_eq_some_iff.mp h
  obtain ⟨again, hag, h⟩ := Option.bind_eq_some_iff.mp h
  obtain ⟨one, hone, h⟩ := Option.bind_eq_some_iff.mp h
  obtain ⟨kk, hkk, h⟩ := Option.bind_eq_some_iff.mp h
  have hall : again = true ∧ kk = a.length ∧ a.length ≤ b.length ∧ one.length ≤ b.length ∧ (∀ x ∈ one, a2 < x.f1) ∧ l1.length ≤ 1000 := Classical.byContradiction fun hn => by rw [if_neg hn] at h; cases h
  rw [if_pos hall] at h
  obtain rfl := Option.some.inj h
  obtain ⟨rfl, rfl, hab, hob, hno, hlen⟩ := hall
  have HNO := Aside0.mk hno
  have HKK := Aside0.mk hkk
  have HONE := Aside0.mk hone
  have HFN := Aside0.mk (And.intro hb_ (And.intro hg_ hag))
  clear h hno hkk hone hb_ hg_ hag
  go_wp2_with (go_at_call 7; refine (reads_Keep.calls A0 c0 l0 A1 c1 l1 a v5 H6.out.hp.2.1 hc0 H6.out.hp.1 hc1 ha).mono ?_; rintro e v7 ⟨v0_, rfl, hV, hb⟩; (suffices hsuf : Aside0 _ from hsuf.out))
  refine ⟨?_⟩
  obtain ⟨Aa, ca, rfl⟩ := Kd.V_slice hV
  have hca : a.length ≤ ca := (Kd.V_at hV).2.1
  have H8 := Aside0.mk (H6.out.below hb)
  clear H6
  have H9 := Aside0.mk (H8.out.add (stable_C k34 _ _) (Kd.V_reads' hV).2.2)
  clear H8
  clear hV hb
  go_wp2_with ((with_reducible refine gate_dst (N := 26) rfl ?_); (suffices hsuf : Aside0 _ from hsuf.out))
  refine ⟨?_⟩
  have hinf := info29
  refine Kd.N_lit k29 (w0 := v7) v7.heap.size 29 rfl (N' := 26) rfl (xs := ([] : List S29)) (inner := []) (ok := fun _ => True) (okp := fun _ => True) ?hr (Reps.none _ _) (fun _ _ => trivial) trivial (Below.refl _ _) (Nat.le_refl _) (by simp) ?_
  case hr => first | (go_simp; done) | (go_simp; rfl)
  intro x1 y1 hN1 hB1 hG1 hO1
  obtain ⟨X1, d1, rfl⟩ := Kd.N_slice hN1
  simp only [Act.put, List.setIfInBounds_toArray, List.set_cons_zero, List.set_cons_succ]
  have hF0 : Kd.F k29 v7 (fun k => k < v7.heap.size) A1 l1.length l1 := Kd.C_F (by repeat (first | exact Kd.heap_int _ | exact Kd.heap_bool | exact Kd.heap_string | apply Kd.heap_slice | apply Kd.heap_iso | apply Kd.heap_pair)) H9.out.hp.2.1
  have hF1 : Kd.F k29 y1 (fun k => k < v7.heap.size) A1 l1.length l1 := Kd.F_step hF0 (fun k hk _ => hB1.block k hk)
  have hne1 : ∀ k, k < v7.heap.size → some k ≠ (Value.slice X1 ([] : List S29).length d1).ownBlock := fun k hk he => by obtain ⟨b_, hb1, hb2⟩ := hO1; rw [hb1] at he; cases he; omega
  have HA1 := Aside0.mk (And.intro hN1 (And.intro hB1 (And.intro hF1 hne1)))
  clear hN1 hB1 hG1 hO1 hF0 hF1 hne1
  go_wp2_with ((with_reducible refine gate_dst (N := 28) rfl ?_); (suffices hsuf : Aside0 _ from hsuf.out))
  refine ⟨?_⟩
  at_builtin
  refine Kd.N_append_rows k29 (w0 := v7) v7.heap.size rfl (.tmp 26) (.tmp 27) 23 29 _ _ rfl Try.underlying23 hinf rfl (by decide) (by omega) (.slice X1 ([] : List S29).length d1) [] l1 A1 l1.length c1 (fun _ => True) (fun k => k < v7.heap.size) rfl rfl HA1.out.1 HA1.out.2.2.1 (fun k hk => ⟨trivial, HA1.out.2.2.2 k hk⟩) (fun _ _ => trivial) HA1.out.2.1 HA1.out.2.1.size (by simp only [List.length_nil]; omega) ?_
  intro x2 y2 hN2 hB2 hG2 hat2
  obtain ⟨X2, d2, rfl⟩ := Kd.N_slice hN2
  rw [List.nil_append] at hN2
  simp only [Act.put, List.setIfInBounds_toArray, List.set_cons_zero, List.set_cons_succ, List.nil_append] at *
  have HA2 := Aside0.mk (And.intro hN2 hB2)
  clear hN2 hB2 hG2 hat2 HA1
  go_wp2_with ((with_reducible refine gate_dst (N := 32) rfl ?_); (suffices hsuf : Aside0 _ from hsuf.out))
  refine ⟨?_⟩
  at_builtin
  have hcs : Kd.FK k29 y2 (fun _ => False) (⟨a2, []⟩ : S29) [.int .i64 a2, .slice none 0 0] := fun W _ => k29_mk W (⟨a2, []⟩ : S29) (Nat.zero_le _) (⟨rfl, by simp, fun h => absurd h (by simp)⟩ : Kd.C k38 _ none ([] : List _).length [])
  refine Kd.N_append k29 (w0 := v7) v7.heap.size rfl (.tmp 28) (.tmp 31) 23 29 _ _ rfl Try.underlying23 hinf rfl (by decide) (by omega) (.slice X2 l1.length d2) l1 (⟨a2, []⟩ : S29) [.int .i64 a2, .slice none 0 0] (fun _ => True) (fun _ => False) rfl rfl hcs (fun _ hk => hk.elim) (fun _ _ => trivial) HA2.out.1 HA2.out.2 HA2.out.2.size (by omega) ?_
  intro x3 y3 hN3 hB3 _ _
  generalize hL2 : l1 ++ [(⟨a2, []⟩ : S29)] = L2 at *
  clear hL2
  obtain ⟨X3, d3, rfl⟩ := Kd.N_slice hN3
  have hd3 := (Kd.N_reads' hN3).2.1
  simp only [Act.put, List.setIfInBounds_toArray, List.set_cons_zero, List.set_cons_succ]
  have H10 := Aside0.mk (H9.out.below hB3)
  clear H9
  have H11 := Aside0.mk (H10.out.add (stable_C k29 _ _) (Kd.N_reads' hN3).2.2)
  clear H10
  clear hN3 hB3 hcs HA2
  go_wp2_with (go_at_call 7; refine (reads_Keep.calls A0 c0 l0 X3 d3 L2 b y3 H11.out.hp.2.2.2.1 hc0 H11.out.hp.1 hd3 HFN.out.1).mono ?_; rintro e v12 ⟨v0_, rfl, hV, hb⟩; (suffices hsuf : Aside0 _ from hsuf.out))
  refine ⟨?_⟩
  obtain ⟨Ab, cb, rfl⟩ := Kd.V_slice hV
  have hcb : b.length ≤ cb := (Kd.V_at hV).2.1
  have H13 := Aside0.mk (H11.out.below hb)
  clear H11
  have H14 := Aside0.mk (H13.out.add (stable_C k34 _ _) (Kd.V_reads' hV).2.2)
  clear H13
  clear hV hb
  go_wp2_with (go_at_call 7; refine (reads_Keep.calls Aa ca a A1 c1 l1 g v12 H14.out.hp.2.2.1 hca H14.out.hp.2.2.2.1 hc1 HFN.out.2.1).mono ?_; rintro e v15 ⟨v0_, rfl, hV, hb⟩; (suffices hsuf : Aside0 _ from hsuf.out))
  refine ⟨?_⟩
  obtain ⟨Ag, cg, rfl⟩ := Kd.V_slice hV
  have hcg : g.length ≤ cg := (Kd.V_at hV).2.1
  have H16 := Aside0.mk (H14.out.below hb)
  clear H14
  have H17 := Aside0.mk (H16.out.add (stable_C k34 _ _) (Kd.V_reads' hV).2.2)
  clear H16
  clear hV hb
  go_wp2_with (go_at_call 8; refine (banksmanref13_All.calls k Ag cg g Aa ca a true v15 H17.out.hp.1 hcg H17.out.hp.2.2.2.1 hca HFN.out.2.2).mono ?_; rintro e v18 ⟨rfl, hb⟩; (suffices hsuf : Aside0 _ from hsuf.out))
  refine ⟨?_⟩
  have H19 := Aside0.mk (H17.out.below hb)
  clear H17
  clear hb
  go_wp2_with (fail)
  have hm0 : l0.length ≤ 9223372036854775807 := Kd.C_max H19.out.hp.2.2.2.2.2.1
  have hma : a.length ≤ 9223372036854775807 := Kd.C_max H19.out.hp.2.2.2.1
  go_loopw [11, 12] (fun s11 s12 wr => ∃ i m : Nat, s12 = .int .i64 i ∧ s11 = .int .i64 m ∧ i ≤ l0.length ∧ m ≤ a.length ∧ Aside0 (cntK k a (l0.drop i) m = some a.length) ∧ Aside0 (Below v18.heap.size v18 wr)) (fun _ s12 _ => l0.length - (intOf s12).toNat)
  case atStart => exact ⟨0, 0, rfl, rfl, Nat.zero_le _, Nat.zero_le _, ⟨by rw [List.drop_zero]; exact HKK.out⟩, ⟨Below.refl _ _⟩⟩
  case round =>
    obtain ⟨i, m, rfl, rfl, hi_, hm_, HC, HB⟩ := hrel
    have HW := Aside0.mk (H19.out.below HB.out)
    skip
    by_cases hlt : i < l0.length
    · have hrd := rd_mem_Past l0 i hlt
      obtain ⟨ad, A3, c3, A4, c4, e, hx0, hx1, hx2, hx3, hx4, hx5, hl3, hi3, hl4, hi4⟩ := at_T34 HW.out.hp.2.2.2.2.2.1 i (by omega) (by omega)
      cases e
      rw [Int.toNat_natCast] at hx0 hx1 hx2 hx3 hx4 hx5
      have hC := HC.out
      rw [hrd.2] at hC
      have hlt1 : (i : Int) < (l0.length : Int) := by omega
      rw [cntK] at hC
      generalize hpe : rd_T34 l0 (i : Int) = p at *
      by_cases hma2 : m < a.length
      · rw [if_pos hma2] at hC
        obtain ⟨s, hs, hC3⟩ := Option.bind_eq_some_iff.mp hC
        clear hC
        obtain ⟨ad2, B3, d3', B4, d4', e, hy0, hy1, hy2, hy3, hy4, hy5, hk3, hj3, hk4, hj4⟩ := at_T34 HW.out.hp.2.2.2.1 m (by omega) (by omega)
        cases e
        rw [Int.toNat_natCast] at hy0 hy1 hy2 hy3 hy4 hy5
        generalize hxe : rd_T34 a (m : Int) = x at *
        have HC2 := Aside0.mk hC3
        clear hC3 HC hrd hpe hxe
        have hlt2 : (m : Int) < (a.length : Int) := by omega
        have hup : ∀ {q : Addr} {u : Value} (r : Past wr), wr.cell? q = some u → r.W.cell? q = some u := fun {q u} r h => (r.h.cell (World.block_lt_of_cell? wr _ h)).trans h
        have px0 := fun r : Past wr => hup r hx0
        have py0 := fun r : Past wr => hup r hy0
        have px1 := fun r : Past wr => hup r hx1
        have py1 := fun r : Past wr => hup r hy1
        have px2 := fun r : Past wr => hup r hx2
        have py2 := fun r : Past wr => hup r hy2
        have px3 := fun r : Past wr => hup r hx3
        have py3 := fun r : Past wr => hup r hy3
        have px4 := fun r : Past wr => hup r hx4
        have py4 := fun r : Past wr => hup r hy4
        have px5 := fun r : Past wr => hup r hx5
        have py5 := fun r : Past wr => hup r hy5
        have hONE : ∀ r : Past wr, Calls Try.prog 9 #[.agg #[.int .i64 x.f0, .int .i64 x.f1, .bool x.f2, .slice B3 x.f3.length d3', .slice B4 x.f4.length d4', .bool x.f5], .agg #[.int .i64 p.f0, .int .i64 p.f1, .bool p.f2, .slice A3 p.f3.length c3, .slice A4 p.f4.length c4, .bool p.f5]] r.W fun e w' => e = .returned (.bool s) ∧ Below r.W.heap.size r.W w' := fun r => banksmanref13_One.calls k x.f0 x.f1 x.f2 B3 d3' x.f3 B4 d4' x.f4 x.f5 p.f0 p.f1 p.f2 A3 c3 p.f3 A4 c4 p.f4 p.f5 s r.W (Kd.C_below hj3 r.h) hk3 (Kd.C_below hj4 r.h) hk4 (Kd.C_below hi3 r.h) hl3 (Kd.C_below hi4 r.h) hl4 hs
        have HONEc := Aside0.mk hONE
        clear hONE hup hs hj3 hj4 hi3 hi4 hx0 hx1 hx2 hx3 hx4 hx5 hy0 hy1 hy2 hy3 hy4 hy5
        go_wp2_with (fail)
        refine wp_region_past (by kernel_rfl) (by kernel_rfl) ?_
        repeat (go_big_quiet_step (with_reducible exact Calls.past_of rfl (HONEc.out _)))
        refine wpQuiet_nil ?_
        rintro _ ⟨q, rfl⟩
        have HB2 := Aside0.mk (below_step HB.out q.h)
        clear px0 px1 px2 px3 px4 px5 py0 py1 py2 py3 py4 py5 HW
        cases s with
        | true =>
          go_wp2
          go_roundw
          case rel => exact ⟨i + 1, m + 1, by go_num, by go_num, by omega, by omega, ⟨by first | exact HC2.out | (simpa using HC2.out)⟩, HB2⟩
          case measure => simp [intOf]; omega
        | false =>
          go_wp2
          go_roundw
          case rel => exact ⟨i + 1, m, by go_num, rfl, by omega, by omega, ⟨by first | exact HC2.out | (simpa using HC2.out)⟩, HB2⟩
          case measure => simp [intOf]; omega
      · rw [if_neg hma2] at hC
        have HC2 := Aside0.mk hC
        clear hC HC hrd hpe
        have hlt2 : ¬ ((m : Int) < (a.length : Int)) := by omega
        go_wp2
        go_roundw
        case rel => exact ⟨i + 1, m, by go_num, rfl, by omega, by omega, HC2, HB⟩
        case measure => simp [intOf]; omega
    · obtain rfl : i = l0.length := by omega
      have hC := HC.out
      rw [List.drop_length] at hC
      obtain rfl : m = a.length := Option.some.inj hC
      clear hC HC
      have hlt1 : ¬ ((l0.length : Int) < (l0.length : Int)) := by omega
      go_wp2_with ((with_reducible refine gate_dst (N := 65) rfl ?_); (suffices hsuf : Aside0 _ from hsuf.out))
      refine ⟨?_⟩
      obtain ⟨z1, hz1⟩ : ∃ y_, y_ = wr.alloc (.cells #[.int .i64 a2, .slice none ([] : List S38).length 0] 29 (0, 0)) := ⟨_, rfl⟩
      have hbb : Below wr.heap.size wr z1 := by rw [hz1]; exact below_alloc (Below.refl _ _) _
      have H20 := Aside0.mk (HW.out.below hbb)
      clear HW
      obtain ⟨gz, hgz⟩ : ∃ g_, g_ = wr.heap.size := ⟨_, rfl⟩
      have hbl : z1.heap[gz]? = some (.cells #[.int .i64 a2, .slice none ([] : List S38).length 0] 29 (0, 0)) := by rw [hz1, hgz]; exact heap_alloc_new _ _
      have hsp : Kd.C k29 z1 (some ⟨gz, 0, none⟩) [(⟨a2, []⟩ : S29)].length [(⟨a2, []⟩ : S29)] := by
        refine C_of_block (cur := [.int .i64 a2, .slice none ([] : List S38).length 0]) (by simp) hbl (by show 1 * 2 ≤ 2; omega) (fun j p hj => ?_)
        rcases j with _ | j
        · cases hj
          exact k29_mk _ (⟨a2, []⟩ : S29) (Nat.zero_le _) (⟨rfl, by simp, fun h => absurd h (by simp)⟩ : Kd.C k38 _ none ([] : List _).length [])
        · cases hj
      (try simp only [List.length_cons, List.length_nil, Nat.reduceAdd, Nat.zero_add] at hz1)
      rw [← hz1, ← hgz]
      have H21 := Aside0.mk (H20.out.add (stable_C k29 _ _) hsp)
      clear H20
      have HB3 := Aside0.mk (below_step HB.out hbb)
      clear hbb hbl hsp hz1 hgz
      go_wp2_with (go_at_call 7; refine (reads_Keep.calls A0 c0 l0 (some ⟨gz, 0, none⟩) 1 [(⟨a2, []⟩ : S29)] one z1 H21.out.hp.2.2.2.2.2.2.1 hc0 H21.out.hp.1 (Nat.le_refl _) HONE.out).mono ?_; rintro e v22 ⟨v0_, rfl, hV, hb⟩; (suffices hsuf : Aside0 _ from hsuf.out))
      refine ⟨?_⟩
      obtain ⟨Ao, co, rfl⟩ := Kd.V_slice hV
      have hco : one.length ≤ co := (Kd.V_at hV).2.1
      have H23 := Aside0.mk (H21.out.below hb)
      clear H21
      have H24 := Aside0.mk (H23.out.add (stable_C k34 _ _) (Kd.V_reads' hV).2.2)
      clear H23
      clear hV hb
      have hmo : one.length ≤ 9223372036854775807 := Kd.C_max H24.out.hp.1
      go_wp2_with (fail)
      go_loopw [15] (fun s15 wr => ∃ i : Nat, s15 = .int .i64 i ∧ i ≤ one.length ∧ Aside0 (Below v22.heap.size v22 wr)) (fun s15 _ => one.length - (intOf s15).toNat)
      case atStart => exact ⟨0, rfl, Nat.zero_le _, ⟨Below.refl _ _⟩⟩
      case round =>
        obtain ⟨j, rfl, hj_, HB9⟩ := hrel
        have HX := Aside0.mk (H24.out.below HB9.out)
        by_cases hjt : j < one.length
        · have hrd := rd_mem_Past one j hjt
          obtain ⟨ad, A3, c3, A4, c4, e, hx0, hx1, hx2, hx3, hx4, hx5, hl3, hi3, hl4, hi4⟩ := at_T34 HX.out.hp.1 j (by omega) (by omega)
          cases e
          rw [Int.toNat_natCast] at hx0 hx1 hx2 hx3 hx4 hx5
          have hle0 := HNO.out _ hrd.1
          have hle : ¬ ((rd_T34 one (j : Int)).f1 ≤ a2) := by omega
          clear hle0
          generalize rd_T34 one (j : Int) = p at *
          clear hrd hi3 hi4
          have hjt1 : (j : Int) < (one.length : Int) := by omega
          go_wp2
          go_roundw
          case rel => exact ⟨j + 1, by go_num, by omega, HB9⟩
          case measure => simp [intOf]; omega
        · obtain rfl : j = one.length := by omega
          have hjt1 : ¬ ((one.length : Int) < (one.length : Int)) := by omega
          have hab1 : (a.length : Int) ≤ (b.length : Int) := by omega
          have hob1 : (one.length : Int) ≤ (b.length : Int) := by omega
          go_wp2
          go_ret
          exact ⟨rfl, HX.out.hb⟩

/-- The law, plainly. -/
def banksmanlaw13_ReadsKeep.Pure : Prop := ∀ (l0 : List (S34)) (l1 : List (S29)) (a2 : Int), (fun xs_ : List (S34) => xs_.length ≤ maxLen ∧ ∀ x ∈ xs_, (fun x_ : S34 => (fun n_ : Int => (Lit.int .i64 n_).wf = true) x_.f0 ∧ (fun n_ : Int => (Lit.int .i64 n_).wf = true) x_.f1 ∧ (fun _ : Bool => True) x_.f2 ∧ (fun xs_ : List (S38) => xs_.length ≤ maxLen ∧ ∀ x ∈ xs_, (fun x_ : S38 => (fun n_ : Int => (Lit.int .i64 n_).wf = true) x_.f0 ∧ (fun xs_ : List Int => xs_.length ≤ maxLen ∧ ∀ x ∈ xs_, (fun n_ : Int => (Lit.int .u8 n_).wf = true) x) x_.f1 ∧ (fun xs_ : List Int => xs_.length ≤ maxLen ∧ ∀ x ∈ xs_, (fun n_ : Int => (Lit.int .u8 n_).wf = true) x) x_.f2 ∧ (fun _ : Bool => True) x_.f3) x) x_.f3 ∧ (fun xs_ : List (S46) => xs_.length ≤ maxLen ∧ ∀ x ∈ xs_, (fun x_ : S46 => (fun n_ : Int => (Lit.int .i64 n_).wf = true) x_.f0 ∧ (fun xs_ : List Int => xs_.length ≤ maxLen ∧ ∀ x ∈ xs_, (fun n_ : Int => (Lit.int .u8 n_).wf = true) x) x_.f1 ∧ (fun _ : Bool => True) x_.f2 ∧ (fun xs_ : List Int => xs_.length ≤ maxLen ∧ ∀ x ∈ xs_, (fun n_ : Int => (Lit.int .u8 n_).wf = true) x) x_.f3) x) x_.f4 ∧ (fun _ : Bool => True) x_.f5) x) l0 → (fun xs_ : List (S29) => xs_.length ≤ maxLen ∧ ∀ x ∈ xs_, (fun x_ : S29 => (fun n_ : Int => (Lit.int .i64 n_).wf = true) x_.f0 ∧ (fun xs_ : List (S38) => xs_.length ≤ maxLen ∧ ∀ x ∈ xs_, (fun x_ : S38 => (fun n_ : Int => (Lit.int .i64 n_).wf = true) x_.f0 ∧ (fun xs_ : List Int => xs_.length ≤ maxLen ∧ ∀ x ∈ xs_, (fun n_ : Int => (Lit.int .u8 n_).wf = true) x) x_.f1 ∧ (fun xs_ : List Int => xs_.length ≤ maxLen ∧ ∀ x ∈ xs_, (fun n_ : Int => (Lit.int .u8 n_).wf = true) x) x_.f2 ∧ (fun _ : Bool => True) x_.f3) x) x_.f1) x) l1 → (fun n_ : Int => (Lit.int .i64 n_).wf = true) a2 → ∃ k, banksmanlaw13_ReadsKeep.f k l0 l1 a2 = some true

end Go.Proofs.Ytpknchaajgkbnaa.P
