import Derived.Test.YtbjeaalbdaedpaaPx0
import Derived.Laws.Externs
import Derived.Lib.Bytealg
import Derived.Lib.Bytes
import Derived.Lib.BytesEntry
namespace Go.Proofs.Ytbjeaalbdaedpaa.P
open Go.RowKit Go.Proofs.YtbjeaalbdaedpaaW.PrintWords Go.Proofs.YtbjeaalbdaedpaaW.PrintLast Go.Proofs.YtbjeaalbdaedpaaW.PrintMore
attribute [local go_sem] max2_int min2_int max_two min_two max_three min_three max_four min_four
set_option linter.unusedVariables false
set_option linter.unusedSimpArgs false
theorem C_u8_cell {w : World} {ad : Addr} {n : Nat} {l : List Int} (h : Kd.C (Kd.int .u8) w (some ad) n l) : ∀ j x, l[j]? = some x → w.cell? (ad.add j) = some (.int .u8 x) := by
  intro j x hj
  have hn : 0 < n := by
    have := (List.getElem?_eq_some_iff.1 hj).1
    have h1 := h.1
    omega
  obtain ⟨ad', e, hc⟩ := h.2.2 hn
  cases e
  obtain ⟨c, hl, hk, hcell⟩ := hc j x hj
  have hk' : c = [.int .u8 x] := hk
  subst hk'
  have := hcell 0 _ rfl
  rw [Nat.add_zero, show (Kd.int .u8).sz = 1 from rfl, Nat.mul_one] at this
  exact this
theorem run_bytesOf_C {P : Program} {w : World} {A : Option Addr} {c : Nat} {l : List Int} (h : Kd.C (Kd.int .u8) w A l.length l) : (Extern.Bytes.bytesOf (.slice A l.length c)).run P w = .ok (strOfNums l) w := by
  cases A with
  | none =>
    have hl : l.length = 0 := Classical.byContradiction fun hn => by
      obtain ⟨ad, he, _⟩ := h.2.2 (by omega)
      cases he
    obtain rfl : l = [] := List.length_eq_zero_iff.mp hl
    rfl
  | some ad =>
    show (Extern.Bytes.loadBytes ad l.length .empty).run P w = _
    rw [Lib.run_loadBytesX w l ad .empty (C_u8_cell h)]
    congr 1
    apply ByteArray.ext
    simp [Lib.bytesOf, strOfNums]
theorem run_compare_C {P : Program} {w : World} {A B : Option Addr} {c d : Nat} {l m : List Int} (h : Kd.C (Kd.int .u8) w A l.length l) (h2 : Kd.C (Kd.int .u8) w B m.length m) : (Extern.BytealgCompare.compare #[.slice A l.length c, .slice B m.length d]).run P w = .ok (.int .i64 (Lib.compareBytes (strOfNums l).data.toList (strOfNums m).data.toList)) w := by
  change Sem.run P (do pure (goInt (Extern.BytealgCompare.cmp (← Extern.Bytes.bytesOf (.slice A l.length c)) (← Extern.Bytes.bytesOf (.slice B m.length d))))) w = _
  simp only [Sem.run_bind, run_bytesOf_C h, run_bytesOf_C h2, Sem.run_pure, Result.andThen]
  rw [Lib.cmp_eq]
  rfl
def bytes_Compare.f (l0 : List Int) (l1 : List Int) : Option (Int) := some (Lib.compareBytes (Lib.bytesOf l0) (Lib.bytesOf l1))
set_option maxHeartbeats 1000000 in
set_option maxRecDepth 100000 in
theorem bytes_Compare.calls (A0 : Option Addr) (c0 : Nat) (l0 : List Int) (A1 : Option Addr) (c1 : Nat) (l1 : List Int) (r : Int) (w : World) (hr0 : Kd.C (Kd.int .u8) w A0 l0.length l0) (hc0 : l0.length ≤ c0) (hr1 : Kd.C (Kd.int .u8) w A1 l1.length l1) (hc1 : l1.length ≤ c1) (h : bytes_Compare.f l0 l1 = some r) :
    Calls Try.prog 48 #[.slice A0 l0.length c0, .slice A1 l1.length c1] w fun e w' => e = .returned (.int .i64 r) ∧ Drawn0 w w' := by
  unfold bytes_Compare.f at h
  obtain rfl := Option.some.inj h
  have hrun := run_compare_C (P := Try.prog) (c := c0) (d := c1) hr0 hr1
  have e0 : (strOfNums l0).data.toList = Lib.bytesOf l0 := strOfNums_data l0
  have e1 : (strOfNums l1).data.toList = Lib.bytesOf l1 := strOfNums_data l1
  rw [e0, e1] at hrun
  have HRUN := Aside0.mk hrun
  clear hrun e0 e1 h hr0 hr1
  go_enter Try.func48, Try.ntmps48
  go_wp2
  rw [run_callFunc_extern Try.func63 (by kernel_rfl) (by kernel_rfl) (by kernel_rfl) (e := Extern.BytealgCompare.compare) (by kernel_rfl), HRUN.out]
  simp only [Result.andThen]
  rw [Oper.upon_value]
  go_wp2
  go_ret
  exact ⟨rfl, Drawn0.refl _⟩
end Go.Proofs.Ytbjeaalbdaedpaa.P
