import Derived.Test.YtpoaleejhdeclaaPx0
import Derived.Test.YtpoaleejhdeclaaPx1
namespace Go.Proofs.Ytpoaleejhdeclaa.P
open Go.RowKit Go.Proofs.YtpoaleejhdeclaaW.PrintWords Go.Proofs.YtpoaleejhdeclaaW.PrintLast Go.Proofs.YtpoaleejhdeclaaW.PrintMore
attribute [local go_sem] max2_int min2_int max_two min_two max_three min_three max_four min_four
set_option linter.unusedVariables false
set_option linter.unusedSimpArgs false
def banksmanlaw14_awake.f  : Option (Bool) := (banksmanlaw14_of.f (⟨#[121]⟩ : ByteArray)).bind fun t120 => ((banksmanlaw14_put.f (⟨#[120]⟩ : ByteArray)).bind fun t123 => ((some (([(⟨0, 4, false, t120, t123, false⟩ : S50)] : List (S50)) : List (S50))).bind fun y126 => ((banksmanlaw14_of.f (⟨#[120]⟩ : ByteArray)).bind fun t129 => ((banksmanlaw14_put.f (⟨#[121]⟩ : ByteArray)).bind fun t132 => ((rival_Judge.f 3 t129 t132 y126 ([] : List (S24))).bind fun bt135 => ((banksmanlaw14_of.f (⟨#[120]⟩ : ByteArray)).bind fun t137 => ((banksmanlaw14_put.f (⟨#[122]⟩ : ByteArray)).bind fun t140 => ((rival_Judge.f 3 t137 t140 y126 ([] : List (S24))).bind fun bt143 => ((banksmanlaw14_put.f (⟨#[120]⟩ : ByteArray)).bind fun t145 => ((rival_Judge.f 3 ([] : List (S57)) t145 y126 ([] : List (S24))).bind fun bt148 => ((banksmanlaw14_of.f (⟨#[120]⟩ : ByteArray)).bind fun t150 => ((banksmanlaw14_put.f (⟨#[121]⟩ : ByteArray)).bind fun t153 => ((rival_Judge.f 4 t150 t153 y126 ([] : List (S24))).bind fun bt156 => ((banksmanlaw14_of.f (⟨#[120]⟩ : ByteArray)).bind fun t158 => ((banksmanlaw14_put.f (⟨#[122]⟩ : ByteArray)).bind fun t161 => ((banksmanlaw14_of.f (⟨#[122]⟩ : ByteArray)).bind fun t164 => ((rival_Judge.f 3 t158 t161 y126 (([(⟨0, t164⟩ : S24)] : List (S24)))).bind fun bt170 => (if 0 < (y126.length : Int) then ((some (y126.set (0 : Int).toNat (⟨(rd_T50 y126 0).f0, (rd_T50 y126 0).f1, (rd_T50 y126 0).f2, (rd_T50 y126 0).f3, (rd_T50 y126 0).f4, true⟩ : S50) : List (S50))).bind fun y172 => ((banksmanlaw14_of.f (⟨#[120]⟩ : ByteArray)).bind fun t173 => ((banksmanlaw14_put.f (⟨#[122]⟩ : ByteArray)).bind fun t176 => ((rival_Judge.f 3 t173 t176 y172 ([] : List (S24))).bind fun bt179 => (if bt135.1 = true then (some false) else (if bt135.2 = 140 then (if bt143.1 = true then (if bt143.2 = 0 then (if bt148.2 = 140 then (if bt156.1 = true then (some false) else (if bt156.2 = 0 then (if bt170.2 = 140 then (if bt179.2 = 140 then ((rival_Meets.f 3 y172).bind fun t181 => (if (t181.length : Int) = 1 then ((rival_Meets.f 4 y172).bind fun t184 => (if (t184.length : Int) = 0 then (some true) else (some false))) else (some false))) else (some false)) else (some false)) else (some false))) else (some false)) else (some false)) else (some false)) else (some false))))))) else (none)))))))))))))))))))
theorem banksmanlaw14_awake.settled : banksmanlaw14_awake.f = some true := by decide +kernel
theorem banksmanlaw14_awake.true_ (r : Bool) (h : banksmanlaw14_awake.f  = some r) : r = true := by
 exact sO_ (h.symm.trans banksmanlaw14_awake.settled)
set_option maxHeartbeats 8000000 in
set_option maxRecDepth 100000 in
theorem banksmanlaw14_awake.calls1  (r : Bool) (w : World) (h : banksmanlaw14_awake.f  = some r) (HTr_ : r = true) :
   Calls Try.prog 8 #[] w fun e w' => e = .returned (.bool r) ∧ Below w.heap.size w w' := by
 have hu50 := Try.underlying50
 have hu24 := Try.underlying24
 have HB := m0_ (Below.refl w.heap.size w)
 have H : ((banksmanlaw14_of.f (⟨#[121]⟩ : ByteArray)).bind fun t120 => ((banksmanlaw14_put.f (⟨#[120]⟩ : ByteArray)).bind fun t123 => ((some (([(⟨0, 4, false, t120, t123, false⟩ : S50)] : List (S50)) : List (S50))).bind fun y126 => ((banksmanlaw14_of.f (⟨#[120]⟩ : ByteArray)).bind fun t129 => ((banksmanlaw14_put.f (⟨#[121]⟩ : ByteArray)).bind fun t132 => ((rival_Judge.f 3 t129 t132 y126 ([] : List (S24))).bind fun bt135 => ((banksmanlaw14_of.f (⟨#[120]⟩ : ByteArray)).bind fun t137 => ((banksmanlaw14_put.f (⟨#[122]⟩ : ByteArray)).bind fun t140 => ((rival_Judge.f 3 t137 t140 y126 ([] : List (S24))).bind fun bt143 => ((banksmanlaw14_put.f (⟨#[120]⟩ : ByteArray)).bind fun t145 => ((rival_Judge.f 3 ([] : List (S57)) t145 y126 ([] : List (S24))).bind fun bt148 => ((banksmanlaw14_of.f (⟨#[120]⟩ : ByteArray)).bind fun t150 => ((banksmanlaw14_put.f (⟨#[121]⟩ : ByteArray)).bind fun t153 => ((rival_Judge.f 4 t150 t153 y126 ([] : List (S24))).bind fun bt156 => ((banksmanlaw14_of.f (⟨#[120]⟩ : ByteArray)).bind fun t158 => ((banksmanlaw14_put.f (⟨#[122]⟩ : ByteArray)).bind fun t161 => ((banksmanlaw14_of.f (⟨#[122]⟩ : ByteArray)).bind fun t164 => ((rival_Judge.f 3 t158 t161 y126 (([(⟨0, t164⟩ : S24)] : List (S24)))).bind fun bt170 => (if 0 < (y126.length : Int) then ((some (y126.set (0 : Int).toNat (⟨(rd_T50 y126 0).f0, (rd_T50 y126 0).f1, (rd_T50 y126 0).f2, (rd_T50 y126 0).f3, (rd_T50 y126 0).f4, true⟩ : S50) : List (S50))).bind fun y172 => ((banksmanlaw14_of.f (⟨#[120]⟩ : ByteArray)).bind fun t173 => ((banksmanlaw14_put.f (⟨#[122]⟩ : ByteArray)).bind fun t176 => ((rival_Judge.f 3 t173 t176 y172 ([] : List (S24))).bind fun bt179 => (if bt135.1 = true then (some false) else (if bt135.2 = 140 then (if bt143.1 = true then (if bt143.2 = 0 then (if bt148.2 = 140 then (if bt156.1 = true then (some false) else (if bt156.2 = 0 then (if bt170.2 = 140 then (if bt179.2 = 140 then ((rival_Meets.f 3 y172).bind fun t181 => (if (t181.length : Int) = 1 then ((rival_Meets.f 4 y172).bind fun t184 => (if (t184.length : Int) = 0 then (some true) else (some false))) else (some false))) else (some false)) else (some false)) else (some false))) else (some false)) else (some false)) else (some false)) else (some false))))))) else (none)))))))))))))))))))) = some r := h
 clear h
 replace H := Option.bind_eq_some_iff.mp H
 obtain ⟨t120, A10, H⟩ := H
 replace H : ((banksmanlaw14_put.f (⟨#[120]⟩ : ByteArray)).bind fun t123 => ((some (([(⟨0, 4, false, t120, t123, false⟩ : S50)] : List (S50)) : List (S50))).bind fun y126 => ((banksmanlaw14_of.f (⟨#[120]⟩ : ByteArray)).bind fun t129 => ((banksmanlaw14_put.f (⟨#[121]⟩ : ByteArray)).bind fun t132 => ((rival_Judge.f 3 t129 t132 y126 ([] : List (S24))).bind fun bt135 => ((banksmanlaw14_of.f (⟨#[120]⟩ : ByteArray)).bind fun t137 => ((banksmanlaw14_put.f (⟨#[122]⟩ : ByteArray)).bind fun t140 => ((rival_Judge.f 3 t137 t140 y126 ([] : List (S24))).bind fun bt143 => ((banksmanlaw14_put.f (⟨#[120]⟩ : ByteArray)).bind fun t145 => ((rival_Judge.f 3 ([] : List (S57)) t145 y126 ([] : List (S24))).bind fun bt148 => ((banksmanlaw14_of.f (⟨#[120]⟩ : ByteArray)).bind fun t150 => ((banksmanlaw14_put.f (⟨#[121]⟩ : ByteArray)).bind fun t153 => ((rival_Judge.f 4 t150 t153 y126 ([] : List (S24))).bind fun bt156 => ((banksmanlaw14_of.f (⟨#[120]⟩ : ByteArray)).bind fun t158 => ((banksmanlaw14_put.f (⟨#[122]⟩ : ByteArray)).bind fun t161 => ((banksmanlaw14_of.f (⟨#[122]⟩ : ByteArray)).bind fun t164 => ((rival_Judge.f 3 t158 t161 y126 (([(⟨0, t164⟩ : S24)] : List (S24)))).bind fun bt170 => (if 0 < (y126.length : Int) then ((some (y126.set (0 : Int).toNat (⟨(rd_T50 y126 0).f0, (rd_T50 y126 0).f1, (rd_T50 y126 0).f2, (rd_T50 y126 0).f3, (rd_T50 y126 0).f4, true⟩ : S50) : List (S50))).bind fun y172 => ((banksmanlaw14_of.f (⟨#[120]⟩ : ByteArray)).bind fun t173 => ((banksmanlaw14_put.f (⟨#[122]⟩ : ByteArray)).bind fun t176 => ((rival_Judge.f 3 t173 t176 y172 ([] : List (S24))).bind fun bt179 => (if bt135.1 = true then (some false) else (if bt135.2 = 140 then (if bt143.1 = true then (if bt143.2 = 0 then (if bt148.2 = 140 then (if bt156.1 = true then (some false) else (if bt156.2 = 0 then (if bt170.2 = 140 then (if bt179.2 = 140 then ((rival_Meets.f 3 y172).bind fun t181 => (if (t181.length : Int) = 1 then ((rival_Meets.f 4 y172).bind fun t184 => (if (t184.length : Int) = 0 then (some true) else (some false))) else (some false))) else (some false)) else (some false)) else (some false))) else (some false)) else (some false)) else (some false)) else (some false))))))) else (none))))))))))))))))))) = some r := H
 have A1 := m0_ A10
 clear A10
 replace H := Option.bind_eq_some_iff.mp H
 obtain ⟨t123, A20, H⟩ := H
 replace H : ((some (([(⟨0, 4, false, t120, t123, false⟩ : S50)] : List (S50)) : List (S50))).bind fun y126 => ((banksmanlaw14_of.f (⟨#[120]⟩ : ByteArray)).bind fun t129 => ((banksmanlaw14_put.f (⟨#[121]⟩ : ByteArray)).bind fun t132 => ((rival_Judge.f 3 t129 t132 y126 ([] : List (S24))).bind fun bt135 => ((banksmanlaw14_of.f (⟨#[120]⟩ : ByteArray)).bind fun t137 => ((banksmanlaw14_put.f (⟨#[122]⟩ : ByteArray)).bind fun t140 => ((rival_Judge.f 3 t137 t140 y126 ([] : List (S24))).bind fun bt143 => ((banksmanlaw14_put.f (⟨#[120]⟩ : ByteArray)).bind fun t145 => ((rival_Judge.f 3 ([] : List (S57)) t145 y126 ([] : List (S24))).bind fun bt148 => ((banksmanlaw14_of.f (⟨#[120]⟩ : ByteArray)).bind fun t150 => ((banksmanlaw14_put.f (⟨#[121]⟩ : ByteArray)).bind fun t153 => ((rival_Judge.f 4 t150 t153 y126 ([] : List (S24))).bind fun bt156 => ((banksmanlaw14_of.f (⟨#[120]⟩ : ByteArray)).bind fun t158 => ((banksmanlaw14_put.f (⟨#[122]⟩ : ByteArray)).bind fun t161 => ((banksmanlaw14_of.f (⟨#[122]⟩ : ByteArray)).bind fun t164 => ((rival_Judge.f 3 t158 t161 y126 (([(⟨0, t164⟩ : S24)] : List (S24)))).bind fun bt170 => (if 0 < (y126.length : Int) then ((some (y126.set (0 : Int).toNat (⟨(rd_T50 y126 0).f0, (rd_T50 y126 0).f1, (rd_T50 y126 0).f2, (rd_T50 y126 0).f3, (rd_T50 y126 0).f4, true⟩ : S50) : List (S50))).bind fun y172 => ((banksmanlaw14_of.f (⟨#[120]⟩ : ByteArray)).bind fun t173 => ((banksmanlaw14_put.f (⟨#[122]⟩ : ByteArray)).bind fun t176 => ((rival_Judge.f 3 t173 t176 y172 ([] : List (S24))).bind fun bt179 => (if bt135.1 = true then (some false) else (if bt135.2 = 140 then (if bt143.1 = true then (if bt143.2 = 0 then (if bt148.2 = 140 then (if bt156.1 = true then (some false) else (if bt156.2 = 0 then (if bt170.2 = 140 then (if bt179.2 = 140 then ((rival_Meets.f 3 y172).bind fun t181 => (if (t181.length : Int) = 1 then ((rival_Meets.f 4 y172).bind fun t184 => (if (t184.length : Int) = 0 then (some true) else (some false))) else (some false))) else (some false)) else (some false)) else (some false))) else (some false)) else (some false)) else (some false)) else (some false))))))) else (none)))))))))))))))))) = some r := H
 have A2 := m0_ A20
 clear A20
 obtain ⟨y126, hy126⟩ : ∃ y_ : List (S50), y_ = (([(⟨0, 4, false, t120, t123, false⟩ : S50)] : List (S50))) := ⟨_, rfl⟩
 replace H : ((banksmanlaw14_of.f (⟨#[120]⟩ : ByteArray)).bind fun t129 => ((banksmanlaw14_put.f (⟨#[121]⟩ : ByteArray)).bind fun t132 => ((rival_Judge.f 3 t129 t132 y126 ([] : List (S24))).bind fun bt135 => ((banksmanlaw14_of.f (⟨#[120]⟩ : ByteArray)).bind fun t137 => ((banksmanlaw14_put.f (⟨#[122]⟩ : ByteArray)).bind fun t140 => ((rival_Judge.f 3 t137 t140 y126 ([] : List (S24))).bind fun bt143 => ((banksmanlaw14_put.f (⟨#[120]⟩ : ByteArray)).bind fun t145 => ((rival_Judge.f 3 ([] : List (S57)) t145 y126 ([] : List (S24))).bind fun bt148 => ((banksmanlaw14_of.f (⟨#[120]⟩ : ByteArray)).bind fun t150 => ((banksmanlaw14_put.f (⟨#[121]⟩ : ByteArray)).bind fun t153 => ((rival_Judge.f 4 t150 t153 y126 ([] : List (S24))).bind fun bt156 => ((banksmanlaw14_of.f (⟨#[120]⟩ : ByteArray)).bind fun t158 => ((banksmanlaw14_put.f (⟨#[122]⟩ : ByteArray)).bind fun t161 => ((banksmanlaw14_of.f (⟨#[122]⟩ : ByteArray)).bind fun t164 => ((rival_Judge.f 3 t158 t161 y126 (([(⟨0, t164⟩ : S24)] : List (S24)))).bind fun bt170 => (if 0 < (y126.length : Int) then ((some (y126.set (0 : Int).toNat (⟨(rd_T50 y126 0).f0, (rd_T50 y126 0).f1, (rd_T50 y126 0).f2, (rd_T50 y126 0).f3, (rd_T50 y126 0).f4, true⟩ : S50) : List (S50))).bind fun y172 => ((banksmanlaw14_of.f (⟨#[120]⟩ : ByteArray)).bind fun t173 => ((banksmanlaw14_put.f (⟨#[122]⟩ : ByteArray)).bind fun t176 => ((rival_Judge.f 3 t173 t176 y172 ([] : List (S24))).bind fun bt179 => (if bt135.1 = true then (some false) else (if bt135.2 = 140 then (if bt143.1 = true then (if bt143.2 = 0 then (if bt148.2 = 140 then (if bt156.1 = true then (some false) else (if bt156.2 = 0 then (if bt170.2 = 140 then (if bt179.2 = 140 then ((rival_Meets.f 3 y172).bind fun t181 => (if (t181.length : Int) = 1 then ((rival_Meets.f 4 y172).bind fun t184 => (if (t184.length : Int) = 0 then (some true) else (some false))) else (some false))) else (some false)) else (some false)) else (some false))) else (some false)) else (some false)) else (some false)) else (some false))))))) else (none))))))))))))))))) = some r := by first | (rw [hy126]; with_reducible exact H) | (have H2_ := (Option.bind_some _ _).symm.trans H; rw [hy126]; with_reducible exact H2_) | (have H2_ := (Option.bind_some _ _).symm.trans H; with_reducible exact H2_) | with_reducible exact H | (rw [hy126]; exact H) | exact H
 have Ny126 := m0_ hy126
 clear hy126
 replace H := Option.bind_eq_some_iff.mp H
 obtain ⟨t129, A30, H⟩ := H
 replace H : ((banksmanlaw14_put.f (⟨#[121]⟩ : ByteArray)).bind fun t132 => ((rival_Judge.f 3 t129 t132 y126 ([] : List (S24))).bind fun bt135 => ((banksmanlaw14_of.f (⟨#[120]⟩ : ByteArray)).bind fun t137 => ((banksmanlaw14_put.f (⟨#[122]⟩ : ByteArray)).bind fun t140 => ((rival_Judge.f 3 t137 t140 y126 ([] : List (S24))).bind fun bt143 => ((banksmanlaw14_put.f (⟨#[120]⟩ : ByteArray)).bind fun t145 => ((rival_Judge.f 3 ([] : List (S57)) t145 y126 ([] : List (S24))).bind fun bt148 => ((banksmanlaw14_of.f (⟨#[120]⟩ : ByteArray)).bind fun t150 => ((banksmanlaw14_put.f (⟨#[121]⟩ : ByteArray)).bind fun t153 => ((rival_Judge.f 4 t150 t153 y126 ([] : List (S24))).bind fun bt156 => ((banksmanlaw14_of.f (⟨#[120]⟩ : ByteArray)).bind fun t158 => ((banksmanlaw14_put.f (⟨#[122]⟩ : ByteArray)).bind fun t161 => ((banksmanlaw14_of.f (⟨#[122]⟩ : ByteArray)).bind fun t164 => ((rival_Judge.f 3 t158 t161 y126 (([(⟨0, t164⟩ : S24)] : List (S24)))).bind fun bt170 => (if 0 < (y126.length : Int) then ((some (y126.set (0 : Int).toNat (⟨(rd_T50 y126 0).f0, (rd_T50 y126 0).f1, (rd_T50 y126 0).f2, (rd_T50 y126 0).f3, (rd_T50 y126 0).f4, true⟩ : S50) : List (S50))).bind fun y172 => ((banksmanlaw14_of.f (⟨#[120]⟩ : ByteArray)).bind fun t173 => ((banksmanlaw14_put.f (⟨#[122]⟩ : ByteArray)).bind fun t176 => ((rival_Judge.f 3 t173 t176 y172 ([] : List (S24))).bind fun bt179 => (if bt135.1 = true then (some false) else (if bt135.2 = 140 then (if bt143.1 = true then (if bt143.2 = 0 then (if bt148.2 = 140 then (if bt156.1 = true then (some false) else (if bt156.2 = 0 then (if bt170.2 = 140 then (if bt179.2 = 140 then ((rival_Meets.f 3 y172).bind fun t181 => (if (t181.length : Int) = 1 then ((rival_Meets.f 4 y172).bind fun t184 => (if (t184.length : Int) = 0 then (some true) else (some false))) else (some false))) else (some false)) else (some false)) else (some false))) else (some false)) else (some false)) else (some false)) else (some false))))))) else (none)))))))))))))))) = some r := H
 have A3 := m0_ A30
 clear A30
 replace H := Option.bind_eq_some_iff.mp H
 obtain ⟨t132, A40, H⟩ := H
 replace H : ((rival_Judge.f 3 t129 t132 y126 ([] : List (S24))).bind fun bt135 => ((banksmanlaw14_of.f (⟨#[120]⟩ : ByteArray)).bind fun t137 => ((banksmanlaw14_put.f (⟨#[122]⟩ : ByteArray)).bind fun t140 => ((rival_Judge.f 3 t137 t140 y126 ([] : List (S24))).bind fun bt143 => ((banksmanlaw14_put.f (⟨#[120]⟩ : ByteArray)).bind fun t145 => ((rival_Judge.f 3 ([] : List (S57)) t145 y126 ([] : List (S24))).bind fun bt148 => ((banksmanlaw14_of.f (⟨#[120]⟩ : ByteArray)).bind fun t150 => ((banksmanlaw14_put.f (⟨#[121]⟩ : ByteArray)).bind fun t153 => ((rival_Judge.f 4 t150 t153 y126 ([] : List (S24))).bind fun bt156 => ((banksmanlaw14_of.f (⟨#[120]⟩ : ByteArray)).bind fun t158 => ((banksmanlaw14_put.f (⟨#[122]⟩ : ByteArray)).bind fun t161 => ((banksmanlaw14_of.f (⟨#[122]⟩ : ByteArray)).bind fun t164 => ((rival_Judge.f 3 t158 t161 y126 (([(⟨0, t164⟩ : S24)] : List (S24)))).bind fun bt170 => (if 0 < (y126.length : Int) then ((some (y126.set (0 : Int).toNat (⟨(rd_T50 y126 0).f0, (rd_T50 y126 0).f1, (rd_T50 y126 0).f2, (rd_T50 y126 0).f3, (rd_T50 y126 0).f4, true⟩ : S50) : List (S50))).bind fun y172 => ((banksmanlaw14_of.f (⟨#[120]⟩ : ByteArray)).bind fun t173 => ((banksmanlaw14_put.f (⟨#[122]⟩ : ByteArray)).bind fun t176 => ((rival_Judge.f 3 t173 t176 y172 ([] : List (S24))).bind fun bt179 => (if bt135.1 = true then (some false) else (if bt135.2 = 140 then (if bt143.1 = true then (if bt143.2 = 0 then (if bt148.2 = 140 then (if bt156.1 = true then (some false) else (if bt156.2 = 0 then (if bt170.2 = 140 then (if bt179.2 = 140 then ((rival_Meets.f 3 y172).bind fun t181 => (if (t181.length : Int) = 1 then ((rival_Meets.f 4 y172).bind fun t184 => (if (t184.length : Int) = 0 then (some true) else (some false))) else (some false))) else (some false)) else (some false)) else (some false))) else (some false)) else (some false)) else (some false)) else (some false))))))) else (none))))))))))))))) = some r := H
 have A4 := m0_ A40
 clear A40
 replace H := Option.bind_eq_some_iff.mp H
 obtain ⟨⟨t135, t136⟩, A50, H⟩ := H
 replace H : ((banksmanlaw14_of.f (⟨#[120]⟩ : ByteArray)).bind fun t137 => ((banksmanlaw14_put.f (⟨#[122]⟩ : ByteArray)).bind fun t140 => ((rival_Judge.f 3 t137 t140 y126 ([] : List (S24))).bind fun bt143 => ((banksmanlaw14_put.f (⟨#[120]⟩ : ByteArray)).bind fun t145 => ((rival_Judge.f 3 ([] : List (S57)) t145 y126 ([] : List (S24))).bind fun bt148 => ((banksmanlaw14_of.f (⟨#[120]⟩ : ByteArray)).bind fun t150 => ((banksmanlaw14_put.f (⟨#[121]⟩ : ByteArray)).bind fun t153 => ((rival_Judge.f 4 t150 t153 y126 ([] : List (S24))).bind fun bt156 => ((banksmanlaw14_of.f (⟨#[120]⟩ : ByteArray)).bind fun t158 => ((banksmanlaw14_put.f (⟨#[122]⟩ : ByteArray)).bind fun t161 => ((banksmanlaw14_of.f (⟨#[122]⟩ : ByteArray)).bind fun t164 => ((rival_Judge.f 3 t158 t161 y126 (([(⟨0, t164⟩ : S24)] : List (S24)))).bind fun bt170 => (if 0 < (y126.length : Int) then ((some (y126.set (0 : Int).toNat (⟨(rd_T50 y126 0).f0, (rd_T50 y126 0).f1, (rd_T50 y126 0).f2, (rd_T50 y126 0).f3, (rd_T50 y126 0).f4, true⟩ : S50) : List (S50))).bind fun y172 => ((banksmanlaw14_of.f (⟨#[120]⟩ : ByteArray)).bind fun t173 => ((banksmanlaw14_put.f (⟨#[122]⟩ : ByteArray)).bind fun t176 => ((rival_Judge.f 3 t173 t176 y172 ([] : List (S24))).bind fun bt179 => (if t135 = true then (some false) else (if t136 = 140 then (if bt143.1 = true then (if bt143.2 = 0 then (if bt148.2 = 140 then (if bt156.1 = true then (some false) else (if bt156.2 = 0 then (if bt170.2 = 140 then (if bt179.2 = 140 then ((rival_Meets.f 3 y172).bind fun t181 => (if (t181.length : Int) = 1 then ((rival_Meets.f 4 y172).bind fun t184 => (if (t184.length : Int) = 0 then (some true) else (some false))) else (some false))) else (some false)) else (some false)) else (some false))) else (some false)) else (some false)) else (some false)) else (some false))))))) else (none)))))))))))))) = some r := H
 have A5 := m0_ A50
 clear A50
 replace H := Option.bind_eq_some_iff.mp H
 obtain ⟨t137, A60, H⟩ := H
 replace H : ((banksmanlaw14_put.f (⟨#[122]⟩ : ByteArray)).bind fun t140 => ((rival_Judge.f 3 t137 t140 y126 ([] : List (S24))).bind fun bt143 => ((banksmanlaw14_put.f (⟨#[120]⟩ : ByteArray)).bind fun t145 => ((rival_Judge.f 3 ([] : List (S57)) t145 y126 ([] : List (S24))).bind fun bt148 => ((banksmanlaw14_of.f (⟨#[120]⟩ : ByteArray)).bind fun t150 => ((banksmanlaw14_put.f (⟨#[121]⟩ : ByteArray)).bind fun t153 => ((rival_Judge.f 4 t150 t153 y126 ([] : List (S24))).bind fun bt156 => ((banksmanlaw14_of.f (⟨#[120]⟩ : ByteArray)).bind fun t158 => ((banksmanlaw14_put.f (⟨#[122]⟩ : ByteArray)).bind fun t161 => ((banksmanlaw14_of.f (⟨#[122]⟩ : ByteArray)).bind fun t164 => ((rival_Judge.f 3 t158 t161 y126 (([(⟨0, t164⟩ : S24)] : List (S24)))).bind fun bt170 => (if 0 < (y126.length : Int) then ((some (y126.set (0 : Int).toNat (⟨(rd_T50 y126 0).f0, (rd_T50 y126 0).f1, (rd_T50 y126 0).f2, (rd_T50 y126 0).f3, (rd_T50 y126 0).f4, true⟩ : S50) : List (S50))).bind fun y172 => ((banksmanlaw14_of.f (⟨#[120]⟩ : ByteArray)).bind fun t173 => ((banksmanlaw14_put.f (⟨#[122]⟩ : ByteArray)).bind fun t176 => ((rival_Judge.f 3 t173 t176 y172 ([] : List (S24))).bind fun bt179 => (if t135 = true then (some false) else (if t136 = 140 then (if bt143.1 = true then (if bt143.2 = 0 then (if bt148.2 = 140 then (if bt156.1 = true then (some false) else (if bt156.2 = 0 then (if bt170.2 = 140 then (if bt179.2 = 140 then ((rival_Meets.f 3 y172).bind fun t181 => (if (t181.length : Int) = 1 then ((rival_Meets.f 4 y172).bind fun t184 => (if (t184.length : Int) = 0 then (some true) else (some false))) else (some false))) else (some false)) else (some false)) else (some false))) else (some false)) else (some false)) else (some false)) else (some false))))))) else (none))))))))))))) = some r := H
 have A6 := m0_ A60
 clear A60
 replace H := Option.bind_eq_some_iff.mp H
 obtain ⟨t140, A70, H⟩ := H
 replace H : ((rival_Judge.f 3 t137 t140 y126 ([] : List (S24))).bind fun bt143 => ((banksmanlaw14_put.f (⟨#[120]⟩ : ByteArray)).bind fun t145 => ((rival_Judge.f 3 ([] : List (S57)) t145 y126 ([] : List (S24))).bind fun bt148 => ((banksmanlaw14_of.f (⟨#[120]⟩ : ByteArray)).bind fun t150 => ((banksmanlaw14_put.f (⟨#[121]⟩ : ByteArray)).bind fun t153 => ((rival_Judge.f 4 t150 t153 y126 ([] : List (S24))).bind fun bt156 => ((banksmanlaw14_of.f (⟨#[120]⟩ : ByteArray)).bind fun t158 => ((banksmanlaw14_put.f (⟨#[122]⟩ : ByteArray)).bind fun t161 => ((banksmanlaw14_of.f (⟨#[122]⟩ : ByteArray)).bind fun t164 => ((rival_Judge.f 3 t158 t161 y126 (([(⟨0, t164⟩ : S24)] : List (S24)))).bind fun bt170 => (if 0 < (y126.length : Int) then ((some (y126.set (0 : Int).toNat (⟨(rd_T50 y126 0).f0, (rd_T50 y126 0).f1, (rd_T50 y126 0).f2, (rd_T50 y126 0).f3, (rd_T50 y126 0).f4, true⟩ : S50) : List (S50))).bind fun y172 => ((banksmanlaw14_of.f (⟨#[120]⟩ : ByteArray)).bind fun t173 => ((banksmanlaw14_put.f (⟨#[122]⟩ : ByteArray)).bind fun t176 => ((rival_Judge.f 3 t173 t176 y172 ([] : List (S24))).bind fun bt179 => (if t135 = true then (some false) else (if t136 = 140 then (if bt143.1 = true then (if bt143.2 = 0 then (if bt148.2 = 140 then (if bt156.1 = true then (some false) else (if bt156.2 = 0 then (if bt170.2 = 140 then (if bt179.2 = 140 then ((rival_Meets.f 3 y172).bind fun t181 => (if (t181.length : Int) = 1 then ((rival_Meets.f 4 y172).bind fun t184 => (if (t184.length : Int) = 0 then (some true) else (some false))) else (some false))) else (some false)) else (some false)) else (some false))) else (some false)) else (some false)) else (some false)) else (some false))))))) else (none)))))))))))) = some r := H
 have A7 := m0_ A70
 clear A70
 replace H := Option.bind_eq_some_iff.mp H
 obtain ⟨⟨t143, t144⟩, A80, H⟩ := H
 replace H : ((banksmanlaw14_put.f (⟨#[120]⟩ : ByteArray)).bind fun t145 => ((rival_Judge.f 3 ([] : List (S57)) t145 y126 ([] : List (S24))).bind fun bt148 => ((banksmanlaw14_of.f (⟨#[120]⟩ : ByteArray)).bind fun t150 => ((banksmanlaw14_put.f (⟨#[121]⟩ : ByteArray)).bind fun t153 => ((rival_Judge.f 4 t150 t153 y126 ([] : List (S24))).bind fun bt156 => ((banksmanlaw14_of.f (⟨#[120]⟩ : ByteArray)).bind fun t158 => ((banksmanlaw14_put.f (⟨#[122]⟩ : ByteArray)).bind fun t161 => ((banksmanlaw14_of.f (⟨#[122]⟩ : ByteArray)).bind fun t164 => ((rival_Judge.f 3 t158 t161 y126 (([(⟨0, t164⟩ : S24)] : List (S24)))).bind fun bt170 => (if 0 < (y126.length : Int) then ((some (y126.set (0 : Int).toNat (⟨(rd_T50 y126 0).f0, (rd_T50 y126 0).f1, (rd_T50 y126 0).f2, (rd_T50 y126 0).f3, (rd_T50 y126 0).f4, true⟩ : S50) : List (S50))).bind fun y172 => ((banksmanlaw14_of.f (⟨#[120]⟩ : ByteArray)).bind fun t173 => ((banksmanlaw14_put.f (⟨#[122]⟩ : ByteArray)).bind fun t176 => ((rival_Judge.f 3 t173 t176 y172 ([] : List (S24))).bind fun bt179 => (if t135 = true then (some false) else (if t136 = 140 then (if t143 = true then (if t144 = 0 then (if bt148.2 = 140 then (if bt156.1 = true then (some false) else (if bt156.2 = 0 then (if bt170.2 = 140 then (if bt179.2 = 140 then ((rival_Meets.f 3 y172).bind fun t181 => (if (t181.length : Int) = 1 then ((rival_Meets.f 4 y172).bind fun t184 => (if (t184.length : Int) = 0 then (some true) else (some false))) else (some false))) else (some false)) else (some false)) else (some false))) else (some false)) else (some false)) else (some false)) else (some false))))))) else (none))))))))))) = some r := H
 have A8 := m0_ A80
 clear A80
 replace H := Option.bind_eq_some_iff.mp H
 obtain ⟨t145, A90, H⟩ := H
 replace H : ((rival_Judge.f 3 ([] : List (S57)) t145 y126 ([] : List (S24))).bind fun bt148 => ((banksmanlaw14_of.f (⟨#[120]⟩ : ByteArray)).bind fun t150 => ((banksmanlaw14_put.f (⟨#[121]⟩ : ByteArray)).bind fun t153 => ((rival_Judge.f 4 t150 t153 y126 ([] : List (S24))).bind fun bt156 => ((banksmanlaw14_of.f (⟨#[120]⟩ : ByteArray)).bind fun t158 => ((banksmanlaw14_put.f (⟨#[122]⟩ : ByteArray)).bind fun t161 => ((banksmanlaw14_of.f (⟨#[122]⟩ : ByteArray)).bind fun t164 => ((rival_Judge.f 3 t158 t161 y126 (([(⟨0, t164⟩ : S24)] : List (S24)))).bind fun bt170 => (if 0 < (y126.length : Int) then ((some (y126.set (0 : Int).toNat (⟨(rd_T50 y126 0).f0, (rd_T50 y126 0).f1, (rd_T50 y126 0).f2, (rd_T50 y126 0).f3, (rd_T50 y126 0).f4, true⟩ : S50) : List (S50))).bind fun y172 => ((banksmanlaw14_of.f (⟨#[120]⟩ : ByteArray)).bind fun t173 => ((banksmanlaw14_put.f (⟨#[122]⟩ : ByteArray)).bind fun t176 => ((rival_Judge.f 3 t173 t176 y172 ([] : List (S24))).bind fun bt179 => (if t135 = true then (some false) else (if t136 = 140 then (if t143 = true then (if t144 = 0 then (if bt148.2 = 140 then (if bt156.1 = true then (some false) else (if bt156.2 = 0 then (if bt170.2 = 140 then (if bt179.2 = 140 then ((rival_Meets.f 3 y172).bind fun t181 => (if (t181.length : Int) = 1 then ((rival_Meets.f 4 y172).bind fun t184 => (if (t184.length : Int) = 0 then (some true) else (some false))) else (some false))) else (some false)) else (some false)) else (some false))) else (some false)) else (some false)) else (some false)) else (some false))))))) else (none)))))))))) = some r := H
 have A9 := m0_ A90
 clear A90
 replace H := Option.bind_eq_some_iff.mp H
 obtain ⟨⟨t148, t149⟩, A100, H⟩ := H
 replace H : ((banksmanlaw14_of.f (⟨#[120]⟩ : ByteArray)).bind fun t150 => ((banksmanlaw14_put.f (⟨#[121]⟩ : ByteArray)).bind fun t153 => ((rival_Judge.f 4 t150 t153 y126 ([] : List (S24))).bind fun bt156 => ((banksmanlaw14_of.f (⟨#[120]⟩ : ByteArray)).bind fun t158 => ((banksmanlaw14_put.f (⟨#[122]⟩ : ByteArray)).bind fun t161 => ((banksmanlaw14_of.f (⟨#[122]⟩ : ByteArray)).bind fun t164 => ((rival_Judge.f 3 t158 t161 y126 (([(⟨0, t164⟩ : S24)] : List (S24)))).bind fun bt170 => (if 0 < (y126.length : Int) then ((some (y126.set (0 : Int).toNat (⟨(rd_T50 y126 0).f0, (rd_T50 y126 0).f1, (rd_T50 y126 0).f2, (rd_T50 y126 0).f3, (rd_T50 y126 0).f4, true⟩ : S50) : List (S50))).bind fun y172 => ((banksmanlaw14_of.f (⟨#[120]⟩ : ByteArray)).bind fun t173 => ((banksmanlaw14_put.f (⟨#[122]⟩ : ByteArray)).bind fun t176 => ((rival_Judge.f 3 t173 t176 y172 ([] : List (S24))).bind fun bt179 => (if t135 = true then (some false) else (if t136 = 140 then (if t143 = true then (if t144 = 0 then (if t149 = 140 then (if bt156.1 = true then (some false) else (if bt156.2 = 0 then (if bt170.2 = 140 then (if bt179.2 = 140 then ((rival_Meets.f 3 y172).bind fun t181 => (if (t181.length : Int) = 1 then ((rival_Meets.f 4 y172).bind fun t184 => (if (t184.length : Int) = 0 then (some true) else (some false))) else (some false))) else (some false)) else (some false)) else (some false))) else (some false)) else (some false)) else (some false)) else (some false))))))) else (none))))))))) = some r := H
 have A10 := m0_ A100
 clear A100
 replace H := Option.bind_eq_some_iff.mp H
 obtain ⟨t150, A110, H⟩ := H
 replace H : ((banksmanlaw14_put.f (⟨#[121]⟩ : ByteArray)).bind fun t153 => ((rival_Judge.f 4 t150 t153 y126 ([] : List (S24))).bind fun bt156 => ((banksmanlaw14_of.f (⟨#[120]⟩ : ByteArray)).bind fun t158 => ((banksmanlaw14_put.f (⟨#[122]⟩ : ByteArray)).bind fun t161 => ((banksmanlaw14_of.f (⟨#[122]⟩ : ByteArray)).bind fun t164 => ((rival_Judge.f 3 t158 t161 y126 (([(⟨0, t164⟩ : S24)] : List (S24)))).bind fun bt170 => (if 0 < (y126.length : Int) then ((some (y126.set (0 : Int).toNat (⟨(rd_T50 y126 0).f0, (rd_T50 y126 0).f1, (rd_T50 y126 0).f2, (rd_T50 y126 0).f3, (rd_T50 y126 0).f4, true⟩ : S50) : List (S50))).bind fun y172 => ((banksmanlaw14_of.f (⟨#[120]⟩ : ByteArray)).bind fun t173 => ((banksmanlaw14_put.f (⟨#[122]⟩ : ByteArray)).bind fun t176 => ((rival_Judge.f 3 t173 t176 y172 ([] : List (S24))).bind fun bt179 => (if t135 = true then (some false) else (if t136 = 140 then (if t143 = true then (if t144 = 0 then (if t149 = 140 then (if bt156.1 = true then (some false) else (if bt156.2 = 0 then (if bt170.2 = 140 then (if bt179.2 = 140 then ((rival_Meets.f 3 y172).bind fun t181 => (if (t181.length : Int) = 1 then ((rival_Meets.f 4 y172).bind fun t184 => (if (t184.length : Int) = 0 then (some true) else (some false))) else (some false))) else (some false)) else (some false)) else (some false))) else (some false)) else (some false)) else (some false)) else (some false))))))) else (none)))))))) = some r := H
 have A11 := m0_ A110
 clear A110
 replace H := Option.bind_eq_some_iff.mp H
 obtain ⟨t153, A120, H⟩ := H
 replace H : ((rival_Judge.f 4 t150 t153 y126 ([] : List (S24))).bind fun bt156 => ((banksmanlaw14_of.f (⟨#[120]⟩ : ByteArray)).bind fun t158 => ((banksmanlaw14_put.f (⟨#[122]⟩ : ByteArray)).bind fun t161 => ((banksmanlaw14_of.f (⟨#[122]⟩ : ByteArray)).bind fun t164 => ((rival_Judge.f 3 t158 t161 y126 (([(⟨0, t164⟩ : S24)] : List (S24)))).bind fun bt170 => (if 0 < (y126.length : Int) then ((some (y126.set (0 : Int).toNat (⟨(rd_T50 y126 0).f0, (rd_T50 y126 0).f1, (rd_T50 y126 0).f2, (rd_T50 y126 0).f3, (rd_T50 y126 0).f4, true⟩ : S50) : List (S50))).bind fun y172 => ((banksmanlaw14_of.f (⟨#[120]⟩ : ByteArray)).bind fun t173 => ((banksmanlaw14_put.f (⟨#[122]⟩ : ByteArray)).bind fun t176 => ((rival_Judge.f 3 t173 t176 y172 ([] : List (S24))).bind fun bt179 => (if t135 = true then (some false) else (if t136 = 140 then (if t143 = true then (if t144 = 0 then (if t149 = 140 then (if bt156.1 = true then (some false) else (if bt156.2 = 0 then (if bt170.2 = 140 then (if bt179.2 = 140 then ((rival_Meets.f 3 y172).bind fun t181 => (if (t181.length : Int) = 1 then ((rival_Meets.f 4 y172).bind fun t184 => (if (t184.length : Int) = 0 then (some true) else (some false))) else (some false))) else (some false)) else (some false)) else (some false))) else (some false)) else (some false)) else (some false)) else (some false))))))) else (none))))))) = some r := H
 have A12 := m0_ A120
 clear A120
 replace H := Option.bind_eq_some_iff.mp H
 obtain ⟨⟨t156, t157⟩, A130, H⟩ := H
 replace H : ((banksmanlaw14_of.f (⟨#[120]⟩ : ByteArray)).bind fun t158 => ((banksmanlaw14_put.f (⟨#[122]⟩ : ByteArray)).bind fun t161 => ((banksmanlaw14_of.f (⟨#[122]⟩ : ByteArray)).bind fun t164 => ((rival_Judge.f 3 t158 t161 y126 (([(⟨0, t164⟩ : S24)] : List (S24)))).bind fun bt170 => (if 0 < (y126.length : Int) then ((some (y126.set (0 : Int).toNat (⟨(rd_T50 y126 0).f0, (rd_T50 y126 0).f1, (rd_T50 y126 0).f2, (rd_T50 y126 0).f3, (rd_T50 y126 0).f4, true⟩ : S50) : List (S50))).bind fun y172 => ((banksmanlaw14_of.f (⟨#[120]⟩ : ByteArray)).bind fun t173 => ((banksmanlaw14_put.f (⟨#[122]⟩ : ByteArray)).bind fun t176 => ((rival_Judge.f 3 t173 t176 y172 ([] : List (S24))).bind fun bt179 => (if t135 = true then (some false) else (if t136 = 140 then (if t143 = true then (if t144 = 0 then (if t149 = 140 then (if t156 = true then (some false) else (if t157 = 0 then (if bt170.2 = 140 then (if bt179.2 = 140 then ((rival_Meets.f 3 y172).bind fun t181 => (if (t181.length : Int) = 1 then ((rival_Meets.f 4 y172).bind fun t184 => (if (t184.length : Int) = 0 then (some true) else (some false))) else (some false))) else (some false)) else (some false)) else (some false))) else (some false)) else (some false)) else (some false)) else (some false))))))) else (none)))))) = some r := H
 have A13 := m0_ A130
 clear A130
 replace H := Option.bind_eq_some_iff.mp H
 obtain ⟨t158, A140, H⟩ := H
 replace H : ((banksmanlaw14_put.f (⟨#[122]⟩ : ByteArray)).bind fun t161 => ((banksmanlaw14_of.f (⟨#[122]⟩ : ByteArray)).bind fun t164 => ((rival_Judge.f 3 t158 t161 y126 (([(⟨0, t164⟩ : S24)] : List (S24)))).bind fun bt170 => (if 0 < (y126.length : Int) then ((some (y126.set (0 : Int).toNat (⟨(rd_T50 y126 0).f0, (rd_T50 y126 0).f1, (rd_T50 y126 0).f2, (rd_T50 y126 0).f3, (rd_T50 y126 0).f4, true⟩ : S50) : List (S50))).bind fun y172 => ((banksmanlaw14_of.f (⟨#[120]⟩ : ByteArray)).bind fun t173 => ((banksmanlaw14_put.f (⟨#[122]⟩ : ByteArray)).bind fun t176 => ((rival_Judge.f 3 t173 t176 y172 ([] : List (S24))).bind fun bt179 => (if t135 = true then (some false) else (if t136 = 140 then (if t143 = true then (if t144 = 0 then (if t149 = 140 then (if t156 = true then (some false) else (if t157 = 0 then (if bt170.2 = 140 then (if bt179.2 = 140 then ((rival_Meets.f 3 y172).bind fun t181 => (if (t181.length : Int) = 1 then ((rival_Meets.f 4 y172).bind fun t184 => (if (t184.length : Int) = 0 then (some true) else (some false))) else (some false))) else (some false)) else (some false)) else (some false))) else (some false)) else (some false)) else (some false)) else (some false))))))) else (none))))) = some r := H
 have A14 := m0_ A140
 clear A140
 replace H := Option.bind_eq_some_iff.mp H
 obtain ⟨t161, A150, H⟩ := H
 replace H : ((banksmanlaw14_of.f (⟨#[122]⟩ : ByteArray)).bind fun t164 => ((rival_Judge.f 3 t158 t161 y126 (([(⟨0, t164⟩ : S24)] : List (S24)))).bind fun bt170 => (if 0 < (y126.length : Int) then ((some (y126.set (0 : Int).toNat (⟨(rd_T50 y126 0).f0, (rd_T50 y126 0).f1, (rd_T50 y126 0).f2, (rd_T50 y126 0).f3, (rd_T50 y126 0).f4, true⟩ : S50) : List (S50))).bind fun y172 => ((banksmanlaw14_of.f (⟨#[120]⟩ : ByteArray)).bind fun t173 => ((banksmanlaw14_put.f (⟨#[122]⟩ : ByteArray)).bind fun t176 => ((rival_Judge.f 3 t173 t176 y172 ([] : List (S24))).bind fun bt179 => (if t135 = true then (some false) else (if t136 = 140 then (if t143 = true then (if t144 = 0 then (if t149 = 140 then (if t156 = true then (some false) else (if t157 = 0 then (if bt170.2 = 140 then (if bt179.2 = 140 then ((rival_Meets.f 3 y172).bind fun t181 => (if (t181.length : Int) = 1 then ((rival_Meets.f 4 y172).bind fun t184 => (if (t184.length : Int) = 0 then (some true) else (some false))) else (some false))) else (some false)) else (some false)) else (some false))) else (some false)) else (some false)) else (some false)) else (some false))))))) else (none)))) = some r := H
 have A15 := m0_ A150
 clear A150
 replace H := Option.bind_eq_some_iff.mp H
 obtain ⟨t164, A160, H⟩ := H
 replace H : ((rival_Judge.f 3 t158 t161 y126 (([(⟨0, t164⟩ : S24)] : List (S24)))).bind fun bt170 => (if 0 < (y126.length : Int) then ((some (y126.set (0 : Int).toNat (⟨(rd_T50 y126 0).f0, (rd_T50 y126 0).f1, (rd_T50 y126 0).f2, (rd_T50 y126 0).f3, (rd_T50 y126 0).f4, true⟩ : S50) : List (S50))).bind fun y172 => ((banksmanlaw14_of.f (⟨#[120]⟩ : ByteArray)).bind fun t173 => ((banksmanlaw14_put.f (⟨#[122]⟩ : ByteArray)).bind fun t176 => ((rival_Judge.f 3 t173 t176 y172 ([] : List (S24))).bind fun bt179 => (if t135 = true then (some false) else (if t136 = 140 then (if t143 = true then (if t144 = 0 then (if t149 = 140 then (if t156 = true then (some false) else (if t157 = 0 then (if bt170.2 = 140 then (if bt179.2 = 140 then ((rival_Meets.f 3 y172).bind fun t181 => (if (t181.length : Int) = 1 then ((rival_Meets.f 4 y172).bind fun t184 => (if (t184.length : Int) = 0 then (some true) else (some false))) else (some false))) else (some false)) else (some false)) else (some false))) else (some false)) else (some false)) else (some false)) else (some false))))))) else (none))) = some r := H
 have A16 := m0_ A160
 clear A160
 obtain ⟨y167, hy167⟩ : ∃ y_ : List (S24), y_ = (([(⟨0, t164⟩ : S24)] : List (S24))) := ⟨_, rfl⟩
 replace H : ((rival_Judge.f 3 t158 t161 y126 y167).bind fun bt170 => (if 0 < (y126.length : Int) then ((some (y126.set (0 : Int).toNat (⟨(rd_T50 y126 0).f0, (rd_T50 y126 0).f1, (rd_T50 y126 0).f2, (rd_T50 y126 0).f3, (rd_T50 y126 0).f4, true⟩ : S50) : List (S50))).bind fun y172 => ((banksmanlaw14_of.f (⟨#[120]⟩ : ByteArray)).bind fun t173 => ((banksmanlaw14_put.f (⟨#[122]⟩ : ByteArray)).bind fun t176 => ((rival_Judge.f 3 t173 t176 y172 ([] : List (S24))).bind fun bt179 => (if t135 = true then (some false) else (if t136 = 140 then (if t143 = true then (if t144 = 0 then (if t149 = 140 then (if t156 = true then (some false) else (if t157 = 0 then (if bt170.2 = 140 then (if bt179.2 = 140 then ((rival_Meets.f 3 y172).bind fun t181 => (if (t181.length : Int) = 1 then ((rival_Meets.f 4 y172).bind fun t184 => (if (t184.length : Int) = 0 then (some true) else (some false))) else (some false))) else (some false)) else (some false)) else (some false))) else (some false)) else (some false)) else (some false)) else (some false))))))) else (none))) = some r := by first | (rw [hy167]; with_reducible exact H) | (have H2_ := (Option.bind_some _ _).symm.trans H; rw [hy167]; with_reducible exact H2_) | (have H2_ := (Option.bind_some _ _).symm.trans H; with_reducible exact H2_) | with_reducible exact H | (rw [hy167]; exact H) | exact H
 have Ny167 := m0_ hy167
 clear hy167
 replace H := Option.bind_eq_some_iff.mp H
 obtain ⟨⟨t170, t171⟩, A170, H⟩ := H
 replace H : (if 0 < (y126.length : Int) then ((some (y126.set (0 : Int).toNat (⟨(rd_T50 y126 0).f0, (rd_T50 y126 0).f1, (rd_T50 y126 0).f2, (rd_T50 y126 0).f3, (rd_T50 y126 0).f4, true⟩ : S50) : List (S50))).bind fun y172 => ((banksmanlaw14_of.f (⟨#[120]⟩ : ByteArray)).bind fun t173 => ((banksmanlaw14_put.f (⟨#[122]⟩ : ByteArray)).bind fun t176 => ((rival_Judge.f 3 t173 t176 y172 ([] : List (S24))).bind fun bt179 => (if t135 = true then (some false) else (if t136 = 140 then (if t143 = true then (if t144 = 0 then (if t149 = 140 then (if t156 = true then (some false) else (if t157 = 0 then (if t171 = 140 then (if bt179.2 = 140 then ((rival_Meets.f 3 y172).bind fun t181 => (if (t181.length : Int) = 1 then ((rival_Meets.f 4 y172).bind fun t184 => (if (t184.length : Int) = 0 then (some true) else (some false))) else (some false))) else (some false)) else (some false)) else (some false))) else (some false)) else (some false)) else (some false)) else (some false))))))) else (none)) = some r := H
 have A17 := m0_ A170
 clear A170
 by_cases c18 : 0 < (y126.length : Int)
 · rw [if_pos c18] at H
   have c18b0 : decide (0 < (y126.length : Int)) = true := decide_eq_true c18
   have c18b1 : decide (0 < y126.length) = true := decide_eq_true (by omega)
   clear c18
   obtain ⟨y172, hy172⟩ : ∃ y_ : List (S50), y_ = (y126.set (0 : Int).toNat (⟨(rd_T50 y126 0).f0, (rd_T50 y126 0).f1, (rd_T50 y126 0).f2, (rd_T50 y126 0).f3, (rd_T50 y126 0).f4, true⟩ : S50)) := ⟨_, rfl⟩
   replace H : ((banksmanlaw14_of.f (⟨#[120]⟩ : ByteArray)).bind fun t173 => ((banksmanlaw14_put.f (⟨#[122]⟩ : ByteArray)).bind fun t176 => ((rival_Judge.f 3 t173 t176 y172 ([] : List (S24))).bind fun bt179 => (if t135 = true then (some false) else (if t136 = 140 then (if t143 = true then (if t144 = 0 then (if t149 = 140 then (if t156 = true then (some false) else (if t157 = 0 then (if t171 = 140 then (if bt179.2 = 140 then ((rival_Meets.f 3 y172).bind fun t181 => (if (t181.length : Int) = 1 then ((rival_Meets.f 4 y172).bind fun t184 => (if (t184.length : Int) = 0 then (some true) else (some false))) else (some false))) else (some false)) else (some false)) else (some false))) else (some false)) else (some false)) else (some false)) else (some false)))))) = some r := by first | (rw [hy172]; with_reducible exact H) | (have H2_ := (Option.bind_some _ _).symm.trans H; rw [hy172]; with_reducible exact H2_) | (have H2_ := (Option.bind_some _ _).symm.trans H; with_reducible exact H2_) | with_reducible exact H | (rw [hy172]; exact H) | exact H
   have Ny172 := m0_ hy172
   clear hy172
   replace H := Option.bind_eq_some_iff.mp H
   obtain ⟨t173, A200, H⟩ := H
   replace H : ((banksmanlaw14_put.f (⟨#[122]⟩ : ByteArray)).bind fun t176 => ((rival_Judge.f 3 t173 t176 y172 ([] : List (S24))).bind fun bt179 => (if t135 = true then (some false) else (if t136 = 140 then (if t143 = true then (if t144 = 0 then (if t149 = 140 then (if t156 = true then (some false) else (if t157 = 0 then (if t171 = 140 then (if bt179.2 = 140 then ((rival_Meets.f 3 y172).bind fun t181 => (if (t181.length : Int) = 1 then ((rival_Meets.f 4 y172).bind fun t184 => (if (t184.length : Int) = 0 then (some true) else (some false))) else (some false))) else (some false)) else (some false)) else (some false))) else (some false)) else (some false)) else (some false)) else (some false))))) = some r := H
   have A20 := m0_ A200
   clear A200
   replace H := Option.bind_eq_some_iff.mp H
   obtain ⟨t176, A210, H⟩ := H
   replace H : ((rival_Judge.f 3 t173 t176 y172 ([] : List (S24))).bind fun bt179 => (if t135 = true then (some false) else (if t136 = 140 then (if t143 = true then (if t144 = 0 then (if t149 = 140 then (if t156 = true then (some false) else (if t157 = 0 then (if t171 = 140 then (if bt179.2 = 140 then ((rival_Meets.f 3 y172).bind fun t181 => (if (t181.length : Int) = 1 then ((rival_Meets.f 4 y172).bind fun t184 => (if (t184.length : Int) = 0 then (some true) else (some false))) else (some false))) else (some false)) else (some false)) else (some false))) else (some false)) else (some false)) else (some false)) else (some false)))) = some r := H
   have A21 := m0_ A210
   clear A210
   replace H := Option.bind_eq_some_iff.mp H
   obtain ⟨⟨t179, t180⟩, A220, H⟩ := H
   replace H : (if t135 = true then (some false) else (if t136 = 140 then (if t143 = true then (if t144 = 0 then (if t149 = 140 then (if t156 = true then (some false) else (if t157 = 0 then (if t171 = 140 then (if t180 = 140 then ((rival_Meets.f 3 y172).bind fun t181 => (if (t181.length : Int) = 1 then ((rival_Meets.f 4 y172).bind fun t184 => (if (t184.length : Int) = 0 then (some true) else (some false))) else (some false))) else (some false)) else (some false)) else (some false))) else (some false)) else (some false)) else (some false)) else (some false))) = some r := H
   have A22 := m0_ A220
   clear A220
   by_cases c23 : t135 = true
   · subst c23
     have H1 : (some false) = some r := by rw [if_pos rfl] at H; exact H
     rw [HTr_] at H1
     exact absurd (sO_ H1) (by decide)
   · replace c23 := Bool.eq_false_iff.mpr c23
     subst c23
     have H1 : (if t136 = 140 then (if t143 = true then (if t144 = 0 then (if t149 = 140 then (if t156 = true then (some false) else (if t157 = 0 then (if t171 = 140 then (if t180 = 140 then ((rival_Meets.f 3 y172).bind fun t181 => (if (t181.length : Int) = 1 then ((rival_Meets.f 4 y172).bind fun t184 => (if (t184.length : Int) = 0 then (some true) else (some false))) else (some false))) else (some false)) else (some false)) else (some false))) else (some false)) else (some false)) else (some false)) else (some false)) = some r := by rw [if_neg (show ¬ (false = true) by decide)] at H; exact H
     clear H
     have H := H1
     clear H1
     by_cases c66 : t136 = 140
     · rw [if_pos c66] at H
       have c66b0 : (t136 == 140) = true := beq_iff_eq.mpr c66
       have c66b1 : (t136 != 140) = false := bne_eq_false_iff_eq.mpr c66
       clear c66
       by_cases c67 : t143 = true
       · subst c67
         have H1 : (if t144 = 0 then (if t149 = 140 then (if t156 = true then (some false) else (if t157 = 0 then (if t171 = 140 then (if t180 = 140 then ((rival_Meets.f 3 y172).bind fun t181 => (if (t181.length : Int) = 1 then ((rival_Meets.f 4 y172).bind fun t184 => (if (t184.length : Int) = 0 then (some true) else (some false))) else (some false))) else (some false)) else (some false)) else (some false))) else (some false)) else (some false)) = some r := by rw [if_pos rfl] at H; exact H
         clear H
         have H := H1
         clear H1
         by_cases c68 : t144 = 0
         · rw [if_pos c68] at H
           have c68b0 : (t144 == 0) = true := beq_iff_eq.mpr c68
           have c68b1 : (t144 != 0) = false := bne_eq_false_iff_eq.mpr c68
           clear c68
           by_cases c69 : t149 = 140
           · rw [if_pos c69] at H
             have c69b0 : (t149 == 140) = true := beq_iff_eq.mpr c69
             have c69b1 : (t149 != 140) = false := bne_eq_false_iff_eq.mpr c69
             clear c69
             by_cases c70 : t156 = true
             · subst c70
               have H1 : (some false) = some r := by rw [if_pos rfl] at H; exact H
               rw [HTr_] at H1
               exact absurd (sO_ H1) (by decide)
             · replace c70 := Bool.eq_false_iff.mpr c70
               subst c70
               have H1 : (if t157 = 0 then (if t171 = 140 then (if t180 = 140 then ((rival_Meets.f 3 y172).bind fun t181 => (if (t181.length : Int) = 1 then ((rival_Meets.f 4 y172).bind fun t184 => (if (t184.length : Int) = 0 then (some true) else (some false))) else (some false))) else (some false)) else (some false)) else (some false)) = some r := by rw [if_neg (show ¬ (false = true) by decide)] at H; exact H
               clear H
               have H := H1
               clear H1
               by_cases c113 : t157 = 0
               · rw [if_pos c113] at H
                 have c113b0 : (t157 == 0) = true := beq_iff_eq.mpr c113
                 have c113b1 : (t157 != 0) = false := bne_eq_false_iff_eq.mpr c113
                 clear c113
                 by_cases c114 : t171 = 140
                 · rw [if_pos c114] at H
                   have c114b0 : (t171 == 140) = true := beq_iff_eq.mpr c114
                   have c114b1 : (t171 != 140) = false := bne_eq_false_iff_eq.mpr c114
                   clear c114
                   by_cases c115 : t180 = 140
                   · rw [if_pos c115] at H
                     have c115b0 : (t180 == 140) = true := beq_iff_eq.mpr c115
                     have c115b1 : (t180 != 140) = false := bne_eq_false_iff_eq.mpr c115
                     clear c115
                     replace H := Option.bind_eq_some_iff.mp H
                     obtain ⟨t181, A1160, H⟩ := H
                     replace H : (if (t181.length : Int) = 1 then ((rival_Meets.f 4 y172).bind fun t184 => (if (t184.length : Int) = 0 then (some true) else (some false))) else (some false)) = some r := H
                     have A116 := m0_ A1160
                     clear A1160
                     by_cases c117 : (t181.length : Int) = 1
                     · rw [if_pos c117] at H
                       have c117b0 : ((t181.length : Int) == 1) = true := beq_iff_eq.mpr c117
                       have c117b1 : ((t181.length : Int) != 1) = false := bne_eq_false_iff_eq.mpr c117
                       clear c117
                       replace H := Option.bind_eq_some_iff.mp H
                       obtain ⟨t184, A1180, H⟩ := H
                       replace H : (if (t184.length : Int) = 0 then (some true) else (some false)) = some r := H
                       have A118 := m0_ A1180
                       clear A1180
                       by_cases c119 : (t184.length : Int) = 0
                       · rw [if_pos c119] at H
                         have c119b0 : ((t184.length : Int) == 0) = true := beq_iff_eq.mpr c119
                         have c119b1 : ((t184.length : Int) != 0) = false := bne_eq_false_iff_eq.mpr c119
                         clear c119
                         obtain rfl := sO_ H
                         go_enter Try.func8, Try.ntmps8
                         go_wp2_with (first | ((with_reducible refine gate_callee (f := 21) rfl ?_); refine goesL_ (some 14) rfl rfl Try.func21 (by kernel_rfl) rfl #[.string (⟨#[121]⟩ : ByteArray)] rfl (by (try simp only [mT_, mC_, mN_]); first | done | rfl | (simp only [lD_, lT_]; rfl)) ?_; (with_reducible refine (banksmanlaw14_of.calls (⟨#[121]⟩ : ByteArray) t120 _ A1.out).mono ?_); rintro e w120 ⟨v121, rfl, ho0, hb⟩; refine ⟨_, rfl, ?_⟩; have n0_ := m0_ (Kd.V_lower (Kd.V_mono (ok' := fun k_ => True) ho0 (fun k_ hk_ => trivial)) (below_size (by repeat (first | (with_reducible first | exact HB.out | apply bA_ | apply dN_ | apply b1_) | exact HB.out)))); have n1_ := m0_ (below_step (by repeat (first | (with_reducible first | exact HB.out | apply bA_ | apply dN_ | apply b1_) | exact HB.out)) hb); clear HB; have HO122 := n0_; have HB := n1_; clear n0_ n1_; (try clear hb); (try clear hb2); (try clear hk); (try clear hi); (try clear ho0)) | ((with_reducible refine gate_callee (f := 22) rfl ?_); refine goesL_ (some 15) rfl rfl Try.func22 (by kernel_rfl) rfl #[.string (⟨#[120]⟩ : ByteArray)] rfl (by (try simp only [mT_, mC_, mN_]); first | done | rfl | (simp only [lD_, lT_]; rfl)) ?_; (with_reducible refine (banksmanlaw14_put.calls (⟨#[120]⟩ : ByteArray) t123 _ A2.out).mono ?_); rintro e w121 ⟨v124, rfl, ho0, hb⟩; refine ⟨_, rfl, ?_⟩; have n0_ := m0_ (Kd.V_below (by (with_reducible repeat (first | apply vA_ | apply vN_ | apply vD_)); exact HO122.out) hb); have n1_ := m0_ (Kd.V_lower (Kd.V_mono (ok' := fun k_ => True) ho0 (fun k_ hk_ => trivial)) (below_size (by repeat (first | (with_reducible first | exact HB.out | apply bA_ | apply dN_ | apply b1_) | exact HB.out)))); have n2_ := m0_ (below_step (by repeat (first | (with_reducible first | exact HB.out | apply bA_ | apply dN_ | apply b1_) | exact HB.out)) hb); clear HO122; clear HB; have HO122 := n0_; have HO125 := n1_; have HB := n2_; clear n0_ n1_ n2_; (try clear hb); (try clear hb2); (try clear hk); (try clear hi); (try clear ho0); obtain ⟨Ao122, co122, eo122⟩ := Kd.V_slice HO125.out; subst eo122; obtain ⟨Ao123, co123, eo123⟩ := Kd.V_slice HO122.out; subst eo123) | ((with_reducible refine gate_dst (N := 17) rfl ?_); (try (refine gate_guard (by rfl) ?_; dsimp only)); refine Kd.N_lit k50 _ 50 ?hg (N' := 17) ?hd (xs := ([(⟨0, 4, false, t120, t123, false⟩ : S50)] : List (S50))) (inner := [.int .i64 0, .int .i64 4, .bool false, .slice Ao123 t120.length co123, .slice Ao122 t123.length co122, .bool false]) (ok := (fun _ => True)) (okp := (fun _ => True)) ?hr ?hp (fun _ hk => hk) ((show ∀ k_, w121.heap.size ≤ k_ → (fun _ => True) k_ from fun k_ hk => trivial) _ (Nat.le_refl _)) (Below.refl _ _) (Nat.le_refl _) (by simp) ?_; (case hd => rfl); (case hg => rfl); (case hr => first | (go_simp; done) | (go_simp; rfl)); (case hp => exact (Reps.c6 (show Kd.FK k50 _ _ (⟨0, 4, false, t120, t123, false⟩ : S50) [.int .i64 0, .int .i64 4, .bool false, .slice Ao123 t120.length co123, .slice Ao122 t123.length co122, .bool false] from (k50_mkF _ _ (⟨0, 4, false, t120, t123, false⟩ : S50) (Kd.V_reads' (Kd.V_mono (ok' := (fun _ => True)) (HO122.out) (fun k_ hk => trivial))).2.1 (Kd.V_F (Kd.V_mono (ok' := (fun _ => True)) (HO122.out) (fun k_ hk => trivial))) (Kd.V_reads' (Kd.V_mono (ok' := (fun _ => True)) (HO125.out) (fun k_ hk => trivial))).2.1 (Kd.V_F (Kd.V_mono (ok' := (fun _ => True)) (HO125.out) (fun k_ hk => trivial))))) (Reps.none _ _))); intro v127 w124 ho125 hb hg_ hnew_; clear hg_ hnew_; (first | rw [← Ny126.out] at ho125 | (simp only [Int.reduceToNat] at ho125; rw [← Ny126.out] at ho125)); have n0_ := m0_ (Kd.V_elder' (by (with_reducible repeat (first | apply vA_ | apply vN_ | apply vD_)); exact HO122.out) (Kd.N_base ho125) hb); have n1_ := m0_ (Kd.V_elder' (by (with_reducible repeat (first | apply vA_ | apply vN_ | apply vD_)); exact HO125.out) (Kd.N_base ho125) hb); have n2_ := m0_ (Kd.N_lower ho125 (below_size (by repeat (first | (with_reducible first | exact HB.out | apply bA_ | apply dN_ | apply b1_) | exact HB.out)))); have n3_ := m0_ (below_step (by repeat (first | (with_reducible first | exact HB.out | apply bA_ | apply dN_ | apply b1_) | exact HB.out)) hb); clear HO122; clear HO125; clear HB; have HO122 := n0_; have HO125 := n1_; have HO128 := n2_; have HB := n3_; clear n0_ n1_ n2_ n3_; clear hb ho125) | ((with_reducible refine gate_callee (f := 21) rfl ?_); refine goesL_ (some 19) rfl rfl Try.func21 (by kernel_rfl) rfl #[.string (⟨#[120]⟩ : ByteArray)] rfl (by (try simp only [mT_, mC_, mN_]); first | done | rfl | (simp only [lD_, lT_]; rfl)) ?_; (with_reducible refine (banksmanlaw14_of.calls (⟨#[120]⟩ : ByteArray) t129 _ A3.out).mono ?_); rintro e w126 ⟨v130, rfl, ho0, hb⟩; refine ⟨_, rfl, ?_⟩; have n0_ := m0_ (Kd.V_below (by (with_reducible repeat (first | apply vA_ | apply vN_ | apply vD_)); exact HO122.out) hb); have n1_ := m0_ (Kd.V_below (by (with_reducible repeat (first | apply vA_ | apply vN_ | apply vD_)); exact HO125.out) hb); have n2_ := m0_ (Kd.N_below (by (with_reducible repeat (first | apply Kd.N_alloc | apply Kd.N_drewN | apply Kd.N_drew)); exact HO128.out) hb); have n3_ := m0_ (Kd.V_lower (Kd.V_mono (ok' := fun k_ => some k_ ≠ (v127 : Value).ownBlock) ho0 (fun k_ hk_ => (Kd.fresh' (Kd.N_lt (by (with_reducible repeat (first | apply Kd.N_alloc | apply Kd.N_drewN | apply Kd.N_drew)); exact HO128.out)) k_ hk_))) (below_size (by repeat (first | (with_reducible first | exact HB.out | apply bA_ | apply dN_ | apply b1_) | exact HB.out)))); have n4_ := m0_ (below_step (by repeat (first | (with_reducible first | exact HB.out | apply bA_ | apply dN_ | apply b1_) | exact HB.out)) hb); clear HO122; clear HO125; clear HO128; clear HB; have HO122 := n0_; have HO125 := n1_; have HO128 := n2_; have HO131 := n3_; have HB := n4_; clear n0_ n1_ n2_ n3_ n4_; (try clear hb); (try clear hb2); (try clear hk); (try clear hi); (try clear ho0); obtain ⟨Ao127, co127, eo127⟩ := Kd.V_slice HO131.out; subst eo127) | ((with_reducible refine gate_callee (f := 22) rfl ?_); refine goesL_ (some 21) rfl rfl Try.func22 (by kernel_rfl) rfl #[.string (⟨#[121]⟩ : ByteArray)] rfl (by (try simp only [mT_, mC_, mN_]); first | done | rfl | (simp only [lD_, lT_]; rfl)) ?_; (with_reducible refine (banksmanlaw14_put.calls (⟨#[121]⟩ : ByteArray) t132 _ A4.out).mono ?_); rintro e w128 ⟨v133, rfl, ho0, hb⟩; refine ⟨_, rfl, ?_⟩; have n0_ := m0_ (Kd.V_below (by (with_reducible repeat (first | apply vA_ | apply vN_ | apply vD_)); exact HO122.out) hb); have n1_ := m0_ (Kd.V_below (by (with_reducible repeat (first | apply vA_ | apply vN_ | apply vD_)); exact HO125.out) hb); have n2_ := m0_ (Kd.N_below (by (with_reducible repeat (first | apply Kd.N_alloc | apply Kd.N_drewN | apply Kd.N_drew)); exact HO128.out) hb); have n3_ := m0_ (Kd.V_below (by (with_reducible repeat (first | apply vA_ | apply vN_ | apply vD_)); exact HO131.out) hb); have n4_ := m0_ (Kd.V_lower (Kd.V_mono (ok' := fun k_ => some k_ ≠ (v127 : Value).ownBlock) ho0 (fun k_ hk_ => (Kd.fresh' (Kd.N_lt (by (with_reducible repeat (first | apply Kd.N_alloc | apply Kd.N_drewN | apply Kd.N_drew)); exact HO128.out)) k_ hk_))) (below_size (by repeat (first | (with_reducible first | exact HB.out | apply bA_ | apply dN_ | apply b1_) | exact HB.out)))); have n5_ := m0_ (below_step (by repeat (first | (with_reducible first | exact HB.out | apply bA_ | apply dN_ | apply b1_) | exact HB.out)) hb); clear HO122; clear HO125; clear HO128; clear HO131; clear HB; have HO122 := n0_; have HO125 := n1_; have HO128 := n2_; have HO131 := n3_; have HO134 := n4_; have HB := n5_; clear n0_ n1_ n2_ n3_ n4_ n5_; (try clear hb); (try clear hb2); (try clear hk); (try clear hi); (try clear ho0); obtain ⟨Ao129, co129, eo129⟩ := Kd.V_slice HO134.out; subst eo129; obtain ⟨Ao130, co130, eo130⟩ := Kd.N_slice HO128.out; subst eo130) | ((with_reducible refine gate_callee (f := 12) rfl ?_); refine goesL_ (some 23) rfl rfl Try.func12 (by kernel_rfl) rfl #[.agg #[.int .i64 3, .slice Ao127 t129.length co127], .slice Ao129 t132.length co129, .slice Ao130 y126.length co130, .slice none 0 0] rfl (by (try simp only [mT_, mC_, mN_]); first | done | rfl | (simp only [lD_, lT_]; rfl)) ?_; (refine (rival_Judge.calls 3 _ _ t129 _ _ t132 _ _ y126 _ _ ([] : List (S24)) false t136 _ ?side1 ?side2 ?side3 ?side4 ?side5 ?side6 ?side7 ?side8 A5.out).mono ?_); (case side1 => repeat (first | exact (Kd.V_reads' HO131.out).2.2 | (with_reducible first | refine kA_ ?_ _ | refine kN_ ?_ _ | refine kD_ ?_))); (case side2 => exact (Kd.V_reads' HO131.out).2.1); (case side3 => repeat (first | exact (Kd.V_reads' HO134.out).2.2 | (with_reducible first | refine kA_ ?_ _ | refine kN_ ?_ _ | refine kD_ ?_))); (case side4 => exact (Kd.V_reads' HO134.out).2.1); (case side5 => repeat (first | exact (Kd.N_reads' HO128.out).2.2 | (with_reducible first | refine kA_ ?_ _ | refine kN_ ?_ _ | refine kD_ ?_))); (case side6 => exact (Kd.N_reads' HO128.out).2.1); (case side7 => exact Kd.C_nil _ _); (case side8 => exact Nat.le_refl _); rintro e w131 ⟨rfl, hb⟩; refine ⟨_, rfl, ?_⟩; have n0_ := m0_ (Kd.V_below (by (with_reducible repeat (first | apply vA_ | apply vN_ | apply vD_)); exact HO122.out) hb); have n1_ := m0_ (Kd.V_below (by (with_reducible repeat (first | apply vA_ | apply vN_ | apply vD_)); exact HO125.out) hb); have n2_ := m0_ (Kd.N_below (by (with_reducible repeat (first | apply Kd.N_alloc | apply Kd.N_drewN | apply Kd.N_drew)); exact HO128.out) hb); have n3_ := m0_ (Kd.V_below (by (with_reducible repeat (first | apply vA_ | apply vN_ | apply vD_)); exact HO131.out) hb); have n4_ := m0_ (Kd.V_below (by (with_reducible repeat (first | apply vA_ | apply vN_ | apply vD_)); exact HO134.out) hb); have n5_ := m0_ (below_step (by repeat (first | (with_reducible first | exact HB.out | apply bA_ | apply dN_ | apply b1_) | exact HB.out)) hb); clear HO122; clear HO125; clear HO128; clear HO131; clear HO134; clear HB; have HO122 := n0_; have HO125 := n1_; have HO128 := n2_; have HO131 := n3_; have HO134 := n4_; have HB := n5_; clear n0_ n1_ n2_ n3_ n4_ n5_; (try clear hb); (try clear hb2); (try clear hk); (try clear hi)) | ((with_reducible refine gate_callee (f := 21) rfl ?_); refine goesL_ (some 27) rfl rfl Try.func21 (by kernel_rfl) rfl #[.string (⟨#[120]⟩ : ByteArray)] rfl (by (try simp only [mT_, mC_, mN_]); first | done | rfl | (simp only [lD_, lT_]; rfl)) ?_; (with_reducible refine (banksmanlaw14_of.calls (⟨#[120]⟩ : ByteArray) t137 _ A6.out).mono ?_); rintro e w132 ⟨v138, rfl, ho0, hb⟩; refine ⟨_, rfl, ?_⟩; have n0_ := m0_ (Kd.V_below (by (with_reducible repeat (first | apply vA_ | apply vN_ | apply vD_)); exact HO122.out) hb); have n1_ := m0_ (Kd.V_below (by (with_reducible repeat (first | apply vA_ | apply vN_ | apply vD_)); exact HO125.out) hb); have n2_ := m0_ (Kd.N_below (by (with_reducible repeat (first | apply Kd.N_alloc | apply Kd.N_drewN | apply Kd.N_drew)); exact HO128.out) hb); have n3_ := m0_ (Kd.V_below (by (with_reducible repeat (first | apply vA_ | apply vN_ | apply vD_)); exact HO131.out) hb); have n4_ := m0_ (Kd.V_below (by (with_reducible repeat (first | apply vA_ | apply vN_ | apply vD_)); exact HO134.out) hb); have n5_ := m0_ (Kd.V_lower (Kd.V_mono (ok' := fun k_ => some k_ ≠ (.slice Ao130 y126.length co130 : Value).ownBlock) ho0 (fun k_ hk_ => (Kd.fresh' (Kd.N_lt (by (with_reducible repeat (first | apply Kd.N_alloc | apply Kd.N_drewN | apply Kd.N_drew)); exact HO128.out)) k_ hk_))) (below_size (by repeat (first | (with_reducible first | exact HB.out | apply bA_ | apply dN_ | apply b1_) | exact HB.out)))); have n6_ := m0_ (below_step (by repeat (first | (with_reducible first | exact HB.out | apply bA_ | apply dN_ | apply b1_) | exact HB.out)) hb); clear HO122; clear HO125; clear HO128; clear HO131; clear HO134; clear HB; have HO122 := n0_; have HO125 := n1_; have HO128 := n2_; have HO131 := n3_; have HO134 := n4_; have HO139 := n5_; have HB := n6_; clear n0_ n1_ n2_ n3_ n4_ n5_ n6_; (try clear hb); (try clear hb2); (try clear hk); (try clear hi); (try clear ho0); obtain ⟨Ao133, co133, eo133⟩ := Kd.V_slice HO139.out; subst eo133) | ((with_reducible refine gate_callee (f := 22) rfl ?_); refine goesL_ (some 29) rfl rfl Try.func22 (by kernel_rfl) rfl #[.string (⟨#[122]⟩ : ByteArray)] rfl (by (try simp only [mT_, mC_, mN_]); first | done | rfl | (simp only [lD_, lT_]; rfl)) ?_; (with_reducible refine (banksmanlaw14_put.calls (⟨#[122]⟩ : ByteArray) t140 _ A7.out).mono ?_); rintro e w134 ⟨v141, rfl, ho0, hb⟩; refine ⟨_, rfl, ?_⟩; have n0_ := m0_ (Kd.V_below (by (with_reducible repeat (first | apply vA_ | apply vN_ | apply vD_)); exact HO122.out) hb); have n1_ := m0_ (Kd.V_below (by (with_reducible repeat (first | apply vA_ | apply vN_ | apply vD_)); exact HO125.out) hb); have n2_ := m0_ (Kd.N_below (by (with_reducible repeat (first | apply Kd.N_alloc | apply Kd.N_drewN | apply Kd.N_drew)); exact HO128.out) hb); have n3_ := m0_ (Kd.V_below (by (with_reducible repeat (first | apply vA_ | apply vN_ | apply vD_)); exact HO131.out) hb); have n4_ := m0_ (Kd.V_below (by (with_reducible repeat (first | apply vA_ | apply vN_ | apply vD_)); exact HO134.out) hb); have n5_ := m0_ (Kd.V_below (by (with_reducible repeat (first | apply vA_ | apply vN_ | apply vD_)); exact HO139.out) hb); have n6_ := m0_ (Kd.V_lower (Kd.V_mono (ok' := fun k_ => some k_ ≠ (.slice Ao130 y126.length co130 : Value).ownBlock) ho0 (fun k_ hk_ => (Kd.fresh' (Kd.N_lt (by (with_reducible repeat (first | apply Kd.N_alloc | apply Kd.N_drewN | apply Kd.N_drew)); exact HO128.out)) k_ hk_))) (below_size (by repeat (first | (with_reducible first | exact HB.out | apply bA_ | apply dN_ | apply b1_) | exact HB.out)))); have n7_ := m0_ (below_step (by repeat (first | (with_reducible first | exact HB.out | apply bA_ | apply dN_ | apply b1_) | exact HB.out)) hb); clear HO122; clear HO125; clear HO128; clear HO131; clear HO134; clear HO139; clear HB; have HO122 := n0_; have HO125 := n1_; have HO128 := n2_; have HO131 := n3_; have HO134 := n4_; have HO139 := n5_; have HO142 := n6_; have HB := n7_; clear n0_ n1_ n2_ n3_ n4_ n5_ n6_ n7_; (try clear hb); (try clear hb2); (try clear hk); (try clear hi); (try clear ho0); obtain ⟨Ao135, co135, eo135⟩ := Kd.V_slice HO142.out; subst eo135) | ((with_reducible refine gate_callee (f := 12) rfl ?_); refine goesL_ (some 31) rfl rfl Try.func12 (by kernel_rfl) rfl #[.agg #[.int .i64 3, .slice Ao133 t137.length co133], .slice Ao135 t140.length co135, .slice Ao130 y126.length co130, .slice none 0 0] rfl (by (try simp only [mT_, mC_, mN_]); first | done | rfl | (simp only [lD_, lT_]; rfl)) ?_; (refine (rival_Judge.calls 3 _ _ t137 _ _ t140 _ _ y126 _ _ ([] : List (S24)) true t144 _ ?side1 ?side2 ?side3 ?side4 ?side5 ?side6 ?side7 ?side8 A8.out).mono ?_); (case side1 => repeat (first | exact (Kd.V_reads' HO139.out).2.2 | (with_reducible first | refine kA_ ?_ _ | refine kN_ ?_ _ | refine kD_ ?_))); (case side2 => exact (Kd.V_reads' HO139.out).2.1); (case side3 => repeat (first | exact (Kd.V_reads' HO142.out).2.2 | (with_reducible first | refine kA_ ?_ _ | refine kN_ ?_ _ | refine kD_ ?_))); (case side4 => exact (Kd.V_reads' HO142.out).2.1); (case side5 => repeat (first | exact (Kd.N_reads' HO128.out).2.2 | (with_reducible first | refine kA_ ?_ _ | refine kN_ ?_ _ | refine kD_ ?_))); (case side6 => exact (Kd.N_reads' HO128.out).2.1); (case side7 => exact Kd.C_nil _ _); (case side8 => exact Nat.le_refl _); rintro e w136 ⟨rfl, hb⟩; refine ⟨_, rfl, ?_⟩; have n0_ := m0_ (Kd.V_below (by (with_reducible repeat (first | apply vA_ | apply vN_ | apply vD_)); exact HO122.out) hb); have n1_ := m0_ (Kd.V_below (by (with_reducible repeat (first | apply vA_ | apply vN_ | apply vD_)); exact HO125.out) hb); have n2_ := m0_ (Kd.N_below (by (with_reducible repeat (first | apply Kd.N_alloc | apply Kd.N_drewN | apply Kd.N_drew)); exact HO128.out) hb); have n3_ := m0_ (Kd.V_below (by (with_reducible repeat (first | apply vA_ | apply vN_ | apply vD_)); exact HO131.out) hb); have n4_ := m0_ (Kd.V_below (by (with_reducible repeat (first | apply vA_ | apply vN_ | apply vD_)); exact HO134.out) hb); have n5_ := m0_ (Kd.V_below (by (with_reducible repeat (first | apply vA_ | apply vN_ | apply vD_)); exact HO139.out) hb); have n6_ := m0_ (Kd.V_below (by (with_reducible repeat (first | apply vA_ | apply vN_ | apply vD_)); exact HO142.out) hb); have n7_ := m0_ (below_step (by repeat (first | (with_reducible first | exact HB.out | apply bA_ | apply dN_ | apply b1_) | exact HB.out)) hb); clear HO122; clear HO125; clear HO128; clear HO131; clear HO134; clear HO139; clear HO142; clear HB; have HO122 := n0_; have HO125 := n1_; have HO128 := n2_; have HO131 := n3_; have HO134 := n4_; have HO139 := n5_; have HO142 := n6_; have HB := n7_; clear n0_ n1_ n2_ n3_ n4_ n5_ n6_ n7_; (try clear hb); (try clear hb2); (try clear hk); (try clear hi)) | ((with_reducible refine gate_callee (f := 22) rfl ?_); refine goesL_ (some 36) rfl rfl Try.func22 (by kernel_rfl) rfl #[.string (⟨#[120]⟩ : ByteArray)] rfl (by (try simp only [mT_, mC_, mN_]); first | done | rfl | (simp only [lD_, lT_]; rfl)) ?_; (with_reducible refine (banksmanlaw14_put.calls (⟨#[120]⟩ : ByteArray) t145 _ A9.out).mono ?_); rintro e w137 ⟨v146, rfl, ho0, hb⟩; refine ⟨_, rfl, ?_⟩; have n0_ := m0_ (Kd.V_below (by (with_reducible repeat (first | apply vA_ | apply vN_ | apply vD_)); exact HO122.out) hb); have n1_ := m0_ (Kd.V_below (by (with_reducible repeat (first | apply vA_ | apply vN_ | apply vD_)); exact HO125.out) hb); have n2_ := m0_ (Kd.N_below (by (with_reducible repeat (first | apply Kd.N_alloc | apply Kd.N_drewN | apply Kd.N_drew)); exact HO128.out) hb); have n3_ := m0_ (Kd.V_below (by (with_reducible repeat (first | apply vA_ | apply vN_ | apply vD_)); exact HO131.out) hb); have n4_ := m0_ (Kd.V_below (by (with_reducible repeat (first | apply vA_ | apply vN_ | apply vD_)); exact HO134.out) hb); have n5_ := m0_ (Kd.V_below (by (with_reducible repeat (first | apply vA_ | apply vN_ | apply vD_)); exact HO139.out) hb); have n6_ := m0_ (Kd.V_below (by (with_reducible repeat (first | apply vA_ | apply vN_ | apply vD_)); exact HO142.out) hb); have n7_ := m0_ (Kd.V_lower (Kd.V_mono (ok' := fun k_ => some k_ ≠ (.slice Ao130 y126.length co130 : Value).ownBlock) ho0 (fun k_ hk_ => (Kd.fresh' (Kd.N_lt (by (with_reducible repeat (first | apply Kd.N_alloc | apply Kd.N_drewN | apply Kd.N_drew)); exact HO128.out)) k_ hk_))) (below_size (by repeat (first | (with_reducible first | exact HB.out | apply bA_ | apply dN_ | apply b1_) | exact HB.out)))); have n8_ := m0_ (below_step (by repeat (first | (with_reducible first | exact HB.out | apply bA_ | apply dN_ | apply b1_) | exact HB.out)) hb); clear HO122; clear HO125; clear HO128; clear HO131; clear HO134; clear HO139; clear HO142; clear HB; have HO122 := n0_; have HO125 := n1_; have HO128 := n2_; have HO131 := n3_; have HO134 := n4_; have HO139 := n5_; have HO142 := n6_; have HO147 := n7_; have HB := n8_; clear n0_ n1_ n2_ n3_ n4_ n5_ n6_ n7_ n8_; (try clear hb); (try clear hb2); (try clear hk); (try clear hi); (try clear ho0); obtain ⟨Ao138, co138, eo138⟩ := Kd.V_slice HO147.out; subst eo138) | ((with_reducible refine gate_callee (f := 12) rfl ?_); refine goesL_ (some 38) rfl rfl Try.func12 (by kernel_rfl) rfl #[.agg #[.int .i64 3, .slice none 0 0], .slice Ao138 t145.length co138, .slice Ao130 y126.length co130, .slice none 0 0] rfl (by (try simp only [mT_, mC_, mN_]); first | done | rfl | (simp only [lD_, lT_]; rfl)) ?_; (refine (rival_Judge.calls 3 _ _ ([] : List (S57)) _ _ t145 _ _ y126 _ _ ([] : List (S24)) t148 t149 _ ?side1 ?side2 ?side3 ?side4 ?side5 ?side6 ?side7 ?side8 A10.out).mono ?_); (case side1 => exact Kd.C_nil _ _); (case side2 => exact Nat.le_refl _); (case side3 => repeat (first | exact (Kd.V_reads' HO147.out).2.2 | (with_reducible first | refine kA_ ?_ _ | refine kN_ ?_ _ | refine kD_ ?_))); (case side4 => exact (Kd.V_reads' HO147.out).2.1); (case side5 => repeat (first | exact (Kd.N_reads' HO128.out).2.2 | (with_reducible first | refine kA_ ?_ _ | refine kN_ ?_ _ | refine kD_ ?_))); (case side6 => exact (Kd.N_reads' HO128.out).2.1); (case side7 => exact Kd.C_nil _ _); (case side8 => exact Nat.le_refl _); rintro e w139 ⟨rfl, hb⟩; refine ⟨_, rfl, ?_⟩; have n0_ := m0_ (Kd.V_below (by (with_reducible repeat (first | apply vA_ | apply vN_ | apply vD_)); exact HO122.out) hb); have n1_ := m0_ (Kd.V_below (by (with_reducible repeat (first | apply vA_ | apply vN_ | apply vD_)); exact HO125.out) hb); have n2_ := m0_ (Kd.N_below (by (with_reducible repeat (first | apply Kd.N_alloc | apply Kd.N_drewN | apply Kd.N_drew)); exact HO128.out) hb); have n3_ := m0_ (Kd.V_below (by (with_reducible repeat (first | apply vA_ | apply vN_ | apply vD_)); exact HO131.out) hb); have n4_ := m0_ (Kd.V_below (by (with_reducible repeat (first | apply vA_ | apply vN_ | apply vD_)); exact HO134.out) hb); have n5_ := m0_ (Kd.V_below (by (with_reducible repeat (first | apply vA_ | apply vN_ | apply vD_)); exact HO139.out) hb); have n6_ := m0_ (Kd.V_below (by (with_reducible repeat (first | apply vA_ | apply vN_ | apply vD_)); exact HO142.out) hb); have n7_ := m0_ (Kd.V_below (by (with_reducible repeat (first | apply vA_ | apply vN_ | apply vD_)); exact HO147.out) hb); have n8_ := m0_ (below_step (by repeat (first | (with_reducible first | exact HB.out | apply bA_ | apply dN_ | apply b1_) | exact HB.out)) hb); clear HO122; clear HO125; clear HO128; clear HO131; clear HO134; clear HO139; clear HO142; clear HO147; clear HB; have HO122 := n0_; have HO125 := n1_; have HO128 := n2_; have HO131 := n3_; have HO134 := n4_; have HO139 := n5_; have HO142 := n6_; have HO147 := n7_; have HB := n8_; clear n0_ n1_ n2_ n3_ n4_ n5_ n6_ n7_ n8_; (try clear hb); (try clear hb2); (try clear hk); (try clear hi)) | ((with_reducible refine gate_callee (f := 21) rfl ?_); refine goesL_ (some 42) rfl rfl Try.func21 (by kernel_rfl) rfl #[.string (⟨#[120]⟩ : ByteArray)] rfl (by (try simp only [mT_, mC_, mN_]); first | done | rfl | (simp only [lD_, lT_]; rfl)) ?_; (with_reducible refine (banksmanlaw14_of.calls (⟨#[120]⟩ : ByteArray) t150 _ A11.out).mono ?_); rintro e w140 ⟨v151, rfl, ho0, hb⟩; refine ⟨_, rfl, ?_⟩; have n0_ := m0_ (Kd.V_below (by (with_reducible repeat (first | apply vA_ | apply vN_ | apply vD_)); exact HO122.out) hb); have n1_ := m0_ (Kd.V_below (by (with_reducible repeat (first | apply vA_ | apply vN_ | apply vD_)); exact HO125.out) hb); have n2_ := m0_ (Kd.N_below (by (with_reducible repeat (first | apply Kd.N_alloc | apply Kd.N_drewN | apply Kd.N_drew)); exact HO128.out) hb); have n3_ := m0_ (Kd.V_below (by (with_reducible repeat (first | apply vA_ | apply vN_ | apply vD_)); exact HO131.out) hb); have n4_ := m0_ (Kd.V_below (by (with_reducible repeat (first | apply vA_ | apply vN_ | apply vD_)); exact HO134.out) hb); have n5_ := m0_ (Kd.V_below (by (with_reducible repeat (first | apply vA_ | apply vN_ | apply vD_)); exact HO139.out) hb); have n6_ := m0_ (Kd.V_below (by (with_reducible repeat (first | apply vA_ | apply vN_ | apply vD_)); exact HO142.out) hb); have n7_ := m0_ (Kd.V_below (by (with_reducible repeat (first | apply vA_ | apply vN_ | apply vD_)); exact HO147.out) hb); have n8_ := m0_ (Kd.V_lower (Kd.V_mono (ok' := fun k_ => some k_ ≠ (.slice Ao130 y126.length co130 : Value).ownBlock) ho0 (fun k_ hk_ => (Kd.fresh' (Kd.N_lt (by (with_reducible repeat (first | apply Kd.N_alloc | apply Kd.N_drewN | apply Kd.N_drew)); exact HO128.out)) k_ hk_))) (below_size (by repeat (first | (with_reducible first | exact HB.out | apply bA_ | apply dN_ | apply b1_) | exact HB.out)))); have n9_ := m0_ (below_step (by repeat (first | (with_reducible first | exact HB.out | apply bA_ | apply dN_ | apply b1_) | exact HB.out)) hb); clear HO122; clear HO125; clear HO128; clear HO131; clear HO134; clear HO139; clear HO142; clear HO147; clear HB; have HO122 := n0_; have HO125 := n1_; have HO128 := n2_; have HO131 := n3_; have HO134 := n4_; have HO139 := n5_; have HO142 := n6_; have HO147 := n7_; have HO152 := n8_; have HB := n9_; clear n0_ n1_ n2_ n3_ n4_ n5_ n6_ n7_ n8_ n9_; (try clear hb); (try clear hb2); (try clear hk); (try clear hi); (try clear ho0); obtain ⟨Ao141, co141, eo141⟩ := Kd.V_slice HO152.out; subst eo141) | ((with_reducible refine gate_callee (f := 22) rfl ?_); refine goesL_ (some 44) rfl rfl Try.func22 (by kernel_rfl) rfl #[.string (⟨#[121]⟩ : ByteArray)] rfl (by (try simp only [mT_, mC_, mN_]); first | done | rfl | (simp only [lD_, lT_]; rfl)) ?_; (with_reducible refine (banksmanlaw14_put.calls (⟨#[121]⟩ : ByteArray) t153 _ A12.out).mono ?_); rintro e w142 ⟨v154, rfl, ho0, hb⟩; refine ⟨_, rfl, ?_⟩; have n0_ := m0_ (Kd.V_below (by (with_reducible repeat (first | apply vA_ | apply vN_ | apply vD_)); exact HO122.out) hb); have n1_ := m0_ (Kd.V_below (by (with_reducible repeat (first | apply vA_ | apply vN_ | apply vD_)); exact HO125.out) hb); have n2_ := m0_ (Kd.N_below (by (with_reducible repeat (first | apply Kd.N_alloc | apply Kd.N_drewN | apply Kd.N_drew)); exact HO128.out) hb); have n3_ := m0_ (Kd.V_below (by (with_reducible repeat (first | apply vA_ | apply vN_ | apply vD_)); exact HO131.out) hb); have n4_ := m0_ (Kd.V_below (by (with_reducible repeat (first | apply vA_ | apply vN_ | apply vD_)); exact HO134.out) hb); have n5_ := m0_ (Kd.V_below (by (with_reducible repeat (first | apply vA_ | apply vN_ | apply vD_)); exact HO139.out) hb); have n6_ := m0_ (Kd.V_below (by (with_reducible repeat (first | apply vA_ | apply vN_ | apply vD_)); exact HO142.out) hb); have n7_ := m0_ (Kd.V_below (by (with_reducible repeat (first | apply vA_ | apply vN_ | apply vD_)); exact HO147.out) hb); have n8_ := m0_ (Kd.V_below (by (with_reducible repeat (first | apply vA_ | apply vN_ | apply vD_)); exact HO152.out) hb); have n9_ := m0_ (Kd.V_lower (Kd.V_mono (ok' := fun k_ => some k_ ≠ (.slice Ao130 y126.length co130 : Value).ownBlock) ho0 (fun k_ hk_ => (Kd.fresh' (Kd.N_lt (by (with_reducible repeat (first | apply Kd.N_alloc | apply Kd.N_drewN | apply Kd.N_drew)); exact HO128.out)) k_ hk_))) (below_size (by repeat (first | (with_reducible first | exact HB.out | apply bA_ | apply dN_ | apply b1_) | exact HB.out)))); have n10_ := m0_ (below_step (by repeat (first | (with_reducible first | exact HB.out | apply bA_ | apply dN_ | apply b1_) | exact HB.out)) hb); clear HO122; clear HO125; clear HO128; clear HO131; clear HO134; clear HO139; clear HO142; clear HO147; clear HO152; clear HB; have HO122 := n0_; have HO125 := n1_; have HO128 := n2_; have HO131 := n3_; have HO134 := n4_; have HO139 := n5_; have HO142 := n6_; have HO147 := n7_; have HO152 := n8_; have HO155 := n9_; have HB := n10_; clear n0_ n1_ n2_ n3_ n4_ n5_ n6_ n7_ n8_ n9_ n10_; (try clear hb); (try clear hb2); (try clear hk); (try clear hi); (try clear ho0); obtain ⟨Ao143, co143, eo143⟩ := Kd.V_slice HO155.out; subst eo143) | ((with_reducible refine gate_callee (f := 12) rfl ?_); refine goesL_ (some 46) rfl rfl Try.func12 (by kernel_rfl) rfl #[.agg #[.int .i64 4, .slice Ao141 t150.length co141], .slice Ao143 t153.length co143, .slice Ao130 y126.length co130, .slice none 0 0] rfl (by (try simp only [mT_, mC_, mN_]); first | done | rfl | (simp only [lD_, lT_]; rfl)) ?_; (refine (rival_Judge.calls 4 _ _ t150 _ _ t153 _ _ y126 _ _ ([] : List (S24)) false t157 _ ?side1 ?side2 ?side3 ?side4 ?side5 ?side6 ?side7 ?side8 A13.out).mono ?_); (case side1 => repeat (first | exact (Kd.V_reads' HO152.out).2.2 | (with_reducible first | refine kA_ ?_ _ | refine kN_ ?_ _ | refine kD_ ?_))); (case side2 => exact (Kd.V_reads' HO152.out).2.1); (case side3 => repeat (first | exact (Kd.V_reads' HO155.out).2.2 | (with_reducible first | refine kA_ ?_ _ | refine kN_ ?_ _ | refine kD_ ?_))); (case side4 => exact (Kd.V_reads' HO155.out).2.1); (case side5 => repeat (first | exact (Kd.N_reads' HO128.out).2.2 | (with_reducible first | refine kA_ ?_ _ | refine kN_ ?_ _ | refine kD_ ?_))); (case side6 => exact (Kd.N_reads' HO128.out).2.1); (case side7 => exact Kd.C_nil _ _); (case side8 => exact Nat.le_refl _); rintro e w144 ⟨rfl, hb⟩; refine ⟨_, rfl, ?_⟩; have n0_ := m0_ (Kd.V_below (by (with_reducible repeat (first | apply vA_ | apply vN_ | apply vD_)); exact HO122.out) hb); have n1_ := m0_ (Kd.V_below (by (with_reducible repeat (first | apply vA_ | apply vN_ | apply vD_)); exact HO125.out) hb); have n2_ := m0_ (Kd.N_below (by (with_reducible repeat (first | apply Kd.N_alloc | apply Kd.N_drewN | apply Kd.N_drew)); exact HO128.out) hb); have n3_ := m0_ (Kd.V_below (by (with_reducible repeat (first | apply vA_ | apply vN_ | apply vD_)); exact HO131.out) hb); have n4_ := m0_ (Kd.V_below (by (with_reducible repeat (first | apply vA_ | apply vN_ | apply vD_)); exact HO134.out) hb); have n5_ := m0_ (Kd.V_below (by (with_reducible repeat (first | apply vA_ | apply vN_ | apply vD_)); exact HO139.out) hb); have n6_ := m0_ (Kd.V_below (by (with_reducible repeat (first | apply vA_ | apply vN_ | apply vD_)); exact HO142.out) hb); have n7_ := m0_ (Kd.V_below (by (with_reducible repeat (first | apply vA_ | apply vN_ | apply vD_)); exact HO147.out) hb); have n8_ := m0_ (Kd.V_below (by (with_reducible repeat (first | apply vA_ | apply vN_ | apply vD_)); exact HO152.out) hb); have n9_ := m0_ (Kd.V_below (by (with_reducible repeat (first | apply vA_ | apply vN_ | apply vD_)); exact HO155.out) hb); have n10_ := m0_ (below_step (by repeat (first | (with_reducible first | exact HB.out | apply bA_ | apply dN_ | apply b1_) | exact HB.out)) hb); clear HO122; clear HO125; clear HO128; clear HO131; clear HO134; clear HO139; clear HO142; clear HO147; clear HO152; clear HO155; clear HB; have HO122 := n0_; have HO125 := n1_; have HO128 := n2_; have HO131 := n3_; have HO134 := n4_; have HO139 := n5_; have HO142 := n6_; have HO147 := n7_; have HO152 := n8_; have HO155 := n9_; have HB := n10_; clear n0_ n1_ n2_ n3_ n4_ n5_ n6_ n7_ n8_ n9_ n10_; (try clear hb); (try clear hb2); (try clear hk); (try clear hi)) | ((with_reducible refine gate_callee (f := 21) rfl ?_); refine goesL_ (some 50) rfl rfl Try.func21 (by kernel_rfl) rfl #[.string (⟨#[120]⟩ : ByteArray)] rfl (by (try simp only [mT_, mC_, mN_]); first | done | rfl | (simp only [lD_, lT_]; rfl)) ?_; (with_reducible refine (banksmanlaw14_of.calls (⟨#[120]⟩ : ByteArray) t158 _ A14.out).mono ?_); rintro e w145 ⟨v159, rfl, ho0, hb⟩; refine ⟨_, rfl, ?_⟩; have n0_ := m0_ (Kd.V_below (by (with_reducible repeat (first | apply vA_ | apply vN_ | apply vD_)); exact HO122.out) hb); have n1_ := m0_ (Kd.V_below (by (with_reducible repeat (first | apply vA_ | apply vN_ | apply vD_)); exact HO125.out) hb); have n2_ := m0_ (Kd.N_below (by (with_reducible repeat (first | apply Kd.N_alloc | apply Kd.N_drewN | apply Kd.N_drew)); exact HO128.out) hb); have n3_ := m0_ (Kd.V_below (by (with_reducible repeat (first | apply vA_ | apply vN_ | apply vD_)); exact HO131.out) hb); have n4_ := m0_ (Kd.V_below (by (with_reducible repeat (first | apply vA_ | apply vN_ | apply vD_)); exact HO134.out) hb); have n5_ := m0_ (Kd.V_below (by (with_reducible repeat (first | apply vA_ | apply vN_ | apply vD_)); exact HO139.out) hb); have n6_ := m0_ (Kd.V_below (by (with_reducible repeat (first | apply vA_ | apply vN_ | apply vD_)); exact HO142.out) hb); have n7_ := m0_ (Kd.V_below (by (with_reducible repeat (first | apply vA_ | apply vN_ | apply vD_)); exact HO147.out) hb); have n8_ := m0_ (Kd.V_below (by (with_reducible repeat (first | apply vA_ | apply vN_ | apply vD_)); exact HO152.out) hb); have n9_ := m0_ (Kd.V_below (by (with_reducible repeat (first | apply vA_ | apply vN_ | apply vD_)); exact HO155.out) hb); have n10_ := m0_ (Kd.V_lower (Kd.V_mono (ok' := fun k_ => some k_ ≠ (.slice Ao130 y126.length co130 : Value).ownBlock) ho0 (fun k_ hk_ => (Kd.fresh' (Kd.N_lt (by (with_reducible repeat (first | apply Kd.N_alloc | apply Kd.N_drewN | apply Kd.N_drew)); exact HO128.out)) k_ hk_))) (below_size (by repeat (first | (with_reducible first | exact HB.out | apply bA_ | apply dN_ | apply b1_) | exact HB.out)))); have n11_ := m0_ (below_step (by repeat (first | (with_reducible first | exact HB.out | apply bA_ | apply dN_ | apply b1_) | exact HB.out)) hb); clear HO122; clear HO125; clear HO128; clear HO131; clear HO134; clear HO139; clear HO142; clear HO147; clear HO152; clear HO155; clear HB; have HO122 := n0_; have HO125 := n1_; have HO128 := n2_; have HO131 := n3_; have HO134 := n4_; have HO139 := n5_; have HO142 := n6_; have HO147 := n7_; have HO152 := n8_; have HO155 := n9_; have HO160 := n10_; have HB := n11_; clear n0_ n1_ n2_ n3_ n4_ n5_ n6_ n7_ n8_ n9_ n10_ n11_; (try clear hb); (try clear hb2); (try clear hk); (try clear hi); (try clear ho0); obtain ⟨Ao146, co146, eo146⟩ := Kd.V_slice HO160.out; subst eo146) | ((with_reducible refine gate_callee (f := 22) rfl ?_); refine goesL_ (some 52) rfl rfl Try.func22 (by kernel_rfl) rfl #[.string (⟨#[122]⟩ : ByteArray)] rfl (by (try simp only [mT_, mC_, mN_]); first | done | rfl | (simp only [lD_, lT_]; rfl)) ?_; (with_reducible refine (banksmanlaw14_put.calls (⟨#[122]⟩ : ByteArray) t161 _ A15.out).mono ?_); rintro e w147 ⟨v162, rfl, ho0, hb⟩; refine ⟨_, rfl, ?_⟩; have n0_ := m0_ (Kd.V_below (by (with_reducible repeat (first | apply vA_ | apply vN_ | apply vD_)); exact HO122.out) hb); have n1_ := m0_ (Kd.V_below (by (with_reducible repeat (first | apply vA_ | apply vN_ | apply vD_)); exact HO125.out) hb); have n2_ := m0_ (Kd.N_below (by (with_reducible repeat (first | apply Kd.N_alloc | apply Kd.N_drewN | apply Kd.N_drew)); exact HO128.out) hb); have n3_ := m0_ (Kd.V_below (by (with_reducible repeat (first | apply vA_ | apply vN_ | apply vD_)); exact HO131.out) hb); have n4_ := m0_ (Kd.V_below (by (with_reducible repeat (first | apply vA_ | apply vN_ | apply vD_)); exact HO134.out) hb); have n5_ := m0_ (Kd.V_below (by (with_reducible repeat (first | apply vA_ | apply vN_ | apply vD_)); exact HO139.out) hb); have n6_ := m0_ (Kd.V_below (by (with_reducible repeat (first | apply vA_ | apply vN_ | apply vD_)); exact HO142.out) hb); have n7_ := m0_ (Kd.V_below (by (with_reducible repeat (first | apply vA_ | apply vN_ | apply vD_)); exact HO147.out) hb); have n8_ := m0_ (Kd.V_below (by (with_reducible repeat (first | apply vA_ | apply vN_ | apply vD_)); exact HO152.out) hb); have n9_ := m0_ (Kd.V_below (by (with_reducible repeat (first | apply vA_ | apply vN_ | apply vD_)); exact HO155.out) hb); have n10_ := m0_ (Kd.V_below (by (with_reducible repeat (first | apply vA_ | apply vN_ | apply vD_)); exact HO160.out) hb); have n11_ := m0_ (Kd.V_lower (Kd.V_mono (ok' := fun k_ => some k_ ≠ (.slice Ao130 y126.length co130 : Value).ownBlock) ho0 (fun k_ hk_ => (Kd.fresh' (Kd.N_lt (by (with_reducible repeat (first | apply Kd.N_alloc | apply Kd.N_drewN | apply Kd.N_drew)); exact HO128.out)) k_ hk_))) (below_size (by repeat (first | (with_reducible first | exact HB.out | apply bA_ | apply dN_ | apply b1_) | exact HB.out)))); have n12_ := m0_ (below_step (by repeat (first | (with_reducible first | exact HB.out | apply bA_ | apply dN_ | apply b1_) | exact HB.out)) hb); clear HO122; clear HO125; clear HO128; clear HO131; clear HO134; clear HO139; clear HO142; clear HO147; clear HO152; clear HO155; clear HO160; clear HB; have HO122 := n0_; have HO125 := n1_; have HO128 := n2_; have HO131 := n3_; have HO134 := n4_; have HO139 := n5_; have HO142 := n6_; have HO147 := n7_; have HO152 := n8_; have HO155 := n9_; have HO160 := n10_; have HO163 := n11_; have HB := n12_; clear n0_ n1_ n2_ n3_ n4_ n5_ n6_ n7_ n8_ n9_ n10_ n11_ n12_; (try clear hb); (try clear hb2); (try clear hk); (try clear hi); (try clear ho0)) | ((with_reducible refine gate_callee (f := 21) rfl ?_); refine goesL_ (some 54) rfl rfl Try.func21 (by kernel_rfl) rfl #[.string (⟨#[122]⟩ : ByteArray)] rfl (by (try simp only [mT_, mC_, mN_]); first | done | rfl | (simp only [lD_, lT_]; rfl)) ?_; (with_reducible refine (banksmanlaw14_of.calls (⟨#[122]⟩ : ByteArray) t164 _ A16.out).mono ?_); rintro e w148 ⟨v165, rfl, ho0, hb⟩; refine ⟨_, rfl, ?_⟩; have n0_ := m0_ (Kd.V_below (by (with_reducible repeat (first | apply vA_ | apply vN_ | apply vD_)); exact HO122.out) hb); have n1_ := m0_ (Kd.V_below (by (with_reducible repeat (first | apply vA_ | apply vN_ | apply vD_)); exact HO125.out) hb); have n2_ := m0_ (Kd.N_below (by (with_reducible repeat (first | apply Kd.N_alloc | apply Kd.N_drewN | apply Kd.N_drew)); exact HO128.out) hb); have n3_ := m0_ (Kd.V_below (by (with_reducible repeat (first | apply vA_ | apply vN_ | apply vD_)); exact HO131.out) hb); have n4_ := m0_ (Kd.V_below (by (with_reducible repeat (first | apply vA_ | apply vN_ | apply vD_)); exact HO134.out) hb); have n5_ := m0_ (Kd.V_below (by (with_reducible repeat (first | apply vA_ | apply vN_ | apply vD_)); exact HO139.out) hb); have n6_ := m0_ (Kd.V_below (by (with_reducible repeat (first | apply vA_ | apply vN_ | apply vD_)); exact HO142.out) hb); have n7_ := m0_ (Kd.V_below (by (with_reducible repeat (first | apply vA_ | apply vN_ | apply vD_)); exact HO147.out) hb); have n8_ := m0_ (Kd.V_below (by (with_reducible repeat (first | apply vA_ | apply vN_ | apply vD_)); exact HO152.out) hb); have n9_ := m0_ (Kd.V_below (by (with_reducible repeat (first | apply vA_ | apply vN_ | apply vD_)); exact HO155.out) hb); have n10_ := m0_ (Kd.V_below (by (with_reducible repeat (first | apply vA_ | apply vN_ | apply vD_)); exact HO160.out) hb); have n11_ := m0_ (Kd.V_below (by (with_reducible repeat (first | apply vA_ | apply vN_ | apply vD_)); exact HO163.out) hb); have n12_ := m0_ (Kd.V_lower (Kd.V_mono (ok' := fun k_ => some k_ ≠ (.slice Ao130 y126.length co130 : Value).ownBlock) ho0 (fun k_ hk_ => (Kd.fresh' (Kd.N_lt (by (with_reducible repeat (first | apply Kd.N_alloc | apply Kd.N_drewN | apply Kd.N_drew)); exact HO128.out)) k_ hk_))) (below_size (by repeat (first | (with_reducible first | exact HB.out | apply bA_ | apply dN_ | apply b1_) | exact HB.out)))); have n13_ := m0_ (below_step (by repeat (first | (with_reducible first | exact HB.out | apply bA_ | apply dN_ | apply b1_) | exact HB.out)) hb); clear HO122; clear HO125; clear HO128; clear HO131; clear HO134; clear HO139; clear HO142; clear HO147; clear HO152; clear HO155; clear HO160; clear HO163; clear HB; have HO122 := n0_; have HO125 := n1_; have HO128 := n2_; have HO131 := n3_; have HO134 := n4_; have HO139 := n5_; have HO142 := n6_; have HO147 := n7_; have HO152 := n8_; have HO155 := n9_; have HO160 := n10_; have HO163 := n11_; have HO166 := n12_; have HB := n13_; clear n0_ n1_ n2_ n3_ n4_ n5_ n6_ n7_ n8_ n9_ n10_ n11_ n12_ n13_; (try clear hb); (try clear hb2); (try clear hk); (try clear hi); (try clear ho0); obtain ⟨Ao149, co149, eo149⟩ := Kd.V_slice HO166.out; subst eo149) | ((with_reducible refine gate_dst (N := 56) rfl ?_); (try (refine gate_guard (by rfl) ?_; dsimp only)); refine Kd.N_lit k24 _ 24 ?hg (N' := 56) ?hd (xs := ([(⟨0, t164⟩ : S24)] : List (S24))) (inner := [.int .i64 0, .slice Ao149 t164.length co149]) (ok := (fun k_ => some k_ ≠ (.slice Ao130 y126.length co130 : Value).ownBlock)) (okp := (fun k_ => some k_ ≠ (.slice Ao130 y126.length co130 : Value).ownBlock)) ?hr ?hp (fun _ hk => hk) ((show ∀ k_, w148.heap.size ≤ k_ → (fun k_ => some k_ ≠ (.slice Ao130 y126.length co130 : Value).ownBlock) k_ from fun k_ hk => Kd.fresh' (Kd.N_lt (by (with_reducible repeat (first | apply Kd.N_alloc | apply Kd.N_drewN | apply Kd.N_drew)); exact HO128.out)) k_ hk) _ (Nat.le_refl _)) (Below.refl _ _) (Nat.le_refl _) (by simp) ?_; (case hd => rfl); (case hg => rfl); (case hr => first | (go_simp; done) | (go_simp; rfl)); (case hp => exact (Reps.c2 (show Kd.FK k24 _ _ (⟨0, t164⟩ : S24) [.int .i64 0, .slice Ao149 t164.length co149] from (k24_mkF _ _ (⟨0, t164⟩ : S24) (Kd.V_reads' (Kd.V_mono (ok' := (fun k_ => some k_ ≠ (.slice Ao130 y126.length co130 : Value).ownBlock)) (HO166.out) (fun k_ hk => hk))).2.1 (Kd.V_F (Kd.V_mono (ok' := (fun k_ => some k_ ≠ (.slice Ao130 y126.length co130 : Value).ownBlock)) (HO166.out) (fun k_ hk => hk))))) (Reps.none _ _))); intro v168 w150 ho151 hb hg_ hnew_; clear hg_ hnew_; (first | rw [← Ny167.out] at ho151 | (simp only [Int.reduceToNat] at ho151; rw [← Ny167.out] at ho151)); have n0_ := m0_ (Kd.V_elder' (by (with_reducible repeat (first | apply vA_ | apply vN_ | apply vD_)); exact HO122.out) (Kd.N_base ho151) hb); have n1_ := m0_ (Kd.V_elder' (by (with_reducible repeat (first | apply vA_ | apply vN_ | apply vD_)); exact HO125.out) (Kd.N_base ho151) hb); have n2_ := m0_ (Kd.N_elder' (by (with_reducible repeat (first | apply Kd.N_alloc | apply Kd.N_drewN | apply Kd.N_drew)); exact HO128.out) (Kd.N_base ho151) hb); have n3_ := m0_ (Kd.V_elder' (by (with_reducible repeat (first | apply vA_ | apply vN_ | apply vD_)); exact HO131.out) (Kd.N_base ho151) hb); have n4_ := m0_ (Kd.V_elder' (by (with_reducible repeat (first | apply vA_ | apply vN_ | apply vD_)); exact HO134.out) (Kd.N_base ho151) hb); have n5_ := m0_ (Kd.V_elder' (by (with_reducible repeat (first | apply vA_ | apply vN_ | apply vD_)); exact HO139.out) (Kd.N_base ho151) hb); have n6_ := m0_ (Kd.V_elder' (by (with_reducible repeat (first | apply vA_ | apply vN_ | apply vD_)); exact HO142.out) (Kd.N_base ho151) hb); have n7_ := m0_ (Kd.V_elder' (by (with_reducible repeat (first | apply vA_ | apply vN_ | apply vD_)); exact HO147.out) (Kd.N_base ho151) hb); have n8_ := m0_ (Kd.V_elder' (by (with_reducible repeat (first | apply vA_ | apply vN_ | apply vD_)); exact HO152.out) (Kd.N_base ho151) hb); have n9_ := m0_ (Kd.V_elder' (by (with_reducible repeat (first | apply vA_ | apply vN_ | apply vD_)); exact HO155.out) (Kd.N_base ho151) hb); have n10_ := m0_ (Kd.V_elder' (by (with_reducible repeat (first | apply vA_ | apply vN_ | apply vD_)); exact HO160.out) (Kd.N_base ho151) hb); have n11_ := m0_ (Kd.V_elder' (by (with_reducible repeat (first | apply vA_ | apply vN_ | apply vD_)); exact HO163.out) (Kd.N_base ho151) hb); have n12_ := m0_ (Kd.V_elder' (by (with_reducible repeat (first | apply vA_ | apply vN_ | apply vD_)); exact HO166.out) (Kd.N_base ho151) hb); have n13_ := m0_ (Kd.N_lower ho151 (below_size (by repeat (first | (with_reducible first | exact HB.out | apply bA_ | apply dN_ | apply b1_) | exact HB.out)))); have n14_ := m0_ (below_step (by repeat (first | (with_reducible first | exact HB.out | apply bA_ | apply dN_ | apply b1_) | exact HB.out)) hb); clear HO122; clear HO125; clear HO128; clear HO131; clear HO134; clear HO139; clear HO142; clear HO147; clear HO152; clear HO155; clear HO160; clear HO163; clear HO166; clear HB; have HO122 := n0_; have HO125 := n1_; have HO128 := n2_; have HO131 := n3_; have HO134 := n4_; have HO139 := n5_; have HO142 := n6_; have HO147 := n7_; have HO152 := n8_; have HO155 := n9_; have HO160 := n10_; have HO163 := n11_; have HO166 := n12_; have HO169 := n13_; have HB := n14_; clear n0_ n1_ n2_ n3_ n4_ n5_ n6_ n7_ n8_ n9_ n10_ n11_ n12_ n13_ n14_; clear hb ho151; obtain ⟨Ao152, co152, eo152⟩ := Kd.V_slice HO163.out; subst eo152; obtain ⟨Ao153, co153, eo153⟩ := Kd.N_slice HO169.out; subst eo153) | ((with_reducible refine gate_callee (f := 12) rfl ?_); refine goesL_ (some 57) rfl rfl Try.func12 (by kernel_rfl) rfl #[.agg #[.int .i64 3, .slice Ao146 t158.length co146], .slice Ao152 t161.length co152, .slice Ao130 y126.length co130, .slice Ao153 y167.length co153] rfl (by (try simp only [mT_, mC_, mN_]); first | done | rfl | (simp only [lD_, lT_]; rfl)) ?_; (with_reducible refine (rival_Judge.calls 3 _ _ t158 _ _ t161 _ _ y126 _ _ y167 t170 t171 _ ?side1 ?side2 ?side3 ?side4 ?side5 ?side6 ?side7 ?side8 A17.out).mono ?_); (case side1 => repeat (first | exact (Kd.V_reads' HO160.out).2.2 | (with_reducible first | refine kA_ ?_ _ | refine kN_ ?_ _ | refine kD_ ?_))); (case side2 => exact (Kd.V_reads' HO160.out).2.1); (case side3 => repeat (first | exact (Kd.V_reads' HO163.out).2.2 | (with_reducible first | refine kA_ ?_ _ | refine kN_ ?_ _ | refine kD_ ?_))); (case side4 => exact (Kd.V_reads' HO163.out).2.1); (case side5 => repeat (first | exact (Kd.N_reads' HO128.out).2.2 | (with_reducible first | refine kA_ ?_ _ | refine kN_ ?_ _ | refine kD_ ?_))); (case side6 => exact (Kd.N_reads' HO128.out).2.1); (case side7 => repeat (first | exact (Kd.N_reads' HO169.out).2.2 | (with_reducible first | refine kA_ ?_ _ | refine kN_ ?_ _ | refine kD_ ?_))); (case side8 => exact (Kd.N_reads' HO169.out).2.1); rintro e w154 ⟨rfl, hb⟩; refine ⟨_, rfl, ?_⟩; have n0_ := m0_ (Kd.V_below (by (with_reducible repeat (first | apply vA_ | apply vN_ | apply vD_)); exact HO122.out) hb); have n1_ := m0_ (Kd.V_below (by (with_reducible repeat (first | apply vA_ | apply vN_ | apply vD_)); exact HO125.out) hb); have n2_ := m0_ (Kd.N_below (by (with_reducible repeat (first | apply Kd.N_alloc | apply Kd.N_drewN | apply Kd.N_drew)); exact HO128.out) hb); have n3_ := m0_ (Kd.V_below (by (with_reducible repeat (first | apply vA_ | apply vN_ | apply vD_)); exact HO131.out) hb); have n4_ := m0_ (Kd.V_below (by (with_reducible repeat (first | apply vA_ | apply vN_ | apply vD_)); exact HO134.out) hb); have n5_ := m0_ (Kd.V_below (by (with_reducible repeat (first | apply vA_ | apply vN_ | apply vD_)); exact HO139.out) hb); have n6_ := m0_ (Kd.V_below (by (with_reducible repeat (first | apply vA_ | apply vN_ | apply vD_)); exact HO142.out) hb); have n7_ := m0_ (Kd.V_below (by (with_reducible repeat (first | apply vA_ | apply vN_ | apply vD_)); exact HO147.out) hb); have n8_ := m0_ (Kd.V_below (by (with_reducible repeat (first | apply vA_ | apply vN_ | apply vD_)); exact HO152.out) hb); have n9_ := m0_ (Kd.V_below (by (with_reducible repeat (first | apply vA_ | apply vN_ | apply vD_)); exact HO155.out) hb); have n10_ := m0_ (Kd.V_below (by (with_reducible repeat (first | apply vA_ | apply vN_ | apply vD_)); exact HO160.out) hb); have n11_ := m0_ (Kd.V_below (by (with_reducible repeat (first | apply vA_ | apply vN_ | apply vD_)); exact HO163.out) hb); have n12_ := m0_ (Kd.V_below (by (with_reducible repeat (first | apply vA_ | apply vN_ | apply vD_)); exact HO166.out) hb); have n13_ := m0_ (Kd.N_below (by (with_reducible repeat (first | apply Kd.N_alloc | apply Kd.N_drewN | apply Kd.N_drew)); exact HO169.out) hb); have n14_ := m0_ (below_step (by repeat (first | (with_reducible first | exact HB.out | apply bA_ | apply dN_ | apply b1_) | exact HB.out)) hb); clear HO122; clear HO125; clear HO128; clear HO131; clear HO134; clear HO139; clear HO142; clear HO147; clear HO152; clear HO155; clear HO160; clear HO163; clear HO166; clear HO169; clear HB; have HO122 := n0_; have HO125 := n1_; have HO128 := n2_; have HO131 := n3_; have HO134 := n4_; have HO139 := n5_; have HO142 := n6_; have HO147 := n7_; have HO152 := n8_; have HO155 := n9_; have HO160 := n10_; have HO163 := n11_; have HO166 := n12_; have HO169 := n13_; have HB := n14_; clear n0_ n1_ n2_ n3_ n4_ n5_ n6_ n7_ n8_ n9_ n10_ n11_ n12_ n13_ n14_; (try clear hb); (try clear hb2); (try clear hk); (try clear hi); have p19 : 0 ≤ (0 : Int) := (by omega); have q19 : (0 : Int) < ((y126.length : Int) : Int) := dT_; have qi19 : (0 < y126.length) = True := eq_true (by omega); obtain ⟨go19, co19, eo19, gb19, gl19, cl19, HG19⟩ := Kd.N_form HO128.out (by omega); (first | cases eo19 | (injection eo19 with ea_ en_ ec_; (first | subst ea_ | (injection ea_ with ea_; subst ea_)); subst ec_; clear en_)); have GB19 := m0_ gb19; have GG19 := m0_ HG19; clear gb19 gl19 HG19; obtain ⟨ce19, hcl19, hM19, hcc19, hfr19⟩ := Kd.N_elem HO128.out z50 (0 : Int) p19 q19; obtain ⟨ua19_3, uc19_3, ua19_4, uc19_4, rfl, ul19_3, ge19_3, ul19_4, ge19_4⟩ := k50_openF hM19; have hx19_0 : w154.cell? ⟨go19, (0 : Int).toNat * 6, none⟩ = some (.int .i64 ((rd_T50 y126 0).f0)) := hcc19 0 _ rfl; have hx19_1 : w154.cell? ⟨go19, (0 : Int).toNat * 6 + 1, none⟩ = some (.int .i64 ((rd_T50 y126 0).f1)) := hcc19 1 _ rfl; have hx19_2 : w154.cell? ⟨go19, (0 : Int).toNat * 6 + 2, none⟩ = some (.bool ((rd_T50 y126 0).f2)) := hcc19 2 _ rfl; have hx19_3 : w154.cell? ⟨go19, (0 : Int).toNat * 6 + 3, none⟩ = some (.slice ua19_3 ((rd_T50 y126 0).f3).length uc19_3) := hcc19 3 _ rfl; have hx19_4 : w154.cell? ⟨go19, (0 : Int).toNat * 6 + 4, none⟩ = some (.slice ua19_4 ((rd_T50 y126 0).f4).length uc19_4) := hcc19 4 _ rfl; have hx19_5 : w154.cell? ⟨go19, (0 : Int).toNat * 6 + 5, none⟩ = some (.bool ((rd_T50 y126 0).f5)) := hcc19 5 _ rfl; have hf19_0 : w154.frozen? ⟨go19, (0 : Int).toNat * 6, none⟩ = false := hfr19 0; have hf19_1 : w154.frozen? ⟨go19, (0 : Int).toNat * 6 + 1, none⟩ = false := hfr19 1; have hf19_2 : w154.frozen? ⟨go19, (0 : Int).toNat * 6 + 2, none⟩ = false := hfr19 2; have hf19_3 : w154.frozen? ⟨go19, (0 : Int).toNat * 6 + 3, none⟩ = false := hfr19 3; have hf19_4 : w154.frozen? ⟨go19, (0 : Int).toNat * 6 + 4, none⟩ = false := hfr19 4; have hf19_5 : w154.frozen? ⟨go19, (0 : Int).toNat * 6 + 5, none⟩ = false := hfr19 5; clear hcl19 hcc19 hfr19 hM19; (try rw [show ((0 : Int)).toNat = 0 from rfl] at hx19_0); (try simp only [Nat.reduceMul, Nat.zero_mul, Nat.zero_add, Nat.reduceAdd] at hx19_0); (try rw [show ((0 : Int)).toNat = 0 from rfl] at hf19_0); (try simp only [Nat.reduceMul, Nat.zero_mul, Nat.zero_add, Nat.reduceAdd] at hf19_0); (try rw [show ((0 : Int)).toNat = 0 from rfl] at hx19_1); (try simp only [Nat.reduceMul, Nat.zero_mul, Nat.zero_add, Nat.reduceAdd] at hx19_1); (try rw [show ((0 : Int)).toNat = 0 from rfl] at hf19_1); (try simp only [Nat.reduceMul, Nat.zero_mul, Nat.zero_add, Nat.reduceAdd] at hf19_1); (try rw [show ((0 : Int)).toNat = 0 from rfl] at hx19_2); (try simp only [Nat.reduceMul, Nat.zero_mul, Nat.zero_add, Nat.reduceAdd] at hx19_2); (try rw [show ((0 : Int)).toNat = 0 from rfl] at hf19_2); (try simp only [Nat.reduceMul, Nat.zero_mul, Nat.zero_add, Nat.reduceAdd] at hf19_2); (try rw [show ((0 : Int)).toNat = 0 from rfl] at hx19_3); (try simp only [Nat.reduceMul, Nat.zero_mul, Nat.zero_add, Nat.reduceAdd] at hx19_3); (try rw [show ((0 : Int)).toNat = 0 from rfl] at hf19_3); (try simp only [Nat.reduceMul, Nat.zero_mul, Nat.zero_add, Nat.reduceAdd] at hf19_3); (try rw [show ((0 : Int)).toNat = 0 from rfl] at hx19_4); (try simp only [Nat.reduceMul, Nat.zero_mul, Nat.zero_add, Nat.reduceAdd] at hx19_4); (try rw [show ((0 : Int)).toNat = 0 from rfl] at hf19_4); (try simp only [Nat.reduceMul, Nat.zero_mul, Nat.zero_add, Nat.reduceAdd] at hf19_4); (try rw [show ((0 : Int)).toNat = 0 from rfl] at hx19_5); (try simp only [Nat.reduceMul, Nat.zero_mul, Nat.zero_add, Nat.reduceAdd] at hx19_5); (try rw [show ((0 : Int)).toNat = 0 from rfl] at hf19_5); (try simp only [Nat.reduceMul, Nat.zero_mul, Nat.zero_add, Nat.reduceAdd] at hf19_5); replace p19 := eq_true p19; replace q19 := eq_true q19; have n_ := m0_ (Kd.N_mono (ok' := (fun k_ => some k_ ≠ (.slice Ao153 y167.length co153 : Value).ownBlock)) HO128.out (fun k_ hk => hk.2)); clear HO128; have HO128 := n_; clear n_; have HX155 := m0_ (show Kd.N k50 50 w154 w.heap.size (fun k_ => some k_ ≠ (.slice Ao153 y167.length co153 : Value).ownBlock) (.slice (some ⟨go19, 0, none⟩) y126.length co130) y126 from (by (with_reducible repeat (first | apply Kd.N_alloc | apply Kd.N_drewN | apply Kd.N_drew)); exact HO128.out)); obtain ⟨ce155, hcl155, hM155, hcc155, hfr155⟩ := Kd.N_elem HX155.out z50 (0 : Int) (by omega) (by have h_ : (0 : Int) < ((y126.length : Int) : Int) := dT_; first | exact h_ | (have e_ := (Kd.N_reads' HO128.out).1; omega) | simpa using h_); obtain ⟨ua155_3, uc155_3, ua155_4, uc155_4, rfl, ul155_3, ge155_3, ul155_4, ge155_4⟩ := k50_openF hM155; have HP155 := Kd.N_seg HX155.out (0 : Int) (by omega) (by have h_ : (0 : Int) < ((y126.length : Int) : Int) := dT_; first | exact h_ | (have e_ := (Kd.N_reads' HO128.out).1; omega) | simpa using h_) (seg := [.bool true]) (j := 5) hcl155 hcc155 (show 6 ≤ 6 from by decide) (x' := (⟨(rd_T50 y126 0).f0, (rd_T50 y126 0).f1, (rd_T50 y126 0).f2, (rd_T50 y126 0).f3, (rd_T50 y126 0).f4, true⟩ : S50)) (k50_mkF _ _ (⟨(rd_T50 y126 0).f0, (rd_T50 y126 0).f1, (rd_T50 y126 0).f2, (rd_T50 y126 0).f3, (rd_T50 y126 0).f4, true⟩ : S50) ul155_3 ge155_3 ul155_4 ge155_4) (fun _ hk => hk); have hx155_5 := hcc155 5 _ rfl; (try simp only [show (k50).sz = 6 from rfl, Nat.mul_one, Nat.add_zero] at hx155_5); (try rw [show ((0 : Int)).toNat = 0 from rfl] at hx155_5); (try simp only [Nat.reduceMul, Nat.zero_mul, Nat.zero_add, Nat.reduceAdd] at hx155_5); have hf155_5 := hfr155 5; (try simp only [show (k50).sz = 6 from rfl, Nat.mul_one, Nat.add_zero] at hf155_5); (try rw [show ((0 : Int)).toNat = 0 from rfl] at hf155_5); (try simp only [Nat.reduceMul, Nat.zero_mul, Nat.zero_add, Nat.reduceAdd] at hf155_5); clear hcl155 hcc155 hfr155 hM155) | ((with_reducible refine gate_store (t := 4) (p := 62) rfl ?_); refine store_event (t := 4) (p := 62) (v := ?vo_w156) (w1 := (w154.setCell ⟨go19, 5, none⟩ (.bool true))) ?hg ?ho ?hn ?hr ?_; (case ho => rfl); (case hg => rfl); (case hn => rfl); (case hr => first | (go_simp; done) | (go_simp; rfl)); intro w156 hw; have hg : w154.grownBy w156 (some go19) := (by rw [hw]; exact HP155.2); have hp_ : Kd.N k50 50 w156 w.heap.size (fun k_ => some k_ ≠ (.slice Ao153 y167.length co153 : Value).ownBlock) (.slice (some ⟨go19, 0, none⟩) y126.length co130) y172 := (by rw [hw, Ny172.out]; exact HP155.1); clear HP155; have n0_ := m0_ (Kd.V_afterv (v := (.slice (some ⟨go19, 0, none⟩) y126.length co130)) (v1 := (.slice (some ⟨go19, 0, none⟩) y126.length co130)) (ok := (fun k_ => some k_ ≠ (.slice Ao153 y167.length co153 : Value).ownBlock)) (by (with_reducible repeat (first | apply vA_ | apply vN_ | apply vD_)); exact Kd.V_mono HO122.out (fun _ hk => ⟨hk.2, hk.1.2⟩)) hg (.inl rfl)); have n1_ := m0_ (Kd.V_afterv (v := (.slice (some ⟨go19, 0, none⟩) y126.length co130)) (v1 := (.slice (some ⟨go19, 0, none⟩) y126.length co130)) (ok := (fun k_ => some k_ ≠ (.slice Ao153 y167.length co153 : Value).ownBlock)) (by (with_reducible repeat (first | apply vA_ | apply vN_ | apply vD_)); exact Kd.V_mono HO125.out (fun _ hk => ⟨hk.2, hk.1.2⟩)) hg (.inl rfl)); have n2_ := m0_ (hp_); have n3_ := m0_ (Kd.V_afterv (v := (.slice (some ⟨go19, 0, none⟩) y126.length co130)) (v1 := (.slice (some ⟨go19, 0, none⟩) y126.length co130)) (ok := (fun k_ => some k_ ≠ (.slice Ao153 y167.length co153 : Value).ownBlock)) (by (with_reducible repeat (first | apply vA_ | apply vN_ | apply vD_)); exact Kd.V_mono HO131.out (fun _ hk => ⟨hk.2, hk.1⟩)) hg (.inl rfl)); have n4_ := m0_ (Kd.V_afterv (v := (.slice (some ⟨go19, 0, none⟩) y126.length co130)) (v1 := (.slice (some ⟨go19, 0, none⟩) y126.length co130)) (ok := (fun k_ => some k_ ≠ (.slice Ao153 y167.length co153 : Value).ownBlock)) (by (with_reducible repeat (first | apply vA_ | apply vN_ | apply vD_)); exact Kd.V_mono HO134.out (fun _ hk => ⟨hk.2, hk.1⟩)) hg (.inl rfl)); have n5_ := m0_ (Kd.V_afterv (v := (.slice (some ⟨go19, 0, none⟩) y126.length co130)) (v1 := (.slice (some ⟨go19, 0, none⟩) y126.length co130)) (ok := (fun k_ => some k_ ≠ (.slice Ao153 y167.length co153 : Value).ownBlock)) (by (with_reducible repeat (first | apply vA_ | apply vN_ | apply vD_)); exact Kd.V_mono HO139.out (fun _ hk => ⟨hk.2, hk.1⟩)) hg (.inl rfl)); have n6_ := m0_ (Kd.V_afterv (v := (.slice (some ⟨go19, 0, none⟩) y126.length co130)) (v1 := (.slice (some ⟨go19, 0, none⟩) y126.length co130)) (ok := (fun k_ => some k_ ≠ (.slice Ao153 y167.length co153 : Value).ownBlock)) (by (with_reducible repeat (first | apply vA_ | apply vN_ | apply vD_)); exact Kd.V_mono HO142.out (fun _ hk => ⟨hk.2, hk.1⟩)) hg (.inl rfl)); have n7_ := m0_ (Kd.V_afterv (v := (.slice (some ⟨go19, 0, none⟩) y126.length co130)) (v1 := (.slice (some ⟨go19, 0, none⟩) y126.length co130)) (ok := (fun k_ => some k_ ≠ (.slice Ao153 y167.length co153 : Value).ownBlock)) (by (with_reducible repeat (first | apply vA_ | apply vN_ | apply vD_)); exact Kd.V_mono HO147.out (fun _ hk => ⟨hk.2, hk.1⟩)) hg (.inl rfl)); have n8_ := m0_ (Kd.V_afterv (v := (.slice (some ⟨go19, 0, none⟩) y126.length co130)) (v1 := (.slice (some ⟨go19, 0, none⟩) y126.length co130)) (ok := (fun k_ => some k_ ≠ (.slice Ao153 y167.length co153 : Value).ownBlock)) (by (with_reducible repeat (first | apply vA_ | apply vN_ | apply vD_)); exact Kd.V_mono HO152.out (fun _ hk => ⟨hk.2, hk.1⟩)) hg (.inl rfl)); have n9_ := m0_ (Kd.V_afterv (v := (.slice (some ⟨go19, 0, none⟩) y126.length co130)) (v1 := (.slice (some ⟨go19, 0, none⟩) y126.length co130)) (ok := (fun k_ => some k_ ≠ (.slice Ao153 y167.length co153 : Value).ownBlock)) (by (with_reducible repeat (first | apply vA_ | apply vN_ | apply vD_)); exact Kd.V_mono HO155.out (fun _ hk => ⟨hk.2, hk.1⟩)) hg (.inl rfl)); have n10_ := m0_ (Kd.V_afterv (v := (.slice (some ⟨go19, 0, none⟩) y126.length co130)) (v1 := (.slice (some ⟨go19, 0, none⟩) y126.length co130)) (ok := (fun k_ => some k_ ≠ (.slice Ao153 y167.length co153 : Value).ownBlock)) (by (with_reducible repeat (first | apply vA_ | apply vN_ | apply vD_)); exact Kd.V_mono HO160.out (fun _ hk => ⟨hk.2, hk.1⟩)) hg (.inl rfl)); have n11_ := m0_ (Kd.V_afterv (v := (.slice (some ⟨go19, 0, none⟩) y126.length co130)) (v1 := (.slice (some ⟨go19, 0, none⟩) y126.length co130)) (ok := (fun k_ => some k_ ≠ (.slice Ao153 y167.length co153 : Value).ownBlock)) (by (with_reducible repeat (first | apply vA_ | apply vN_ | apply vD_)); exact Kd.V_mono HO163.out (fun _ hk => ⟨hk.2, hk.1⟩)) hg (.inl rfl)); have n12_ := m0_ (Kd.V_afterv (v := (.slice (some ⟨go19, 0, none⟩) y126.length co130)) (v1 := (.slice (some ⟨go19, 0, none⟩) y126.length co130)) (ok := (fun k_ => some k_ ≠ (.slice Ao153 y167.length co153 : Value).ownBlock)) (by (with_reducible repeat (first | apply vA_ | apply vN_ | apply vD_)); exact Kd.V_mono HO166.out (fun _ hk => ⟨hk.2, hk.1⟩)) hg (.inl rfl)); have n13_ := m0_ (Kd.N_afterv (v := (.slice (some ⟨go19, 0, none⟩) y126.length co130)) (v1 := (.slice (some ⟨go19, 0, none⟩) y126.length co130)) (ok := (fun _ => True)) (by (with_reducible repeat (first | apply Kd.N_alloc | apply Kd.N_drewN | apply Kd.N_drew)); exact Kd.N_mono HO169.out (fun _ hk => ⟨trivial, hk⟩)) hg (.inl rfl)); have n14_ := m0_ ((by rw [hw]; exact below_set (HB.out) GB19.out : Below w.heap.size w w156)); clear HO122; clear HO125; clear HO128; clear HO131; clear HO134; clear HO139; clear HO142; clear HO147; clear HO152; clear HO155; clear HO160; clear HO163; clear HO166; clear HO169; clear HB; have HO122 := n0_; have HO125 := n1_; have HO128 := n2_; have HO131 := n3_; have HO134 := n4_; have HO139 := n5_; have HO142 := n6_; have HO147 := n7_; have HO152 := n8_; have HO155 := n9_; have HO160 := n10_; have HO163 := n11_; have HO166 := n12_; have HO169 := n13_; have HB := n14_; clear n0_ n1_ n2_ n3_ n4_ n5_ n6_ n7_ n8_ n9_ n10_ n11_ n12_ n13_ n14_; clear hg hw hp_) | ((with_reducible refine gate_callee (f := 21) rfl ?_); refine goesL_ (some 64) rfl rfl Try.func21 (by kernel_rfl) rfl #[.string (⟨#[120]⟩ : ByteArray)] rfl (by (try simp only [mT_, mC_, mN_]); first | done | rfl | (simp only [lD_, lT_]; rfl)) ?_; (with_reducible refine (banksmanlaw14_of.calls (⟨#[120]⟩ : ByteArray) t173 _ A20.out).mono ?_); rintro e w157 ⟨v174, rfl, ho0, hb⟩; refine ⟨_, rfl, ?_⟩; have n0_ := m0_ (Kd.V_below (by (with_reducible repeat (first | apply vA_ | apply vN_ | apply vD_)); exact HO122.out) hb); have n1_ := m0_ (Kd.V_below (by (with_reducible repeat (first | apply vA_ | apply vN_ | apply vD_)); exact HO125.out) hb); have n2_ := m0_ (Kd.N_below (by (with_reducible repeat (first | apply Kd.N_alloc | apply Kd.N_drewN | apply Kd.N_drew)); exact HO128.out) hb); have n3_ := m0_ (Kd.V_below (by (with_reducible repeat (first | apply vA_ | apply vN_ | apply vD_)); exact HO131.out) hb); have n4_ := m0_ (Kd.V_below (by (with_reducible repeat (first | apply vA_ | apply vN_ | apply vD_)); exact HO134.out) hb); have n5_ := m0_ (Kd.V_below (by (with_reducible repeat (first | apply vA_ | apply vN_ | apply vD_)); exact HO139.out) hb); have n6_ := m0_ (Kd.V_below (by (with_reducible repeat (first | apply vA_ | apply vN_ | apply vD_)); exact HO142.out) hb); have n7_ := m0_ (Kd.V_below (by (with_reducible repeat (first | apply vA_ | apply vN_ | apply vD_)); exact HO147.out) hb); have n8_ := m0_ (Kd.V_below (by (with_reducible repeat (first | apply vA_ | apply vN_ | apply vD_)); exact HO152.out) hb); have n9_ := m0_ (Kd.V_below (by (with_reducible repeat (first | apply vA_ | apply vN_ | apply vD_)); exact HO155.out) hb); have n10_ := m0_ (Kd.V_below (by (with_reducible repeat (first | apply vA_ | apply vN_ | apply vD_)); exact HO160.out) hb); have n11_ := m0_ (Kd.V_below (by (with_reducible repeat (first | apply vA_ | apply vN_ | apply vD_)); exact HO163.out) hb); have n12_ := m0_ (Kd.V_below (by (with_reducible repeat (first | apply vA_ | apply vN_ | apply vD_)); exact HO166.out) hb); have n13_ := m0_ (Kd.N_below (by (with_reducible repeat (first | apply Kd.N_alloc | apply Kd.N_drewN | apply Kd.N_drew)); exact HO169.out) hb); have n14_ := m0_ (Kd.V_lower (Kd.V_mono (ok' := fun k_ => some k_ ≠ (.slice (some ⟨go19, 0, none⟩) y126.length co130 : Value).ownBlock ∧ some k_ ≠ (.slice Ao153 y167.length co153 : Value).ownBlock) ho0 (fun k_ hk_ => ⟨(Kd.fresh' (Kd.N_lt (by (with_reducible repeat (first | apply Kd.N_alloc | apply Kd.N_drewN | apply Kd.N_drew)); exact HO128.out)) k_ hk_), (Kd.fresh' (Kd.N_lt (by (with_reducible repeat (first | apply Kd.N_alloc | apply Kd.N_drewN | apply Kd.N_drew)); exact HO169.out)) k_ hk_)⟩)) (below_size (by repeat (first | (with_reducible first | exact HB.out | apply bA_ | apply dN_ | apply b1_) | exact HB.out)))); have n15_ := m0_ (below_step (by repeat (first | (with_reducible first | exact HB.out | apply bA_ | apply dN_ | apply b1_) | exact HB.out)) hb); clear HO122; clear HO125; clear HO128; clear HO131; clear HO134; clear HO139; clear HO142; clear HO147; clear HO152; clear HO155; clear HO160; clear HO163; clear HO166; clear HO169; clear HB; have HO122 := n0_; have HO125 := n1_; have HO128 := n2_; have HO131 := n3_; have HO134 := n4_; have HO139 := n5_; have HO142 := n6_; have HO147 := n7_; have HO152 := n8_; have HO155 := n9_; have HO160 := n10_; have HO163 := n11_; have HO166 := n12_; have HO169 := n13_; have HO175 := n14_; have HB := n15_; clear n0_ n1_ n2_ n3_ n4_ n5_ n6_ n7_ n8_ n9_ n10_ n11_ n12_ n13_ n14_ n15_; (try clear hb); (try clear hb2); (try clear hk); (try clear hi); (try clear ho0); obtain ⟨Ao158, co158, eo158⟩ := Kd.V_slice HO175.out; subst eo158) | ((with_reducible refine gate_callee (f := 22) rfl ?_); refine goesL_ (some 66) rfl rfl Try.func22 (by kernel_rfl) rfl #[.string (⟨#[122]⟩ : ByteArray)] rfl (by (try simp only [mT_, mC_, mN_]); first | done | rfl | (simp only [lD_, lT_]; rfl)) ?_; (with_reducible refine (banksmanlaw14_put.calls (⟨#[122]⟩ : ByteArray) t176 _ A21.out).mono ?_); rintro e w159 ⟨v177, rfl, ho0, hb⟩; refine ⟨_, rfl, ?_⟩; have n0_ := m0_ (Kd.V_below (by (with_reducible repeat (first | apply vA_ | apply vN_ | apply vD_)); exact HO122.out) hb); have n1_ := m0_ (Kd.V_below (by (with_reducible repeat (first | apply vA_ | apply vN_ | apply vD_)); exact HO125.out) hb); have n2_ := m0_ (Kd.N_below (by (with_reducible repeat (first | apply Kd.N_alloc | apply Kd.N_drewN | apply Kd.N_drew)); exact HO128.out) hb); have n3_ := m0_ (Kd.V_below (by (with_reducible repeat (first | apply vA_ | apply vN_ | apply vD_)); exact HO131.out) hb); have n4_ := m0_ (Kd.V_below (by (with_reducible repeat (first | apply vA_ | apply vN_ | apply vD_)); exact HO134.out) hb); have n5_ := m0_ (Kd.V_below (by (with_reducible repeat (first | apply vA_ | apply vN_ | apply vD_)); exact HO139.out) hb); have n6_ := m0_ (Kd.V_below (by (with_reducible repeat (first | apply vA_ | apply vN_ | apply vD_)); exact HO142.out) hb); have n7_ := m0_ (Kd.V_below (by (with_reducible repeat (first | apply vA_ | apply vN_ | apply vD_)); exact HO147.out) hb); have n8_ := m0_ (Kd.V_below (by (with_reducible repeat (first | apply vA_ | apply vN_ | apply vD_)); exact HO152.out) hb); have n9_ := m0_ (Kd.V_below (by (with_reducible repeat (first | apply vA_ | apply vN_ | apply vD_)); exact HO155.out) hb); have n10_ := m0_ (Kd.V_below (by (with_reducible repeat (first | apply vA_ | apply vN_ | apply vD_)); exact HO160.out) hb); have n11_ := m0_ (Kd.V_below (by (with_reducible repeat (first | apply vA_ | apply vN_ | apply vD_)); exact HO163.out) hb); have n12_ := m0_ (Kd.V_below (by (with_reducible repeat (first | apply vA_ | apply vN_ | apply vD_)); exact HO166.out) hb); have n13_ := m0_ (Kd.N_below (by (with_reducible repeat (first | apply Kd.N_alloc | apply Kd.N_drewN | apply Kd.N_drew)); exact HO169.out) hb); have n14_ := m0_ (Kd.V_below (by (with_reducible repeat (first | apply vA_ | apply vN_ | apply vD_)); exact HO175.out) hb); have n15_ := m0_ (Kd.V_lower (Kd.V_mono (ok' := fun k_ => some k_ ≠ (.slice (some ⟨go19, 0, none⟩) y126.length co130 : Value).ownBlock ∧ some k_ ≠ (.slice Ao153 y167.length co153 : Value).ownBlock) ho0 (fun k_ hk_ => ⟨(Kd.fresh' (Kd.N_lt (by (with_reducible repeat (first | apply Kd.N_alloc | apply Kd.N_drewN | apply Kd.N_drew)); exact HO128.out)) k_ hk_), (Kd.fresh' (Kd.N_lt (by (with_reducible repeat (first | apply Kd.N_alloc | apply Kd.N_drewN | apply Kd.N_drew)); exact HO169.out)) k_ hk_)⟩)) (below_size (by repeat (first | (with_reducible first | exact HB.out | apply bA_ | apply dN_ | apply b1_) | exact HB.out)))); have n16_ := m0_ (below_step (by repeat (first | (with_reducible first | exact HB.out | apply bA_ | apply dN_ | apply b1_) | exact HB.out)) hb); clear HO122; clear HO125; clear HO128; clear HO131; clear HO134; clear HO139; clear HO142; clear HO147; clear HO152; clear HO155; clear HO160; clear HO163; clear HO166; clear HO169; clear HO175; clear HB; have HO122 := n0_; have HO125 := n1_; have HO128 := n2_; have HO131 := n3_; have HO134 := n4_; have HO139 := n5_; have HO142 := n6_; have HO147 := n7_; have HO152 := n8_; have HO155 := n9_; have HO160 := n10_; have HO163 := n11_; have HO166 := n12_; have HO169 := n13_; have HO175 := n14_; have HO178 := n15_; have HB := n16_; clear n0_ n1_ n2_ n3_ n4_ n5_ n6_ n7_ n8_ n9_ n10_ n11_ n12_ n13_ n14_ n15_ n16_; (try clear hb); (try clear hb2); (try clear hk); (try clear hi); (try clear ho0); obtain ⟨Ao160, co160, eo160⟩ := Kd.V_slice HO178.out; subst eo160) | ((with_reducible refine gate_callee (f := 12) rfl ?_); refine goesL_ (some 68) rfl rfl Try.func12 (by kernel_rfl) rfl #[.agg #[.int .i64 3, .slice Ao158 t173.length co158], .slice Ao160 t176.length co160, .slice (some ⟨go19, 0, none⟩) y172.length co130, .slice none 0 0] rfl (by (try simp only [mT_, mC_, mN_]); first | done | (rw [show y172.length = y126.length from (Kd.N_reads' HO128.out).1.symm] <;> rfl) | rfl | (simp only [lD_, lT_]; rfl)) ?_; (refine (rival_Judge.calls 3 _ _ t173 _ _ t176 _ _ y172 _ _ ([] : List (S24)) t179 t180 _ ?side1 ?side2 ?side3 ?side4 ?side5 ?side6 ?side7 ?side8 A22.out).mono ?_); (case side1 => repeat (first | exact (Kd.V_reads' HO175.out).2.2 | (with_reducible first | refine kA_ ?_ _ | refine kN_ ?_ _ | refine kD_ ?_))); (case side2 => exact (Kd.V_reads' HO175.out).2.1); (case side3 => repeat (first | exact (Kd.V_reads' HO178.out).2.2 | (with_reducible first | refine kA_ ?_ _ | refine kN_ ?_ _ | refine kD_ ?_))); (case side4 => exact (Kd.V_reads' HO178.out).2.1); (case side5 => repeat (first | exact (Kd.N_reads' HO128.out).2.2 | (with_reducible first | refine kA_ ?_ _ | refine kN_ ?_ _ | refine kD_ ?_))); (case side6 => rw [show y172.length = y126.length from (Kd.N_reads' HO128.out).1.symm]; exact (Kd.N_reads' HO128.out).2.1); (case side7 => exact Kd.C_nil _ _); (case side8 => exact Nat.le_refl _); rintro e w161 ⟨rfl, hb⟩; refine ⟨_, rfl, ?_⟩; have n0_ := m0_ (Kd.V_below (by (with_reducible repeat (first | apply vA_ | apply vN_ | apply vD_)); exact HO122.out) hb); have n1_ := m0_ (Kd.V_below (by (with_reducible repeat (first | apply vA_ | apply vN_ | apply vD_)); exact HO125.out) hb); have n2_ := m0_ (Kd.N_below (by (with_reducible repeat (first | apply Kd.N_alloc | apply Kd.N_drewN | apply Kd.N_drew)); exact HO128.out) hb); have n3_ := m0_ (Kd.V_below (by (with_reducible repeat (first | apply vA_ | apply vN_ | apply vD_)); exact HO131.out) hb); have n4_ := m0_ (Kd.V_below (by (with_reducible repeat (first | apply vA_ | apply vN_ | apply vD_)); exact HO134.out) hb); have n5_ := m0_ (Kd.V_below (by (with_reducible repeat (first | apply vA_ | apply vN_ | apply vD_)); exact HO139.out) hb); have n6_ := m0_ (Kd.V_below (by (with_reducible repeat (first | apply vA_ | apply vN_ | apply vD_)); exact HO142.out) hb); have n7_ := m0_ (Kd.V_below (by (with_reducible repeat (first | apply vA_ | apply vN_ | apply vD_)); exact HO147.out) hb); have n8_ := m0_ (Kd.V_below (by (with_reducible repeat (first | apply vA_ | apply vN_ | apply vD_)); exact HO152.out) hb); have n9_ := m0_ (Kd.V_below (by (with_reducible repeat (first | apply vA_ | apply vN_ | apply vD_)); exact HO155.out) hb); have n10_ := m0_ (Kd.V_below (by (with_reducible repeat (first | apply vA_ | apply vN_ | apply vD_)); exact HO160.out) hb); have n11_ := m0_ (Kd.V_below (by (with_reducible repeat (first | apply vA_ | apply vN_ | apply vD_)); exact HO163.out) hb); have n12_ := m0_ (Kd.V_below (by (with_reducible repeat (first | apply vA_ | apply vN_ | apply vD_)); exact HO166.out) hb); have n13_ := m0_ (Kd.N_below (by (with_reducible repeat (first | apply Kd.N_alloc | apply Kd.N_drewN | apply Kd.N_drew)); exact HO169.out) hb); have n14_ := m0_ (Kd.V_below (by (with_reducible repeat (first | apply vA_ | apply vN_ | apply vD_)); exact HO175.out) hb); have n15_ := m0_ (Kd.V_below (by (with_reducible repeat (first | apply vA_ | apply vN_ | apply vD_)); exact HO178.out) hb); have n16_ := m0_ (below_step (by repeat (first | (with_reducible first | exact HB.out | apply bA_ | apply dN_ | apply b1_) | exact HB.out)) hb); clear HO122; clear HO125; clear HO128; clear HO131; clear HO134; clear HO139; clear HO142; clear HO147; clear HO152; clear HO155; clear HO160; clear HO163; clear HO166; clear HO169; clear HO175; clear HO178; clear HB; have HO122 := n0_; have HO125 := n1_; have HO128 := n2_; have HO131 := n3_; have HO134 := n4_; have HO139 := n5_; have HO142 := n6_; have HO147 := n7_; have HO152 := n8_; have HO155 := n9_; have HO160 := n10_; have HO163 := n11_; have HO166 := n12_; have HO169 := n13_; have HO175 := n14_; have HO178 := n15_; have HB := n16_; clear n0_ n1_ n2_ n3_ n4_ n5_ n6_ n7_ n8_ n9_ n10_ n11_ n12_ n13_ n14_ n15_ n16_; (try clear hb); (try clear hb2); (try clear hk); (try clear hi)) | (go_at_call 15; refine calls_of_args (args' := #[.int .i64 3, .slice (some ⟨go19, 0, none⟩) y172.length co130]) (by first | (rw [show y172.length = y126.length from (Kd.N_reads' HO128.out).1.symm] <;> rfl) | rfl) ?_; (with_reducible refine (rival_Meets.calls 3 _ _ y172 t181 _ ?side1 ?side2 A116.out).mono ?_); (case side1 => repeat (first | exact (Kd.N_reads' HO128.out).2.2 | (with_reducible first | refine kA_ ?_ _ | refine kN_ ?_ _ | refine kD_ ?_))); (case side2 => rw [show y172.length = y126.length from (Kd.N_reads' HO128.out).1.symm]; exact (Kd.N_reads' HO128.out).2.1); rintro e w162 ⟨v182, rfl, ho0, hb⟩; have n0_ := m0_ (Kd.V_below (by (with_reducible repeat (first | apply vA_ | apply vN_ | apply vD_)); exact HO122.out) hb); have n1_ := m0_ (Kd.V_below (by (with_reducible repeat (first | apply vA_ | apply vN_ | apply vD_)); exact HO125.out) hb); have n2_ := m0_ (Kd.N_below (by (with_reducible repeat (first | apply Kd.N_alloc | apply Kd.N_drewN | apply Kd.N_drew)); exact HO128.out) hb); have n3_ := m0_ (Kd.V_below (by (with_reducible repeat (first | apply vA_ | apply vN_ | apply vD_)); exact HO131.out) hb); have n4_ := m0_ (Kd.V_below (by (with_reducible repeat (first | apply vA_ | apply vN_ | apply vD_)); exact HO134.out) hb); have n5_ := m0_ (Kd.V_below (by (with_reducible repeat (first | apply vA_ | apply vN_ | apply vD_)); exact HO139.out) hb); have n6_ := m0_ (Kd.V_below (by (with_reducible repeat (first | apply vA_ | apply vN_ | apply vD_)); exact HO142.out) hb); have n7_ := m0_ (Kd.V_below (by (with_reducible repeat (first | apply vA_ | apply vN_ | apply vD_)); exact HO147.out) hb); have n8_ := m0_ (Kd.V_below (by (with_reducible repeat (first | apply vA_ | apply vN_ | apply vD_)); exact HO152.out) hb); have n9_ := m0_ (Kd.V_below (by (with_reducible repeat (first | apply vA_ | apply vN_ | apply vD_)); exact HO155.out) hb); have n10_ := m0_ (Kd.V_below (by (with_reducible repeat (first | apply vA_ | apply vN_ | apply vD_)); exact HO160.out) hb); have n11_ := m0_ (Kd.V_below (by (with_reducible repeat (first | apply vA_ | apply vN_ | apply vD_)); exact HO163.out) hb); have n12_ := m0_ (Kd.V_below (by (with_reducible repeat (first | apply vA_ | apply vN_ | apply vD_)); exact HO166.out) hb); have n13_ := m0_ (Kd.N_below (by (with_reducible repeat (first | apply Kd.N_alloc | apply Kd.N_drewN | apply Kd.N_drew)); exact HO169.out) hb); have n14_ := m0_ (Kd.V_below (by (with_reducible repeat (first | apply vA_ | apply vN_ | apply vD_)); exact HO175.out) hb); have n15_ := m0_ (Kd.V_below (by (with_reducible repeat (first | apply vA_ | apply vN_ | apply vD_)); exact HO178.out) hb); have n16_ := m0_ (Kd.V_lower (Kd.V_mono (ok' := fun k_ => some k_ ≠ (.slice (some ⟨go19, 0, none⟩) y126.length co130 : Value).ownBlock ∧ some k_ ≠ (.slice Ao153 y167.length co153 : Value).ownBlock) ho0 (fun k_ hk_ => ⟨(Kd.fresh' (Kd.N_lt (by (with_reducible repeat (first | apply Kd.N_alloc | apply Kd.N_drewN | apply Kd.N_drew)); exact HO128.out)) k_ hk_), (Kd.fresh' (Kd.N_lt (by (with_reducible repeat (first | apply Kd.N_alloc | apply Kd.N_drewN | apply Kd.N_drew)); exact HO169.out)) k_ hk_)⟩)) (below_size (by repeat (first | (with_reducible first | exact HB.out | apply bA_ | apply dN_ | apply b1_) | exact HB.out)))); have n17_ := m0_ (below_step (by repeat (first | (with_reducible first | exact HB.out | apply bA_ | apply dN_ | apply b1_) | exact HB.out)) hb); clear HO122; clear HO125; clear HO128; clear HO131; clear HO134; clear HO139; clear HO142; clear HO147; clear HO152; clear HO155; clear HO160; clear HO163; clear HO166; clear HO169; clear HO175; clear HO178; clear HB; have HO122 := n0_; have HO125 := n1_; have HO128 := n2_; have HO131 := n3_; have HO134 := n4_; have HO139 := n5_; have HO142 := n6_; have HO147 := n7_; have HO152 := n8_; have HO155 := n9_; have HO160 := n10_; have HO163 := n11_; have HO166 := n12_; have HO169 := n13_; have HO175 := n14_; have HO178 := n15_; have HO183 := n16_; have HB := n17_; clear n0_ n1_ n2_ n3_ n4_ n5_ n6_ n7_ n8_ n9_ n10_ n11_ n12_ n13_ n14_ n15_ n16_ n17_; (try clear hb); (try clear hb2); (try clear hk); (try clear hi); (try clear ho0); obtain ⟨Ao163, co163, eo163⟩ := Kd.V_slice HO183.out; subst eo163) | (go_at_call 15; refine calls_of_args (args' := #[.int .i64 4, .slice (some ⟨go19, 0, none⟩) y172.length co130]) (by first | (rw [show y172.length = y126.length from (Kd.N_reads' HO128.out).1.symm] <;> rfl) | rfl) ?_; (with_reducible refine (rival_Meets.calls 4 _ _ y172 t184 _ ?side1 ?side2 A118.out).mono ?_); (case side1 => repeat (first | exact (Kd.N_reads' HO128.out).2.2 | (with_reducible first | refine kA_ ?_ _ | refine kN_ ?_ _ | refine kD_ ?_))); (case side2 => rw [show y172.length = y126.length from (Kd.N_reads' HO128.out).1.symm]; exact (Kd.N_reads' HO128.out).2.1); rintro e w164 ⟨v185, rfl, ho0, hb⟩; have n0_ := m0_ (Kd.V_below (by (with_reducible repeat (first | apply vA_ | apply vN_ | apply vD_)); exact HO122.out) hb); have n1_ := m0_ (Kd.V_below (by (with_reducible repeat (first | apply vA_ | apply vN_ | apply vD_)); exact HO125.out) hb); have n2_ := m0_ (Kd.N_below (by (with_reducible repeat (first | apply Kd.N_alloc | apply Kd.N_drewN | apply Kd.N_drew)); exact HO128.out) hb); have n3_ := m0_ (Kd.V_below (by (with_reducible repeat (first | apply vA_ | apply vN_ | apply vD_)); exact HO131.out) hb); have n4_ := m0_ (Kd.V_below (by (with_reducible repeat (first | apply vA_ | apply vN_ | apply vD_)); exact HO134.out) hb); have n5_ := m0_ (Kd.V_below (by (with_reducible repeat (first | apply vA_ | apply vN_ | apply vD_)); exact HO139.out) hb); have n6_ := m0_ (Kd.V_below (by (with_reducible repeat (first | apply vA_ | apply vN_ | apply vD_)); exact HO142.out) hb); have n7_ := m0_ (Kd.V_below (by (with_reducible repeat (first | apply vA_ | apply vN_ | apply vD_)); exact HO147.out) hb); have n8_ := m0_ (Kd.V_below (by (with_reducible repeat (first | apply vA_ | apply vN_ | apply vD_)); exact HO152.out) hb); have n9_ := m0_ (Kd.V_below (by (with_reducible repeat (first | apply vA_ | apply vN_ | apply vD_)); exact HO155.out) hb); have n10_ := m0_ (Kd.V_below (by (with_reducible repeat (first | apply vA_ | apply vN_ | apply vD_)); exact HO160.out) hb); have n11_ := m0_ (Kd.V_below (by (with_reducible repeat (first | apply vA_ | apply vN_ | apply vD_)); exact HO163.out) hb); have n12_ := m0_ (Kd.V_below (by (with_reducible repeat (first | apply vA_ | apply vN_ | apply vD_)); exact HO166.out) hb); have n13_ := m0_ (Kd.N_below (by (with_reducible repeat (first | apply Kd.N_alloc | apply Kd.N_drewN | apply Kd.N_drew)); exact HO169.out) hb); have n14_ := m0_ (Kd.V_below (by (with_reducible repeat (first | apply vA_ | apply vN_ | apply vD_)); exact HO175.out) hb); have n15_ := m0_ (Kd.V_below (by (with_reducible repeat (first | apply vA_ | apply vN_ | apply vD_)); exact HO178.out) hb); have n16_ := m0_ (Kd.V_below (by (with_reducible repeat (first | apply vA_ | apply vN_ | apply vD_)); exact HO183.out) hb); have n17_ := m0_ (Kd.V_lower (Kd.V_mono (ok' := fun k_ => some k_ ≠ (.slice (some ⟨go19, 0, none⟩) y126.length co130 : Value).ownBlock ∧ some k_ ≠ (.slice Ao153 y167.length co153 : Value).ownBlock) ho0 (fun k_ hk_ => ⟨(Kd.fresh' (Kd.N_lt (by (with_reducible repeat (first | apply Kd.N_alloc | apply Kd.N_drewN | apply Kd.N_drew)); exact HO128.out)) k_ hk_), (Kd.fresh' (Kd.N_lt (by (with_reducible repeat (first | apply Kd.N_alloc | apply Kd.N_drewN | apply Kd.N_drew)); exact HO169.out)) k_ hk_)⟩)) (below_size (by repeat (first | (with_reducible first | exact HB.out | apply bA_ | apply dN_ | apply b1_) | exact HB.out)))); have n18_ := m0_ (below_step (by repeat (first | (with_reducible first | exact HB.out | apply bA_ | apply dN_ | apply b1_) | exact HB.out)) hb); clear HO122; clear HO125; clear HO128; clear HO131; clear HO134; clear HO139; clear HO142; clear HO147; clear HO152; clear HO155; clear HO160; clear HO163; clear HO166; clear HO169; clear HO175; clear HO178; clear HO183; clear HB; have HO122 := n0_; have HO125 := n1_; have HO128 := n2_; have HO131 := n3_; have HO134 := n4_; have HO139 := n5_; have HO142 := n6_; have HO147 := n7_; have HO152 := n8_; have HO155 := n9_; have HO160 := n10_; have HO163 := n11_; have HO166 := n12_; have HO169 := n13_; have HO175 := n14_; have HO178 := n15_; have HO183 := n16_; have HO186 := n17_; have HB := n18_; clear n0_ n1_ n2_ n3_ n4_ n5_ n6_ n7_ n8_ n9_ n10_ n11_ n12_ n13_ n14_ n15_ n16_ n17_ n18_; (try clear hb); (try clear hb2); (try clear hk); (try clear hi); (try clear ho0); obtain ⟨Ao165, co165, eo165⟩ := Kd.V_slice HO186.out; subst eo165))
                         go_ret
                         exact ⟨by first | rfl | (simp [errW_none, errW_some] <;> rfl) | (simp [*, errW_none, errW_some] <;> rfl), by repeat (first | (with_reducible first | exact HB.out | apply bA_ | apply dN_ | apply b1_) | exact HB.out)⟩
                       · rw [if_neg c119] at H
                         rw [HTr_] at H
                         exact absurd (sO_ H) (by decide)
                     · rw [if_neg c117] at H
                       rw [HTr_] at H
                       exact absurd (sO_ H) (by decide)
                   · rw [if_neg c115] at H
                     rw [HTr_] at H
                     exact absurd (sO_ H) (by decide)
                 · rw [if_neg c114] at H
                   rw [HTr_] at H
                   exact absurd (sO_ H) (by decide)
               · rw [if_neg c113] at H
                 rw [HTr_] at H
                 exact absurd (sO_ H) (by decide)
           · rw [if_neg c69] at H
             rw [HTr_] at H
             exact absurd (sO_ H) (by decide)
         · rw [if_neg c68] at H
           rw [HTr_] at H
           exact absurd (sO_ H) (by decide)
       · replace c67 := Bool.eq_false_iff.mpr c67
         subst c67
         have H1 : (some false) = some r := by rw [if_neg (show ¬ (false = true) by decide)] at H; exact H
         rw [HTr_] at H1
         exact absurd (sO_ H1) (by decide)
     · rw [if_neg c66] at H
       rw [HTr_] at H
       exact absurd (sO_ H) (by decide)
 · rw [if_neg c18] at H
   exact absurd H (by simp)
theorem banksmanlaw14_awake.calls  (r : Bool) (w : World) (h : banksmanlaw14_awake.f  = some r) :
 Calls Try.prog 8 #[] w fun e w' => e = .returned (.bool r) ∧ Below w.heap.size w w' := banksmanlaw14_awake.calls1 r w h (banksmanlaw14_awake.true_ r h)
mutual
def banksmanref08_Few.j0 : Nat → Bool → List (S59) → List Int → Option (Bool)
 | 0, _, _, _ => none
 | k + 1, x13, x190000, x190001 => if x13 = true then (some false) else (banksmanref08_Few.l0 k 0 x190000 x190001)
def banksmanref08_Few.l0 : Nat → Int → List (S59) → List Int → Option (Bool)
 | 0, _, _, _ => none
 | k + 1, x3, x190000, x190001 => if x3 < (x190000.length : Int) then (if 0 ≤ x3 then (if (((rd_T59 x190000 x3).f1).length : Int) > 100 then (some false) else (if (((rd_T59 x190000 x3).f3).length : Int) > 100 then (some false) else (banksmanref08_Few.l0 k (wrap64 (x3 + 1)) x190000 x190001))) else (none)) else (some true)
end
def banksmanref08_Few.f (k : Nat) (l0_0 : List (S59)) (l0_1 : List Int) : Option (Bool) := if (l0_0.length : Int) > 30 then (banksmanref08_Few.j0 k true l0_0 l0_1) else (banksmanref08_Few.j0 k (decide ((l0_1.length : Int) > 30)) l0_0 l0_1)
set_option maxHeartbeats 8000000 in
set_option maxRecDepth 100000 in
theorem banksmanref08_Few.calls (k : Nat) (A0_0 : Option Addr) (c0_0 : Nat) (l0_0 : List (S59)) (A0_1 : Option Addr) (c0_1 : Nat) (l0_1 : List Int) (r : Bool) (w : World) (hr0_0 : Kd.C k59 w A0_0 l0_0.length l0_0) (hc0_0 : l0_0.length ≤ c0_0) (hr0_1 : Kd.C (Kd.int .i64) w A0_1 l0_1.length l0_1) (hc0_1 : l0_1.length ≤ c0_1) (h : banksmanref08_Few.f k l0_0 l0_1 = some r) :
  Calls Try.prog 10 #[.agg #[.slice A0_0 l0_0.length c0_0, .slice A0_1 l0_1.length c0_1]] w fun e w' => e = .returned (.bool r) ∧ Below w.heap.size w w' := by
 have hu33 := Try.underlying33
 have HR0_0 := m0_ hr0_0
 have HC0_0 := m0_ hc0_0
 clear hr0_0 hc0_0
 have HR0_1 := m0_ hr0_1
 have HC0_1 := m0_ hc0_1
 clear hr0_1 hc0_1
 have HB := m0_ (Below.refl w.heap.size w)
 have H : (if (l0_0.length : Int) > 30 then (banksmanref08_Few.j0 k true l0_0 l0_1) else (banksmanref08_Few.j0 k (decide ((l0_1.length : Int) > 30)) l0_0 l0_1)) = some r := h
 clear h
 have HC2 := m0_ H
 clear H
 go_enter Try.func10, Try.ntmps10
 go_upto_region 1 with (first | ((with_reducible refine gate_dst (N := 1) rfl ?_); (try (refine gate_guard (by rfl) ?_; dsimp only)); refine box_event ?hg (N := 1) ?hd (cs := #[.slice A0_0 l0_0.length c0_0, .slice A0_1 l0_1.length c0_1]) (t := 33) ?hr ?_; (case hd => rfl); (case hg => rfl); (case hr => first | (go_simp; done) | (go_simp; rfl)); intro gb189 hg w3 hbox hb; have n0_ := m0_ (below_step (by repeat (first | (with_reducible first | exact HB.out | apply bA_ | apply dN_ | apply b1_) | exact HB.out)) hb); have n1_ := m0_ (hbox); have n2_ := m0_ ((by rw [hg]; exact (below_size (by repeat (first | (with_reducible first | exact HB.out | apply bA_ | apply dN_ | apply b1_) | exact HB.out))) : w.heap.size ≤ gb189)); have n3_ := m0_ ((by rw [hg]; exact (below_size (by repeat (first | (with_reducible first | exact HB.out | apply bA_ | apply dN_ | apply b1_) | exact HB.out))) : w.heap.size ≤ gb189)); clear HB; have HB := n0_; have BK189 := n1_; have GW189 := n2_; have GE189 := n3_; clear n0_ n1_ n2_ n3_; clear hb hbox hg))
 (try simp only [Act.put, sI_, sZ_, sS_])
 go_cut [13] (fun v13 wc => ∃ (kq : Nat) (x13_1 : Bool), v13 = .bool x13_1 ∧ Aside0 (banksmanref08_Few.j0 kq x13_1 l0_0 l0_1 = some r) ∧ Aside0 (kq ≤ k) ∧ Aside0 (wc.heap[gb189]? = some (.cells #[(.slice A0_0 l0_0.length c0_0), (.slice A0_1 l0_1.length c0_1)] 33 (0, 0))) ∧ Aside0 (Below w.heap.size w wc))
 case first =>
  have H := HC2.out
  clear HC2
  by_cases c4 : (l0_0.length : Int) > 30
  · rw [if_pos c4] at H
    have c4b0 : decide (30 < (l0_0.length : Int)) = true := decide_eq_true c4
    have c4b1 : decide (30 < l0_0.length) = true := decide_eq_true (by omega)
    clear c4
    (first | rw [c4b0] | (simp only [i64_w, i32_w]; rw [c4b0]) | skip)
    have H' := m0_ H
    clear H
    have hcz5_0 : w3.cell? ⟨gb189, 0, none⟩ = some (.slice A0_0 l0_0.length c0_0) := (blk_cell BK189.out 0).trans rfl
    have hcz5_1 : w3.cell? ⟨gb189, 1, none⟩ = some (.slice A0_1 l0_1.length c0_1) := (blk_cell BK189.out 1).trans rfl
    have hfz5_0 := bf_ BK189.out 0
    have hfz5_1 := bf_ BK189.out 1
    go_wp2
    go_meet
    case rel => exact ⟨_, (true), (by first | rfl | (simp; done) | (simp [*]; done)), H', ⟨by first | omega | exact Nat.le_refl _⟩, ⟨by (with_reducible repeat (first | refine blk_drewN ?_ _ | refine blk_drew ?_ | refine blk_alloc ?_ _)); exact BK189.out⟩, ⟨by repeat (first | (with_reducible first | exact HB.out | apply bA_ | apply dN_ | apply b1_ | refine below_set ?_ GE189.out) | exact HB.out)⟩⟩
  · rw [if_neg c4] at H
    have c4b0 : decide (30 < (l0_0.length : Int)) = false := decide_eq_false c4
    have c4b1 : decide (30 < l0_0.length) = false := decide_eq_false (by omega)
    clear c4
    (first | rw [c4b0] | (simp only [i64_w, i32_w]; rw [c4b0]) | skip)
    have H' := m0_ H
    clear H
    have hcz6_0 : w3.cell? ⟨gb189, 0, none⟩ = some (.slice A0_0 l0_0.length c0_0) := (blk_cell BK189.out 0).trans rfl
    have hcz6_1 : w3.cell? ⟨gb189, 1, none⟩ = some (.slice A0_1 l0_1.length c0_1) := (blk_cell BK189.out 1).trans rfl
    have hfz6_0 := bf_ BK189.out 0
    have hfz6_1 := bf_ BK189.out 1
    go_wp2
    go_meet
    case rel => exact ⟨_, (decide ((l0_1.length : Int) > 30)), (by first | rfl | (simp; done) | (simp [*]; done)), H', ⟨by first | omega | exact Nat.le_refl _⟩, ⟨by (with_reducible repeat (first | refine blk_drewN ?_ _ | refine blk_drew ?_ | refine blk_alloc ?_ _)); exact BK189.out⟩, ⟨by repeat (first | (with_reducible first | exact HB.out | apply bA_ | apply dN_ | apply b1_ | refine below_set ?_ GE189.out) | exact HB.out)⟩⟩
 case rest =>
  clear HC2
  try clear c1
  try clear p2
  try clear c4
  try clear c4b0
  try clear c4b1
  try clear hcz5_0
  try clear hcz5_1
  try clear hcz6_0
  try clear hcz6_1
  try clear hfz5_0
  try clear hfz5_1
  try clear hfz6_0
  try clear hfz6_1
  obtain ⟨kq, x13_1, rfl, HA, HJ1, BK189, HB⟩ := hcut
  cases kq with
  | zero => exact absurd HA.out (by simp [banksmanref08_Few.j0])
  | succ kj1 =>
    have H := HA.out
    clear HA
    simp only [banksmanref08_Few.j0] at H
    by_cases c7 : x13_1 = true
    · subst c7
      have H1 : (some false) = some r := by rw [if_pos rfl] at H; exact H
      clear H
      have H := H1
      clear H1
      obtain rfl := sO_ H
      go_wp2
      go_ret
      exact ⟨by first | rfl | (simp [errW_none, errW_some] <;> rfl) | (simp [*, errW_none, errW_some] <;> rfl), by repeat (first | (with_reducible first | exact HB.out | apply bA_ | apply dN_ | apply b1_ | refine below_set ?_ GE189.out) | exact HB.out)⟩
    · replace c7 := Bool.eq_false_iff.mpr c7
      subst c7
      have H1 : (banksmanref08_Few.l0 kj1 0 l0_0 l0_1) = some r := by rw [if_neg (show ¬ (false = true) by decide)] at H; exact H
      clear H
      have H := H1
      clear H1
      have H' := m0_ H
      clear H
      go_wp2
      go_loopg [3] kj1 (fun kq v3 w' => ∃ (x3_2 : Int), v3 = .int .i64 x3_2 ∧ Aside0 (banksmanref08_Few.l0 kq x3_2 l0_0 l0_1 = some r) ∧ Aside0 (kq ≤ kj1) ∧ Aside0 (w'.heap[gb189]? = some (.cells #[(.slice A0_0 l0_0.length c0_0), (.slice A0_1 l0_1.length c0_1)] 33 (0, 0))) ∧ Aside0 (Below w.heap.size w w'))
      case atStart => exact ⟨(0), (by first | rfl | (simp; done) | (simp [*]; done)), H', ⟨Nat.le_refl _⟩, ⟨by (with_reducible repeat (first | refine blk_drewN ?_ _ | refine blk_drew ?_ | refine blk_alloc ?_ _)); exact BK189.out⟩, ⟨by repeat (first | (with_reducible first | exact HB.out | apply bA_ | apply dN_ | apply b1_ | refine below_set ?_ GE189.out) | exact HB.out)⟩⟩
      case round =>
       clear H'
       try clear c1
       try clear p2
       try clear c4
       try clear c4b0
       try clear c4b1
       try clear c7
       try clear hcz5_0
       try clear hcz5_1
       try clear hcz6_0
       try clear hcz6_1
       try clear hfz5_0
       try clear hfz5_1
       try clear hfz6_0
       try clear hfz6_1
       try clear p2
       obtain ⟨x3_2, rfl, HA, HK2, BK189, HB⟩ := hrel
       cases gk with
       | zero => exact absurd HA.out (by simp [banksmanref08_Few.l0])
       | succ k2 =>
        have H := HA.out
        clear HA
        simp only [banksmanref08_Few.l0] at H
        by_cases c8 : x3_2 < (l0_0.length : Int)
        · rw [if_pos c8] at H
          have c8b0 : decide (x3_2 < (l0_0.length : Int)) = true := decide_eq_true c8
          clear c8
          by_cases c9 : 0 ≤ x3_2
          · rw [if_pos c9] at H
            have c9b0 : decide (0 ≤ x3_2) = true := decide_eq_true c9
            clear c9
            by_cases c10 : (((rd_T59 l0_0 x3_2).f1).length : Int) > 100
            · rw [if_pos c10] at H
              have c10b0 : decide (100 < (((rd_T59 l0_0 x3_2).f1).length : Int)) = true := decide_eq_true c10
              have c10b1 : decide (100 < ((rd_T59 l0_0 x3_2).f1).length) = true := decide_eq_true (by omega)
              clear c10
              obtain rfl := sO_ H
              have hcz11_0 : wr.cell? ⟨gb189, 0, none⟩ = some (.slice A0_0 l0_0.length c0_0) := (blk_cell BK189.out 0).trans rfl
              have hcz11_1 : wr.cell? ⟨gb189, 1, none⟩ = some (.slice A0_1 l0_1.length c0_1) := (blk_cell BK189.out 1).trans rfl
              have hfz11_0 := bf_ BK189.out 0
              have hfz11_1 := bf_ BK189.out 1
              have p190 : 0 ≤ (x3_2 : Int) := dT_
              have q190 : x3_2 < (l0_0.length : Int) := dT_
              obtain ⟨ad190, A190_1, c190_1, A190_3, c190_3, e190, hx190_0, hx190_1, hx190_2, hx190_3, hl190_1, hi190_1, hl190_3, hi190_3⟩ := at_T59 HR0_0.out x3_2 p190 q190
              cases e190
              replace hx190_0 := (HB.out.cell (bL_ w _ hx190_0)).trans hx190_0
              replace hx190_1 := (HB.out.cell (bL_ w _ hx190_1)).trans hx190_1
              replace hx190_2 := (HB.out.cell (bL_ w _ hx190_2)).trans hx190_2
              replace hx190_3 := (HB.out.cell (bL_ w _ hx190_3)).trans hx190_3
              have HR190_1 := m0_ hi190_1
              have HC190_1 := m0_ hl190_1
              clear hi190_1 hl190_1
              have HR190_3 := m0_ hi190_3
              have HC190_3 := m0_ hl190_3
              clear hi190_3 hl190_3
              replace p190 := eq_true p190
              replace q190 := eq_true q190
              go_wp2
              go_ret
              exact ⟨by first | rfl | (simp [errW_none, errW_some] <;> rfl) | (simp [*, errW_none, errW_some] <;> rfl), by repeat (first | (with_reducible first | exact HB.out | apply bA_ | apply dN_ | apply b1_ | refine below_set ?_ GE189.out) | exact HB.out)⟩
            · rw [if_neg c10] at H
              have c10b0 : decide (100 < (((rd_T59 l0_0 x3_2).f1).length : Int)) = false := decide_eq_false c10
              have c10b1 : decide (100 < ((rd_T59 l0_0 x3_2).f1).length) = false := decide_eq_false (by omega)
              clear c10
              by_cases c12 : (((rd_T59 l0_0 x3_2).f3).length : Int) > 100
              · rw [if_pos c12] at H
                have c12b0 : decide (100 < (((rd_T59 l0_0 x3_2).f3).length : Int)) = true := decide_eq_true c12
                have c12b1 : decide (100 < ((rd_T59 l0_0 x3_2).f3).length) = true := decide_eq_true (by omega)
                clear c12
                obtain rfl := sO_ H
                have hcz13_0 : wr.cell? ⟨gb189, 0, none⟩ = some (.slice A0_0 l0_0.length c0_0) := (blk_cell BK189.out 0).trans rfl
                have hcz13_1 : wr.cell? ⟨gb189, 1, none⟩ = some (.slice A0_1 l0_1.length c0_1) := (blk_cell BK189.out 1).trans rfl
                have hfz13_0 := bf_ BK189.out 0
                have hfz13_1 := bf_ BK189.out 1
                have p190 : 0 ≤ (x3_2 : Int) := dT_
                have q190 : x3_2 < (l0_0.length : Int) := dT_
                obtain ⟨ad190, A190_1, c190_1, A190_3, c190_3, e190, hx190_0, hx190_1, hx190_2, hx190_3, hl190_1, hi190_1, hl190_3, hi190_3⟩ := at_T59 HR0_0.out x3_2 p190 q190
                cases e190
                replace hx190_0 := (HB.out.cell (bL_ w _ hx190_0)).trans hx190_0
                replace hx190_1 := (HB.out.cell (bL_ w _ hx190_1)).trans hx190_1
                replace hx190_2 := (HB.out.cell (bL_ w _ hx190_2)).trans hx190_2
                replace hx190_3 := (HB.out.cell (bL_ w _ hx190_3)).trans hx190_3
                have HR190_1 := m0_ hi190_1
                have HC190_1 := m0_ hl190_1
                clear hi190_1 hl190_1
                have HR190_3 := m0_ hi190_3
                have HC190_3 := m0_ hl190_3
                clear hi190_3 hl190_3
                replace p190 := eq_true p190
                replace q190 := eq_true q190
                have p191 : 0 ≤ (x3_2 : Int) := dT_
                have q191 : x3_2 < (l0_0.length : Int) := dT_
                obtain ⟨ad191, A191_1, c191_1, A191_3, c191_3, e191, hx191_0, hx191_1, hx191_2, hx191_3, hl191_1, hi191_1, hl191_3, hi191_3⟩ := at_T59 HR0_0.out x3_2 p191 q191
                obtain rfl : ad190 = ad191 := (by injection e191)
                replace hx191_0 := (HB.out.cell (bL_ w _ hx191_0)).trans hx191_0
                replace hx191_1 := (HB.out.cell (bL_ w _ hx191_1)).trans hx191_1
                replace hx191_2 := (HB.out.cell (bL_ w _ hx191_2)).trans hx191_2
                replace hx191_3 := (HB.out.cell (bL_ w _ hx191_3)).trans hx191_3
                have HR191_1 := m0_ hi191_1
                have HC191_1 := m0_ hl191_1
                clear hi191_1 hl191_1
                have HR191_3 := m0_ hi191_3
                have HC191_3 := m0_ hl191_3
                clear hi191_3 hl191_3
                replace p191 := eq_true p191
                replace q191 := eq_true q191
                have ea_ := sO_ (hx190_1.symm.trans hx191_1)
                injection ea_ with ea_ en_ ec_
                subst ea_
                subst ec_
                clear en_
                have ea_ := sO_ (hx190_3.symm.trans hx191_3)
                injection ea_ with ea_ en_ ec_
                subst ea_
                subst ec_
                clear en_
                go_wp2
                go_ret
                exact ⟨by first | rfl | (simp [errW_none, errW_some] <;> rfl) | (simp [*, errW_none, errW_some] <;> rfl), by repeat (first | (with_reducible first | exact HB.out | apply bA_ | apply dN_ | apply b1_ | refine below_set ?_ GE189.out) | exact HB.out)⟩
              · rw [if_neg c12] at H
                have c12b0 : decide (100 < (((rd_T59 l0_0 x3_2).f3).length : Int)) = false := decide_eq_false c12
                have c12b1 : decide (100 < ((rd_T59 l0_0 x3_2).f3).length) = false := decide_eq_false (by omega)
                clear c12
                have H' := m0_ H
                clear H
                have hcz14_0 : wr.cell? ⟨gb189, 0, none⟩ = some (.slice A0_0 l0_0.length c0_0) := (blk_cell BK189.out 0).trans rfl
                have hcz14_1 : wr.cell? ⟨gb189, 1, none⟩ = some (.slice A0_1 l0_1.length c0_1) := (blk_cell BK189.out 1).trans rfl
                have hfz14_0 := bf_ BK189.out 0
                have hfz14_1 := bf_ BK189.out 1
                have p190 : 0 ≤ (x3_2 : Int) := dT_
                have q190 : x3_2 < (l0_0.length : Int) := dT_
                obtain ⟨ad190, A190_1, c190_1, A190_3, c190_3, e190, hx190_0, hx190_1, hx190_2, hx190_3, hl190_1, hi190_1, hl190_3, hi190_3⟩ := at_T59 HR0_0.out x3_2 p190 q190
                cases e190
                replace hx190_0 := (HB.out.cell (bL_ w _ hx190_0)).trans hx190_0
                replace hx190_1 := (HB.out.cell (bL_ w _ hx190_1)).trans hx190_1
                replace hx190_2 := (HB.out.cell (bL_ w _ hx190_2)).trans hx190_2
                replace hx190_3 := (HB.out.cell (bL_ w _ hx190_3)).trans hx190_3
                have HR190_1 := m0_ hi190_1
                have HC190_1 := m0_ hl190_1
                clear hi190_1 hl190_1
                have HR190_3 := m0_ hi190_3
                have HC190_3 := m0_ hl190_3
                clear hi190_3 hl190_3
                replace p190 := eq_true p190
                replace q190 := eq_true q190
                have p191 : 0 ≤ (x3_2 : Int) := dT_
                have q191 : x3_2 < (l0_0.length : Int) := dT_
                obtain ⟨ad191, A191_1, c191_1, A191_3, c191_3, e191, hx191_0, hx191_1, hx191_2, hx191_3, hl191_1, hi191_1, hl191_3, hi191_3⟩ := at_T59 HR0_0.out x3_2 p191 q191
                obtain rfl : ad190 = ad191 := (by injection e191)
                replace hx191_0 := (HB.out.cell (bL_ w _ hx191_0)).trans hx191_0
                replace hx191_1 := (HB.out.cell (bL_ w _ hx191_1)).trans hx191_1
                replace hx191_2 := (HB.out.cell (bL_ w _ hx191_2)).trans hx191_2
                replace hx191_3 := (HB.out.cell (bL_ w _ hx191_3)).trans hx191_3
                have HR191_1 := m0_ hi191_1
                have HC191_1 := m0_ hl191_1
                clear hi191_1 hl191_1
                have HR191_3 := m0_ hi191_3
                have HC191_3 := m0_ hl191_3
                clear hi191_3 hl191_3
                replace p191 := eq_true p191
                replace q191 := eq_true q191
                have ea_ := sO_ (hx190_1.symm.trans hx191_1)
                injection ea_ with ea_ en_ ec_
                subst ea_
                subst ec_
                clear en_
                have ea_ := sO_ (hx190_3.symm.trans hx191_3)
                injection ea_ with ea_ en_ ec_
                subst ea_
                subst ec_
                clear en_
                go_wp2
                go_roundg k2
                case measure => have := HJ1.out; have := HK2.out; omega
                case rel => exact ⟨(wrap64 (x3_2 + 1)), (by first | rfl | (simp; done) | (simp [*]; done)), H', ⟨by have := HJ1.out; have := HK2.out; omega⟩, ⟨by (with_reducible repeat (first | refine blk_drewN ?_ _ | refine blk_drew ?_ | refine blk_alloc ?_ _)); exact BK189.out⟩, ⟨by repeat (first | (with_reducible first | exact HB.out | apply bA_ | apply dN_ | apply b1_ | refine below_set ?_ GE189.out) | exact HB.out)⟩⟩
          · rw [if_neg c9] at H
            exact absurd H (by simp)
        · rw [if_neg c8] at H
          have c8b0 : decide (x3_2 < (l0_0.length : Int)) = false := decide_eq_false c8
          clear c8
          obtain rfl := sO_ H
          have hcz15_0 : wr.cell? ⟨gb189, 0, none⟩ = some (.slice A0_0 l0_0.length c0_0) := (blk_cell BK189.out 0).trans rfl
          have hcz15_1 : wr.cell? ⟨gb189, 1, none⟩ = some (.slice A0_1 l0_1.length c0_1) := (blk_cell BK189.out 1).trans rfl
          have hfz15_0 := bf_ BK189.out 0
          have hfz15_1 := bf_ BK189.out 1
          go_wp2
          go_ret
          exact ⟨by first | rfl | (simp [errW_none, errW_some] <;> rfl) | (simp [*, errW_none, errW_some] <;> rfl), by repeat (first | (with_reducible first | exact HB.out | apply bA_ | apply dN_ | apply b1_ | refine below_set ?_ GE189.out) | exact HB.out)⟩
mutual
def banksmanref13_Few.j0 : Nat → List (S50) → List (S24) → Bool → Option (Bool)
 | 0, _, _, _ => none
 | k + 1, x0, x1, x17 => if x17 = true then (some false) else (banksmanref13_Few.l0 k x0 x1 0)
def banksmanref13_Few.l0 : Nat → List (S50) → List (S24) → Int → Option (Bool)
 | 0, _, _, _ => none
 | k + 1, x0, x1, x5 => if x5 < (x0.length : Int) then (if 0 ≤ x5 then ((banksmanref10_Few.f k ((rd_T50 x0 x5).f3)).bind fun t193 => ((banksmanref08_Few.f k ((rd_T50 x0 x5).f4) ([] : List Int)).bind fun t195 => (if t193 = true then (if t195 = true then (if (((rd_T50 x0 x5).f3).length : Int) > 30 then (some false) else (banksmanref13_Few.l0 k x0 x1 (wrap64 (x5 + 1)))) else (some false)) else (some false)))) else (none)) else (banksmanref13_Few.l1 k x1 0)
def banksmanref13_Few.l1 : Nat → List (S24) → Int → Option (Bool)
 | 0, _, _ => none
 | k + 1, x1, x8 => if x8 < (x1.length : Int) then (if 0 ≤ x8 then ((banksmanref10_Few.f k ((rd_T24 x1 x8).f1)).bind fun t198 => (if t198 = true then (if (((rd_T24 x1 x8).f1).length : Int) > 30 then (some false) else (banksmanref13_Few.l1 k x1 (wrap64 (x8 + 1)))) else (some false))) else (none)) else (some true)
end
def banksmanref13_Few.f (k : Nat) (l0 : List (S50)) (l1 : List (S24)) : Option (Bool) := if (l0.length : Int) > 30 then (banksmanref13_Few.j0 k l0 l1 true) else (banksmanref13_Few.j0 k l0 l1 (decide ((l1.length : Int) > 30)))
set_option maxHeartbeats 8000000 in
set_option maxRecDepth 100000 in
theorem banksmanref13_Few.calls (k : Nat) (A0 : Option Addr) (c0 : Nat) (l0 : List (S50)) (A1 : Option Addr) (c1 : Nat) (l1 : List (S24)) (r : Bool) (w : World) (hr0 : Kd.C k50 w A0 l0.length l0) (hc0 : l0.length ≤ c0) (hr1 : Kd.C k24 w A1 l1.length l1) (hc1 : l1.length ≤ c1) (h : banksmanref13_Few.f k l0 l1 = some r) :
  Calls Try.prog 11 #[.slice A0 l0.length c0, .slice A1 l1.length c1] w fun e w' => e = .returned (.bool r) ∧ Below w.heap.size w w' := by
 have hu33 := Try.underlying33
 have HR0 := m0_ hr0
 have HC0 := m0_ hc0
 clear hr0 hc0
 have HR1 := m0_ hr1
 have HC1 := m0_ hc1
 clear hr1 hc1
 have HB := m0_ (Below.refl w.heap.size w)
 have H : (if (l0.length : Int) > 30 then (banksmanref13_Few.j0 k l0 l1 true) else (banksmanref13_Few.j0 k l0 l1 (decide ((l1.length : Int) > 30)))) = some r := h
 clear h
 have HC3 := m0_ H
 clear H
 go_enter Try.func11, Try.ntmps11
 go_upto_region 1 with (fail)
 go_cut [17] (fun v17 wc => ∃ (kq : Nat) (x17_2 : Bool), v17 = .bool x17_2 ∧ Aside0 (banksmanref13_Few.j0 kq l0 l1 x17_2 = some r) ∧ Aside0 (kq ≤ k) ∧ Aside0 (Below w.heap.size w wc))
 case first =>
  have H := HC3.out
  clear HC3
  by_cases c4 : (l0.length : Int) > 30
  · rw [if_pos c4] at H
    have c4b0 : decide (30 < (l0.length : Int)) = true := decide_eq_true c4
    have c4b1 : decide (30 < l0.length) = true := decide_eq_true (by omega)
    clear c4
    (first | rw [c4b0] | (simp only [i64_w, i32_w]; rw [c4b0]) | skip)
    have H' := m0_ H
    clear H
    go_wp2
    go_meet
    case rel => exact ⟨_, (true), (by first | rfl | (simp; done) | (simp [*]; done)), H', ⟨by first | omega | exact Nat.le_refl _⟩, ⟨by repeat (first | (with_reducible first | exact HB.out | apply bA_ | apply dN_ | apply b1_) | exact HB.out)⟩⟩
  · rw [if_neg c4] at H
    have c4b0 : decide (30 < (l0.length : Int)) = false := decide_eq_false c4
    have c4b1 : decide (30 < l0.length) = false := decide_eq_false (by omega)
    clear c4
    (first | rw [c4b0] | (simp only [i64_w, i32_w]; rw [c4b0]) | skip)
    have H' := m0_ H
    clear H
    go_wp2
    go_meet
    case rel => exact ⟨_, (decide ((l1.length : Int) > 30)), (by first | rfl | (simp; done) | (simp [*]; done)), H', ⟨by first | omega | exact Nat.le_refl _⟩, ⟨by repeat (first | (with_reducible first | exact HB.out | apply bA_ | apply dN_ | apply b1_) | exact HB.out)⟩⟩
 case rest =>
  clear HC3
  try clear c1
  try clear p2
  try clear c4
  try clear c4b0
  try clear c4b1
  obtain ⟨kq, x17_2, rfl, HA, HJ2, HB⟩ := hcut
  cases kq with
  | zero => exact absurd HA.out (by simp [banksmanref13_Few.j0])
  | succ kj2 =>
    have H := HA.out
    clear HA
    simp only [banksmanref13_Few.j0] at H
    by_cases c5 : x17_2 = true
    · subst c5
      have H1 : (some false) = some r := by rw [if_pos rfl] at H; exact H
      clear H
      have H := H1
      clear H1
      obtain rfl := sO_ H
      go_wp2
      go_ret
      exact ⟨by first | rfl | (simp [errW_none, errW_some] <;> rfl) | (simp [*, errW_none, errW_some] <;> rfl), by repeat (first | (with_reducible first | exact HB.out | apply bA_ | apply dN_ | apply b1_) | exact HB.out)⟩
    · replace c5 := Bool.eq_false_iff.mpr c5
      subst c5
      have H1 : (banksmanref13_Few.l0 kj2 l0 l1 0) = some r := by rw [if_neg (show ¬ (false = true) by decide)] at H; exact H
      clear H
      have H := H1
      clear H1
      have H' := m0_ H
      clear H
      go_wp2
      go_loopg [5] kj2 (fun kq v5 w' => ∃ (x5_2 : Int), v5 = .int .i64 x5_2 ∧ Aside0 (banksmanref13_Few.l0 kq l0 l1 x5_2 = some r) ∧ Aside0 (kq ≤ kj2) ∧ Aside0 (Below w.heap.size w w'))
      case atStart => exact ⟨(0), (by first | rfl | (simp; done) | (simp [*]; done)), H', ⟨Nat.le_refl _⟩, ⟨by repeat (first | (with_reducible first | exact HB.out | apply bA_ | apply dN_ | apply b1_) | exact HB.out)⟩⟩
      case round =>
       clear H'
       try clear c1
       try clear p2
       try clear c4
       try clear c4b0
       try clear c4b1
       try clear c5
       try clear p2
       obtain ⟨x5_2, rfl, HA, HK2, HB⟩ := hrel
       cases gk with
       | zero => exact absurd HA.out (by simp [banksmanref13_Few.l0])
       | succ k2 =>
        have H := HA.out
        clear HA
        simp only [banksmanref13_Few.l0] at H
        by_cases c6 : x5_2 < (l0.length : Int)
        · rw [if_pos c6] at H
          have c6b0 : decide (x5_2 < (l0.length : Int)) = true := decide_eq_true c6
          clear c6
          by_cases c7 : 0 ≤ x5_2
          · rw [if_pos c7] at H
            have c7b0 : decide (0 ≤ x5_2) = true := decide_eq_true c7
            clear c7
            replace H := Option.bind_eq_some_iff.mp H
            obtain ⟨t193, A80, H⟩ := H
            replace H : ((banksmanref08_Few.f k2 ((rd_T50 l0 x5_2).f4) ([] : List Int)).bind fun t195 => (if t193 = true then (if t195 = true then (if (((rd_T50 l0 x5_2).f3).length : Int) > 30 then (some false) else (banksmanref13_Few.l0 k2 l0 l1 (wrap64 (x5_2 + 1)))) else (some false)) else (some false))) = some r := H
            have A8 := m0_ A80
            clear A80
            replace H := Option.bind_eq_some_iff.mp H
            obtain ⟨t195, A90, H⟩ := H
            replace H : (if t193 = true then (if t195 = true then (if (((rd_T50 l0 x5_2).f3).length : Int) > 30 then (some false) else (banksmanref13_Few.l0 k2 l0 l1 (wrap64 (x5_2 + 1)))) else (some false)) else (some false)) = some r := H
            have A9 := m0_ A90
            clear A90
            by_cases c10 : t193 = true
            · subst c10
              have H1 : (if t195 = true then (if (((rd_T50 l0 x5_2).f3).length : Int) > 30 then (some false) else (banksmanref13_Few.l0 k2 l0 l1 (wrap64 (x5_2 + 1)))) else (some false)) = some r := by rw [if_pos rfl] at H; exact H
              clear H
              have H := H1
              clear H1
              by_cases c11 : t195 = true
              · subst c11
                have H1 : (if (((rd_T50 l0 x5_2).f3).length : Int) > 30 then (some false) else (banksmanref13_Few.l0 k2 l0 l1 (wrap64 (x5_2 + 1)))) = some r := by rw [if_pos rfl] at H; exact H
                clear H
                have H := H1
                clear H1
                by_cases c12 : (((rd_T50 l0 x5_2).f3).length : Int) > 30
                · rw [if_pos c12] at H
                  have c12b0 : decide (30 < (((rd_T50 l0 x5_2).f3).length : Int)) = true := decide_eq_true c12
                  have c12b1 : decide (30 < ((rd_T50 l0 x5_2).f3).length) = true := decide_eq_true (by omega)
                  clear c12
                  obtain rfl := sO_ H
                  have p192 : 0 ≤ (x5_2 : Int) := dT_
                  have q192 : x5_2 < (l0.length : Int) := dT_
                  obtain ⟨ad192, A192_3, c192_3, A192_4, c192_4, e192, hx192_0, hx192_1, hx192_2, hx192_3, hx192_4, hx192_5, hl192_3, hi192_3, hl192_4, hi192_4⟩ := at_T50 HR0.out x5_2 p192 q192
                  cases e192
                  replace hx192_0 := (HB.out.cell (bL_ w _ hx192_0)).trans hx192_0
                  replace hx192_1 := (HB.out.cell (bL_ w _ hx192_1)).trans hx192_1
                  replace hx192_2 := (HB.out.cell (bL_ w _ hx192_2)).trans hx192_2
                  replace hx192_3 := (HB.out.cell (bL_ w _ hx192_3)).trans hx192_3
                  replace hx192_4 := (HB.out.cell (bL_ w _ hx192_4)).trans hx192_4
                  replace hx192_5 := (HB.out.cell (bL_ w _ hx192_5)).trans hx192_5
                  have HR192_3 := m0_ hi192_3
                  have HC192_3 := m0_ hl192_3
                  clear hi192_3 hl192_3
                  have HR192_4 := m0_ hi192_4
                  have HC192_4 := m0_ hl192_4
                  clear hi192_4 hl192_4
                  replace p192 := eq_true p192
                  replace q192 := eq_true q192
                  go_wp2_with (first | ((with_reducible refine gate_callee (f := 9) rfl ?_); refine goesL_ (some 29) rfl rfl Try.func9 (by kernel_rfl) rfl #[.slice A192_3 ((rd_T50 l0 x5_2).f3).length c192_3] rfl (by (try simp only [mT_, mC_, mN_]); first | done | rfl | (simp only [lD_, lT_]; rfl)) ?_; (with_reducible refine (banksmanref10_Few.calls k2 _ _ ((rd_T50 l0 x5_2).f3) true _ ?side1 ?side2 A8.out).mono ?_); (case side1 => repeat (first | exact (kB_ HR192_3.out HB.out) | (with_reducible first | refine kA_ ?_ _ | refine kN_ ?_ _ | refine kD_ ?_))); (case side2 => exact HC192_3.out); rintro e w' ⟨rfl, ⟨nd, rfl⟩⟩; refine ⟨_, rfl, ?_⟩; have p194 : 0 ≤ (x5_2 : Int) := dT_; have q194 : x5_2 < (l0.length : Int) := dT_; obtain ⟨ad194, A194_3, c194_3, A194_4, c194_4, e194, hx194_0, hx194_1, hx194_2, hx194_3, hx194_4, hx194_5, hl194_3, hi194_3, hl194_4, hi194_4⟩ := at_T50 HR0.out x5_2 p194 q194; obtain rfl : ad192 = ad194 := (by injection e194); replace hx194_0 := (HB.out.cell (bL_ w _ hx194_0)).trans hx194_0; replace hx194_1 := (HB.out.cell (bL_ w _ hx194_1)).trans hx194_1; replace hx194_2 := (HB.out.cell (bL_ w _ hx194_2)).trans hx194_2; replace hx194_3 := (HB.out.cell (bL_ w _ hx194_3)).trans hx194_3; replace hx194_4 := (HB.out.cell (bL_ w _ hx194_4)).trans hx194_4; replace hx194_5 := (HB.out.cell (bL_ w _ hx194_5)).trans hx194_5; have HR194_3 := m0_ hi194_3; have HC194_3 := m0_ hl194_3; clear hi194_3 hl194_3; have HR194_4 := m0_ hi194_4; have HC194_4 := m0_ hl194_4; clear hi194_4 hl194_4; replace p194 := eq_true p194; replace q194 := eq_true q194; have ea_ := sO_ (hx192_3.symm.trans hx194_3); injection ea_ with ea_ en_ ec_; subst ea_; subst ec_; clear en_; have ea_ := sO_ (hx192_4.symm.trans hx194_4); injection ea_ with ea_ en_ ec_; subst ea_; subst ec_; clear en_) | ((with_reducible refine gate_callee (f := 10) rfl ?_); refine goesL_ (some 36) rfl rfl Try.func10 (by kernel_rfl) rfl #[.agg #[.slice A192_4 ((rd_T50 l0 x5_2).f4).length c192_4, .slice none 0 0]] rfl (by (try simp only [mT_, mC_, mN_]); first | done | rfl | (simp only [lD_, lT_]; rfl)) ?_; (refine (banksmanref08_Few.calls k2 _ _ ((rd_T50 l0 x5_2).f4) _ _ ([] : List Int) true _ ?side1 ?side2 ?side3 ?side4 A9.out).mono ?_); (case side1 => repeat (first | exact (kB_ HR194_4.out (by repeat (first | (with_reducible first | exact HB.out | apply bA_ | apply dN_ | apply b1_) | exact HB.out))) | (with_reducible first | refine kA_ ?_ _ | refine kN_ ?_ _ | refine kD_ ?_))); (case side2 => exact HC194_4.out); (case side3 => exact Kd.C_nil _ _); (case side4 => exact Nat.le_refl _); rintro e w13 ⟨rfl, hb⟩; refine ⟨_, rfl, ?_⟩; have n0_ := m0_ (below_step (by repeat (first | (with_reducible first | exact HB.out | apply bA_ | apply dN_ | apply b1_) | exact HB.out)) hb); clear HB; have HB := n0_; clear n0_; (try clear hb); (try clear hb2); (try clear hk); (try clear hi); have p196 : 0 ≤ (x5_2 : Int) := dT_; have q196 : x5_2 < (l0.length : Int) := dT_; obtain ⟨ad196, A196_3, c196_3, A196_4, c196_4, e196, hx196_0, hx196_1, hx196_2, hx196_3, hx196_4, hx196_5, hl196_3, hi196_3, hl196_4, hi196_4⟩ := at_T50 HR0.out x5_2 p196 q196; obtain rfl : ad192 = ad196 := (by injection e196); replace hx196_0 := (HB.out.cell (bL_ w _ hx196_0)).trans hx196_0; replace hx196_1 := (HB.out.cell (bL_ w _ hx196_1)).trans hx196_1; replace hx196_2 := (HB.out.cell (bL_ w _ hx196_2)).trans hx196_2; replace hx196_3 := (HB.out.cell (bL_ w _ hx196_3)).trans hx196_3; replace hx196_4 := (HB.out.cell (bL_ w _ hx196_4)).trans hx196_4; replace hx196_5 := (HB.out.cell (bL_ w _ hx196_5)).trans hx196_5; have HR196_3 := m0_ hi196_3; have HC196_3 := m0_ hl196_3; clear hi196_3 hl196_3; have HR196_4 := m0_ hi196_4; have HC196_4 := m0_ hl196_4; clear hi196_4 hl196_4; replace p196 := eq_true p196; replace q196 := eq_true q196))
                  go_ret
                  exact ⟨by first | rfl | (simp [errW_none, errW_some] <;> rfl) | (simp [*, errW_none, errW_some] <;> rfl), by repeat (first | (with_reducible first | exact HB.out | apply bA_ | apply dN_ | apply b1_) | exact HB.out)⟩
                · rw [if_neg c12] at H
                  have c12b0 : decide (30 < (((rd_T50 l0 x5_2).f3).length : Int)) = false := decide_eq_false c12
                  have c12b1 : decide (30 < ((rd_T50 l0 x5_2).f3).length) = false := decide_eq_false (by omega)
                  clear c12
                  have H' := m0_ H
                  clear H
                  have p192 : 0 ≤ (x5_2 : Int) := dT_
                  have q192 : x5_2 < (l0.length : Int) := dT_
                  obtain ⟨ad192, A192_3, c192_3, A192_4, c192_4, e192, hx192_0, hx192_1, hx192_2, hx192_3, hx192_4, hx192_5, hl192_3, hi192_3, hl192_4, hi192_4⟩ := at_T50 HR0.out x5_2 p192 q192
                  cases e192
                  replace hx192_0 := (HB.out.cell (bL_ w _ hx192_0)).trans hx192_0
                  replace hx192_1 := (HB.out.cell (bL_ w _ hx192_1)).trans hx192_1
                  replace hx192_2 := (HB.out.cell (bL_ w _ hx192_2)).trans hx192_2
                  replace hx192_3 := (HB.out.cell (bL_ w _ hx192_3)).trans hx192_3
                  replace hx192_4 := (HB.out.cell (bL_ w _ hx192_4)).trans hx192_4
                  replace hx192_5 := (HB.out.cell (bL_ w _ hx192_5)).trans hx192_5
                  have HR192_3 := m0_ hi192_3
                  have HC192_3 := m0_ hl192_3
                  clear hi192_3 hl192_3
                  have HR192_4 := m0_ hi192_4
                  have HC192_4 := m0_ hl192_4
                  clear hi192_4 hl192_4
                  replace p192 := eq_true p192
                  replace q192 := eq_true q192
                  go_wp2_with (first | ((with_reducible refine gate_callee (f := 9) rfl ?_); refine goesL_ (some 29) rfl rfl Try.func9 (by kernel_rfl) rfl #[.slice A192_3 ((rd_T50 l0 x5_2).f3).length c192_3] rfl (by (try simp only [mT_, mC_, mN_]); first | done | rfl | (simp only [lD_, lT_]; rfl)) ?_; (with_reducible refine (banksmanref10_Few.calls k2 _ _ ((rd_T50 l0 x5_2).f3) true _ ?side1 ?side2 A8.out).mono ?_); (case side1 => repeat (first | exact (kB_ HR192_3.out HB.out) | (with_reducible first | refine kA_ ?_ _ | refine kN_ ?_ _ | refine kD_ ?_))); (case side2 => exact HC192_3.out); rintro e w' ⟨rfl, ⟨nd, rfl⟩⟩; refine ⟨_, rfl, ?_⟩; have p194 : 0 ≤ (x5_2 : Int) := dT_; have q194 : x5_2 < (l0.length : Int) := dT_; obtain ⟨ad194, A194_3, c194_3, A194_4, c194_4, e194, hx194_0, hx194_1, hx194_2, hx194_3, hx194_4, hx194_5, hl194_3, hi194_3, hl194_4, hi194_4⟩ := at_T50 HR0.out x5_2 p194 q194; obtain rfl : ad192 = ad194 := (by injection e194); replace hx194_0 := (HB.out.cell (bL_ w _ hx194_0)).trans hx194_0; replace hx194_1 := (HB.out.cell (bL_ w _ hx194_1)).trans hx194_1; replace hx194_2 := (HB.out.cell (bL_ w _ hx194_2)).trans hx194_2; replace hx194_3 := (HB.out.cell (bL_ w _ hx194_3)).trans hx194_3; replace hx194_4 := (HB.out.cell (bL_ w _ hx194_4)).trans hx194_4; replace hx194_5 := (HB.out.cell (bL_ w _ hx194_5)).trans hx194_5; have HR194_3 := m0_ hi194_3; have HC194_3 := m0_ hl194_3; clear hi194_3 hl194_3; have HR194_4 := m0_ hi194_4; have HC194_4 := m0_ hl194_4; clear hi194_4 hl194_4; replace p194 := eq_true p194; replace q194 := eq_true q194; have ea_ := sO_ (hx192_3.symm.trans hx194_3); injection ea_ with ea_ en_ ec_; subst ea_; subst ec_; clear en_; have ea_ := sO_ (hx192_4.symm.trans hx194_4); injection ea_ with ea_ en_ ec_; subst ea_; subst ec_; clear en_) | ((with_reducible refine gate_callee (f := 10) rfl ?_); refine goesL_ (some 36) rfl rfl Try.func10 (by kernel_rfl) rfl #[.agg #[.slice A192_4 ((rd_T50 l0 x5_2).f4).length c192_4, .slice none 0 0]] rfl (by (try simp only [mT_, mC_, mN_]); first | done | rfl | (simp only [lD_, lT_]; rfl)) ?_; (refine (banksmanref08_Few.calls k2 _ _ ((rd_T50 l0 x5_2).f4) _ _ ([] : List Int) true _ ?side1 ?side2 ?side3 ?side4 A9.out).mono ?_); (case side1 => repeat (first | exact (kB_ HR194_4.out (by repeat (first | (with_reducible first | exact HB.out | apply bA_ | apply dN_ | apply b1_) | exact HB.out))) | (with_reducible first | refine kA_ ?_ _ | refine kN_ ?_ _ | refine kD_ ?_))); (case side2 => exact HC194_4.out); (case side3 => exact Kd.C_nil _ _); (case side4 => exact Nat.le_refl _); rintro e w14 ⟨rfl, hb⟩; refine ⟨_, rfl, ?_⟩; have n0_ := m0_ (below_step (by repeat (first | (with_reducible first | exact HB.out | apply bA_ | apply dN_ | apply b1_) | exact HB.out)) hb); clear HB; have HB := n0_; clear n0_; (try clear hb); (try clear hb2); (try clear hk); (try clear hi); have p196 : 0 ≤ (x5_2 : Int) := dT_; have q196 : x5_2 < (l0.length : Int) := dT_; obtain ⟨ad196, A196_3, c196_3, A196_4, c196_4, e196, hx196_0, hx196_1, hx196_2, hx196_3, hx196_4, hx196_5, hl196_3, hi196_3, hl196_4, hi196_4⟩ := at_T50 HR0.out x5_2 p196 q196; obtain rfl : ad192 = ad196 := (by injection e196); replace hx196_0 := (HB.out.cell (bL_ w _ hx196_0)).trans hx196_0; replace hx196_1 := (HB.out.cell (bL_ w _ hx196_1)).trans hx196_1; replace hx196_2 := (HB.out.cell (bL_ w _ hx196_2)).trans hx196_2; replace hx196_3 := (HB.out.cell (bL_ w _ hx196_3)).trans hx196_3; replace hx196_4 := (HB.out.cell (bL_ w _ hx196_4)).trans hx196_4; replace hx196_5 := (HB.out.cell (bL_ w _ hx196_5)).trans hx196_5; have HR196_3 := m0_ hi196_3; have HC196_3 := m0_ hl196_3; clear hi196_3 hl196_3; have HR196_4 := m0_ hi196_4; have HC196_4 := m0_ hl196_4; clear hi196_4 hl196_4; replace p196 := eq_true p196; replace q196 := eq_true q196))
                  go_roundg k2
                  case measure => have := HJ2.out; have := HK2.out; omega
                  case rel => exact ⟨(wrap64 (x5_2 + 1)), (by first | rfl | (simp; done) | (simp [*]; done)), H', ⟨by have := HJ2.out; have := HK2.out; omega⟩, ⟨by repeat (first | (with_reducible first | exact HB.out | apply bA_ | apply dN_ | apply b1_) | exact HB.out)⟩⟩
              · replace c11 := Bool.eq_false_iff.mpr c11
                subst c11
                have H1 : (some false) = some r := by rw [if_neg (show ¬ (false = true) by decide)] at H; exact H
                clear H
                have H := H1
                clear H1
                obtain rfl := sO_ H
                have p192 : 0 ≤ (x5_2 : Int) := dT_
                have q192 : x5_2 < (l0.length : Int) := dT_
                obtain ⟨ad192, A192_3, c192_3, A192_4, c192_4, e192, hx192_0, hx192_1, hx192_2, hx192_3, hx192_4, hx192_5, hl192_3, hi192_3, hl192_4, hi192_4⟩ := at_T50 HR0.out x5_2 p192 q192
                cases e192
                replace hx192_0 := (HB.out.cell (bL_ w _ hx192_0)).trans hx192_0
                replace hx192_1 := (HB.out.cell (bL_ w _ hx192_1)).trans hx192_1
                replace hx192_2 := (HB.out.cell (bL_ w _ hx192_2)).trans hx192_2
                replace hx192_3 := (HB.out.cell (bL_ w _ hx192_3)).trans hx192_3
                replace hx192_4 := (HB.out.cell (bL_ w _ hx192_4)).trans hx192_4
                replace hx192_5 := (HB.out.cell (bL_ w _ hx192_5)).trans hx192_5
                have HR192_3 := m0_ hi192_3
                have HC192_3 := m0_ hl192_3
                clear hi192_3 hl192_3
                have HR192_4 := m0_ hi192_4
                have HC192_4 := m0_ hl192_4
                clear hi192_4 hl192_4
                replace p192 := eq_true p192
                replace q192 := eq_true q192
                go_wp2_with (first | ((with_reducible refine gate_callee (f := 9) rfl ?_); refine goesL_ (some 29) rfl rfl Try.func9 (by kernel_rfl) rfl #[.slice A192_3 ((rd_T50 l0 x5_2).f3).length c192_3] rfl (by (try simp only [mT_, mC_, mN_]); first | done | rfl | (simp only [lD_, lT_]; rfl)) ?_; (with_reducible refine (banksmanref10_Few.calls k2 _ _ ((rd_T50 l0 x5_2).f3) true _ ?side1 ?side2 A8.out).mono ?_); (case side1 => repeat (first | exact (kB_ HR192_3.out HB.out) | (with_reducible first | refine kA_ ?_ _ | refine kN_ ?_ _ | refine kD_ ?_))); (case side2 => exact HC192_3.out); rintro e w' ⟨rfl, ⟨nd, rfl⟩⟩; refine ⟨_, rfl, ?_⟩; have p194 : 0 ≤ (x5_2 : Int) := dT_; have q194 : x5_2 < (l0.length : Int) := dT_; obtain ⟨ad194, A194_3, c194_3, A194_4, c194_4, e194, hx194_0, hx194_1, hx194_2, hx194_3, hx194_4, hx194_5, hl194_3, hi194_3, hl194_4, hi194_4⟩ := at_T50 HR0.out x5_2 p194 q194; obtain rfl : ad192 = ad194 := (by injection e194); replace hx194_0 := (HB.out.cell (bL_ w _ hx194_0)).trans hx194_0; replace hx194_1 := (HB.out.cell (bL_ w _ hx194_1)).trans hx194_1; replace hx194_2 := (HB.out.cell (bL_ w _ hx194_2)).trans hx194_2; replace hx194_3 := (HB.out.cell (bL_ w _ hx194_3)).trans hx194_3; replace hx194_4 := (HB.out.cell (bL_ w _ hx194_4)).trans hx194_4; replace hx194_5 := (HB.out.cell (bL_ w _ hx194_5)).trans hx194_5; have HR194_3 := m0_ hi194_3; have HC194_3 := m0_ hl194_3; clear hi194_3 hl194_3; have HR194_4 := m0_ hi194_4; have HC194_4 := m0_ hl194_4; clear hi194_4 hl194_4; replace p194 := eq_true p194; replace q194 := eq_true q194; have ea_ := sO_ (hx192_3.symm.trans hx194_3); injection ea_ with ea_ en_ ec_; subst ea_; subst ec_; clear en_; have ea_ := sO_ (hx192_4.symm.trans hx194_4); injection ea_ with ea_ en_ ec_; subst ea_; subst ec_; clear en_) | ((with_reducible refine gate_callee (f := 10) rfl ?_); refine goesL_ (some 36) rfl rfl Try.func10 (by kernel_rfl) rfl #[.agg #[.slice A192_4 ((rd_T50 l0 x5_2).f4).length c192_4, .slice none 0 0]] rfl (by (try simp only [mT_, mC_, mN_]); first | done | rfl | (simp only [lD_, lT_]; rfl)) ?_; (refine (banksmanref08_Few.calls k2 _ _ ((rd_T50 l0 x5_2).f4) _ _ ([] : List Int) false _ ?side1 ?side2 ?side3 ?side4 A9.out).mono ?_); (case side1 => repeat (first | exact (kB_ HR194_4.out (by repeat (first | (with_reducible first | exact HB.out | apply bA_ | apply dN_ | apply b1_) | exact HB.out))) | (with_reducible first | refine kA_ ?_ _ | refine kN_ ?_ _ | refine kD_ ?_))); (case side2 => exact HC194_4.out); (case side3 => exact Kd.C_nil _ _); (case side4 => exact Nat.le_refl _); rintro e w15 ⟨rfl, hb⟩; refine ⟨_, rfl, ?_⟩; have n0_ := m0_ (below_step (by repeat (first | (with_reducible first | exact HB.out | apply bA_ | apply dN_ | apply b1_) | exact HB.out)) hb); clear HB; have HB := n0_; clear n0_; (try clear hb); (try clear hb2); (try clear hk); (try clear hi)))
                go_ret
                exact ⟨by first | rfl | (simp [errW_none, errW_some] <;> rfl) | (simp [*, errW_none, errW_some] <;> rfl), by repeat (first | (with_reducible first | exact HB.out | apply bA_ | apply dN_ | apply b1_) | exact HB.out)⟩
            · replace c10 := Bool.eq_false_iff.mpr c10
              subst c10
              have H1 : (some false) = some r := by rw [if_neg (show ¬ (false = true) by decide)] at H; exact H
              clear H
              have H := H1
              clear H1
              obtain rfl := sO_ H
              have p192 : 0 ≤ (x5_2 : Int) := dT_
              have q192 : x5_2 < (l0.length : Int) := dT_
              obtain ⟨ad192, A192_3, c192_3, A192_4, c192_4, e192, hx192_0, hx192_1, hx192_2, hx192_3, hx192_4, hx192_5, hl192_3, hi192_3, hl192_4, hi192_4⟩ := at_T50 HR0.out x5_2 p192 q192
              cases e192
              replace hx192_0 := (HB.out.cell (bL_ w _ hx192_0)).trans hx192_0
              replace hx192_1 := (HB.out.cell (bL_ w _ hx192_1)).trans hx192_1
              replace hx192_2 := (HB.out.cell (bL_ w _ hx192_2)).trans hx192_2
              replace hx192_3 := (HB.out.cell (bL_ w _ hx192_3)).trans hx192_3
              replace hx192_4 := (HB.out.cell (bL_ w _ hx192_4)).trans hx192_4
              replace hx192_5 := (HB.out.cell (bL_ w _ hx192_5)).trans hx192_5
              have HR192_3 := m0_ hi192_3
              have HC192_3 := m0_ hl192_3
              clear hi192_3 hl192_3
              have HR192_4 := m0_ hi192_4
              have HC192_4 := m0_ hl192_4
              clear hi192_4 hl192_4
              replace p192 := eq_true p192
              replace q192 := eq_true q192
              go_wp2_with (first | ((with_reducible refine gate_callee (f := 9) rfl ?_); refine goesL_ (some 29) rfl rfl Try.func9 (by kernel_rfl) rfl #[.slice A192_3 ((rd_T50 l0 x5_2).f3).length c192_3] rfl (by (try simp only [mT_, mC_, mN_]); first | done | rfl | (simp only [lD_, lT_]; rfl)) ?_; (with_reducible refine (banksmanref10_Few.calls k2 _ _ ((rd_T50 l0 x5_2).f3) false _ ?side1 ?side2 A8.out).mono ?_); (case side1 => repeat (first | exact (kB_ HR192_3.out HB.out) | (with_reducible first | refine kA_ ?_ _ | refine kN_ ?_ _ | refine kD_ ?_))); (case side2 => exact HC192_3.out); rintro e w' ⟨rfl, ⟨nd, rfl⟩⟩; refine ⟨_, rfl, ?_⟩; have p194 : 0 ≤ (x5_2 : Int) := dT_; have q194 : x5_2 < (l0.length : Int) := dT_; obtain ⟨ad194, A194_3, c194_3, A194_4, c194_4, e194, hx194_0, hx194_1, hx194_2, hx194_3, hx194_4, hx194_5, hl194_3, hi194_3, hl194_4, hi194_4⟩ := at_T50 HR0.out x5_2 p194 q194; obtain rfl : ad192 = ad194 := (by injection e194); replace hx194_0 := (HB.out.cell (bL_ w _ hx194_0)).trans hx194_0; replace hx194_1 := (HB.out.cell (bL_ w _ hx194_1)).trans hx194_1; replace hx194_2 := (HB.out.cell (bL_ w _ hx194_2)).trans hx194_2; replace hx194_3 := (HB.out.cell (bL_ w _ hx194_3)).trans hx194_3; replace hx194_4 := (HB.out.cell (bL_ w _ hx194_4)).trans hx194_4; replace hx194_5 := (HB.out.cell (bL_ w _ hx194_5)).trans hx194_5; have HR194_3 := m0_ hi194_3; have HC194_3 := m0_ hl194_3; clear hi194_3 hl194_3; have HR194_4 := m0_ hi194_4; have HC194_4 := m0_ hl194_4; clear hi194_4 hl194_4; replace p194 := eq_true p194; replace q194 := eq_true q194; have ea_ := sO_ (hx192_3.symm.trans hx194_3); injection ea_ with ea_ en_ ec_; subst ea_; subst ec_; clear en_; have ea_ := sO_ (hx192_4.symm.trans hx194_4); injection ea_ with ea_ en_ ec_; subst ea_; subst ec_; clear en_) | ((with_reducible refine gate_callee (f := 10) rfl ?_); refine goesL_ (some 36) rfl rfl Try.func10 (by kernel_rfl) rfl #[.agg #[.slice A192_4 ((rd_T50 l0 x5_2).f4).length c192_4, .slice none 0 0]] rfl (by (try simp only [mT_, mC_, mN_]); first | done | rfl | (simp only [lD_, lT_]; rfl)) ?_; (refine (banksmanref08_Few.calls k2 _ _ ((rd_T50 l0 x5_2).f4) _ _ ([] : List Int) t195 _ ?side1 ?side2 ?side3 ?side4 A9.out).mono ?_); (case side1 => repeat (first | exact (kB_ HR194_4.out (by repeat (first | (with_reducible first | exact HB.out | apply bA_ | apply dN_ | apply b1_) | exact HB.out))) | (with_reducible first | refine kA_ ?_ _ | refine kN_ ?_ _ | refine kD_ ?_))); (case side2 => exact HC194_4.out); (case side3 => exact Kd.C_nil _ _); (case side4 => exact Nat.le_refl _); rintro e w16 ⟨rfl, hb⟩; refine ⟨_, rfl, ?_⟩; have n0_ := m0_ (below_step (by repeat (first | (with_reducible first | exact HB.out | apply bA_ | apply dN_ | apply b1_) | exact HB.out)) hb); clear HB; have HB := n0_; clear n0_; (try clear hb); (try clear hb2); (try clear hk); (try clear hi)))
              go_ret
              exact ⟨by first | rfl | (simp [errW_none, errW_some] <;> rfl) | (simp [*, errW_none, errW_some] <;> rfl), by repeat (first | (with_reducible first | exact HB.out | apply bA_ | apply dN_ | apply b1_) | exact HB.out)⟩
          · rw [if_neg c7] at H
            exact absurd H (by simp)
        · rw [if_neg c6] at H
          have c6b0 : decide (x5_2 < (l0.length : Int)) = false := decide_eq_false c6
          clear c6
          have H' := m0_ H
          clear H
          go_wp2
          go_loopg [8] k2 (fun kq v8 w' => ∃ (x8_3 : Int), v8 = .int .i64 x8_3 ∧ Aside0 (banksmanref13_Few.l1 kq l1 x8_3 = some r) ∧ Aside0 (kq ≤ k2) ∧ Aside0 (Below w.heap.size w w'))
          case atStart => exact ⟨(0), (by first | rfl | (simp; done) | (simp [*]; done)), H', ⟨Nat.le_refl _⟩, ⟨by repeat (first | (with_reducible first | exact HB.out | apply bA_ | apply dN_ | apply b1_) | exact HB.out)⟩⟩
          case round =>
            clear H'
            try clear c1
            try clear p1
            try clear q1
            try clear hx1
            try clear p2
            try clear c4
            try clear c4b0
            try clear c4b1
            try clear c5
            try clear c6
            try clear c6b0
            try clear p6
            try clear c7
            try clear c7b0
            try clear c9
            try clear c10
            try clear c11
            try clear c12
            try clear c12b0
            try clear c12b1
            try clear hx192_0
            try clear hx192_1
            try clear hx192_2
            try clear hx192_3
            try clear hx192_4
            try clear hx192_5
            try clear hx194_0
            try clear hx194_1
            try clear hx194_2
            try clear hx194_3
            try clear hx194_4
            try clear hx194_5
            try clear hx196_0
            try clear hx196_1
            try clear hx196_2
            try clear hx196_3
            try clear hx196_4
            try clear hx196_5
            try clear p192
            try clear p194
            try clear p196
            try clear p2
            try clear q192
            try clear q194
            try clear q196
            obtain ⟨x8_3, rfl, HA, HK3, HB⟩ := hrel
            cases gk with
            | zero => exact absurd HA.out (by simp [banksmanref13_Few.l1])
            | succ k3 =>
              have H := HA.out
              clear HA
              simp only [banksmanref13_Few.l1] at H
              by_cases c17 : x8_3 < (l1.length : Int)
              · rw [if_pos c17] at H
                have c17b0 : decide (x8_3 < (l1.length : Int)) = true := decide_eq_true c17
                clear c17
                by_cases c18 : 0 ≤ x8_3
                · rw [if_pos c18] at H
                  have c18b0 : decide (0 ≤ x8_3) = true := decide_eq_true c18
                  clear c18
                  replace H := Option.bind_eq_some_iff.mp H
                  obtain ⟨t198, A190, H⟩ := H
                  replace H : (if t198 = true then (if (((rd_T24 l1 x8_3).f1).length : Int) > 30 then (some false) else (banksmanref13_Few.l1 k3 l1 (wrap64 (x8_3 + 1)))) else (some false)) = some r := H
                  have A19 := m0_ A190
                  clear A190
                  by_cases c20 : t198 = true
                  · subst c20
                    have H1 : (if (((rd_T24 l1 x8_3).f1).length : Int) > 30 then (some false) else (banksmanref13_Few.l1 k3 l1 (wrap64 (x8_3 + 1)))) = some r := by rw [if_pos rfl] at H; exact H
                    clear H
                    have H := H1
                    clear H1
                    by_cases c21 : (((rd_T24 l1 x8_3).f1).length : Int) > 30
                    · rw [if_pos c21] at H
                      have c21b0 : decide (30 < (((rd_T24 l1 x8_3).f1).length : Int)) = true := decide_eq_true c21
                      have c21b1 : decide (30 < ((rd_T24 l1 x8_3).f1).length) = true := decide_eq_true (by omega)
                      clear c21
                      obtain rfl := sO_ H
                      have p197 : 0 ≤ (x8_3 : Int) := dT_
                      have q197 : x8_3 < (l1.length : Int) := dT_
                      obtain ⟨ad197, A197_1, c197_1, e197, hx197_0, hx197_1, hl197_1, hi197_1⟩ := at_T24 HR1.out x8_3 p197 q197
                      cases e197
                      replace hx197_0 := (HB.out.cell (bL_ w _ hx197_0)).trans hx197_0
                      replace hx197_1 := (HB.out.cell (bL_ w _ hx197_1)).trans hx197_1
                      have HR197_1 := m0_ hi197_1
                      have HC197_1 := m0_ hl197_1
                      clear hi197_1 hl197_1
                      replace p197 := eq_true p197
                      replace q197 := eq_true q197
                      go_wp2_with (first | ((with_reducible refine gate_callee (f := 9) rfl ?_); refine goesL_ (some 63) rfl rfl Try.func9 (by kernel_rfl) rfl #[.slice A197_1 ((rd_T24 l1 x8_3).f1).length c197_1] rfl (by (try simp only [mT_, mC_, mN_]); first | done | rfl | (simp only [lD_, lT_]; rfl)) ?_; (with_reducible refine (banksmanref10_Few.calls k3 _ _ ((rd_T24 l1 x8_3).f1) true _ ?side1 ?side2 A19.out).mono ?_); (case side1 => repeat (first | exact (kB_ HR197_1.out HB.out) | (with_reducible first | refine kA_ ?_ _ | refine kN_ ?_ _ | refine kD_ ?_))); (case side2 => exact HC197_1.out); rintro e w' ⟨rfl, ⟨nd, rfl⟩⟩; refine ⟨_, rfl, ?_⟩; have p199 : 0 ≤ (x8_3 : Int) := dT_; have q199 : x8_3 < (l1.length : Int) := dT_; obtain ⟨ad199, A199_1, c199_1, e199, hx199_0, hx199_1, hl199_1, hi199_1⟩ := at_T24 HR1.out x8_3 p199 q199; obtain rfl : ad197 = ad199 := (by injection e199); replace hx199_0 := (HB.out.cell (bL_ w _ hx199_0)).trans hx199_0; replace hx199_1 := (HB.out.cell (bL_ w _ hx199_1)).trans hx199_1; have HR199_1 := m0_ hi199_1; have HC199_1 := m0_ hl199_1; clear hi199_1 hl199_1; replace p199 := eq_true p199; replace q199 := eq_true q199; have ea_ := sO_ (hx197_1.symm.trans hx199_1); injection ea_ with ea_ en_ ec_; subst ea_; subst ec_; clear en_))
                      go_ret
                      exact ⟨by first | rfl | (simp [errW_none, errW_some] <;> rfl) | (simp [*, errW_none, errW_some] <;> rfl), by repeat (first | (with_reducible first | exact HB.out | apply bA_ | apply dN_ | apply b1_) | exact HB.out)⟩
                    · rw [if_neg c21] at H
                      have c21b0 : decide (30 < (((rd_T24 l1 x8_3).f1).length : Int)) = false := decide_eq_false c21
                      have c21b1 : decide (30 < ((rd_T24 l1 x8_3).f1).length) = false := decide_eq_false (by omega)
                      clear c21
                      have H' := m0_ H
                      clear H
                      have p197 : 0 ≤ (x8_3 : Int) := dT_
                      have q197 : x8_3 < (l1.length : Int) := dT_
                      obtain ⟨ad197, A197_1, c197_1, e197, hx197_0, hx197_1, hl197_1, hi197_1⟩ := at_T24 HR1.out x8_3 p197 q197
                      cases e197
                      replace hx197_0 := (HB.out.cell (bL_ w _ hx197_0)).trans hx197_0
                      replace hx197_1 := (HB.out.cell (bL_ w _ hx197_1)).trans hx197_1
                      have HR197_1 := m0_ hi197_1
                      have HC197_1 := m0_ hl197_1
                      clear hi197_1 hl197_1
                      replace p197 := eq_true p197
                      replace q197 := eq_true q197
                      go_wp2_with (first | ((with_reducible refine gate_callee (f := 9) rfl ?_); refine goesL_ (some 63) rfl rfl Try.func9 (by kernel_rfl) rfl #[.slice A197_1 ((rd_T24 l1 x8_3).f1).length c197_1] rfl (by (try simp only [mT_, mC_, mN_]); first | done | rfl | (simp only [lD_, lT_]; rfl)) ?_; (with_reducible refine (banksmanref10_Few.calls k3 _ _ ((rd_T24 l1 x8_3).f1) true _ ?side1 ?side2 A19.out).mono ?_); (case side1 => repeat (first | exact (kB_ HR197_1.out HB.out) | (with_reducible first | refine kA_ ?_ _ | refine kN_ ?_ _ | refine kD_ ?_))); (case side2 => exact HC197_1.out); rintro e w' ⟨rfl, ⟨nd, rfl⟩⟩; refine ⟨_, rfl, ?_⟩; have p199 : 0 ≤ (x8_3 : Int) := dT_; have q199 : x8_3 < (l1.length : Int) := dT_; obtain ⟨ad199, A199_1, c199_1, e199, hx199_0, hx199_1, hl199_1, hi199_1⟩ := at_T24 HR1.out x8_3 p199 q199; obtain rfl : ad197 = ad199 := (by injection e199); replace hx199_0 := (HB.out.cell (bL_ w _ hx199_0)).trans hx199_0; replace hx199_1 := (HB.out.cell (bL_ w _ hx199_1)).trans hx199_1; have HR199_1 := m0_ hi199_1; have HC199_1 := m0_ hl199_1; clear hi199_1 hl199_1; replace p199 := eq_true p199; replace q199 := eq_true q199; have ea_ := sO_ (hx197_1.symm.trans hx199_1); injection ea_ with ea_ en_ ec_; subst ea_; subst ec_; clear en_))
                      go_roundg k3
                      case measure => have := HJ2.out; have := HK2.out; have := HK3.out; omega
                      case rel => exact ⟨(wrap64 (x8_3 + 1)), (by first | rfl | (simp; done) | (simp [*]; done)), H', ⟨by have := HJ2.out; have := HK2.out; have := HK3.out; omega⟩, ⟨by repeat (first | (with_reducible first | exact HB.out | apply bA_ | apply dN_ | apply b1_) | exact HB.out)⟩⟩
                  · replace c20 := Bool.eq_false_iff.mpr c20
                    subst c20
                    have H1 : (some false) = some r := by rw [if_neg (show ¬ (false = true) by decide)] at H; exact H
                    clear H
                    have H := H1
                    clear H1
                    obtain rfl := sO_ H
                    have p197 : 0 ≤ (x8_3 : Int) := dT_
                    have q197 : x8_3 < (l1.length : Int) := dT_
                    obtain ⟨ad197, A197_1, c197_1, e197, hx197_0, hx197_1, hl197_1, hi197_1⟩ := at_T24 HR1.out x8_3 p197 q197
                    cases e197
                    replace hx197_0 := (HB.out.cell (bL_ w _ hx197_0)).trans hx197_0
                    replace hx197_1 := (HB.out.cell (bL_ w _ hx197_1)).trans hx197_1
                    have HR197_1 := m0_ hi197_1
                    have HC197_1 := m0_ hl197_1
                    clear hi197_1 hl197_1
                    replace p197 := eq_true p197
                    replace q197 := eq_true q197
                    go_wp2_with (first | ((with_reducible refine gate_callee (f := 9) rfl ?_); refine goesL_ (some 63) rfl rfl Try.func9 (by kernel_rfl) rfl #[.slice A197_1 ((rd_T24 l1 x8_3).f1).length c197_1] rfl (by (try simp only [mT_, mC_, mN_]); first | done | rfl | (simp only [lD_, lT_]; rfl)) ?_; (with_reducible refine (banksmanref10_Few.calls k3 _ _ ((rd_T24 l1 x8_3).f1) false _ ?side1 ?side2 A19.out).mono ?_); (case side1 => repeat (first | exact (kB_ HR197_1.out HB.out) | (with_reducible first | refine kA_ ?_ _ | refine kN_ ?_ _ | refine kD_ ?_))); (case side2 => exact HC197_1.out); rintro e w' ⟨rfl, ⟨nd, rfl⟩⟩; refine ⟨_, rfl, ?_⟩))
                    go_ret
                    exact ⟨by first | rfl | (simp [errW_none, errW_some] <;> rfl) | (simp [*, errW_none, errW_some] <;> rfl), by repeat (first | (with_reducible first | exact HB.out | apply bA_ | apply dN_ | apply b1_) | exact HB.out)⟩
                · rw [if_neg c18] at H
                  exact absurd H (by simp)
              · rw [if_neg c17] at H
                have c17b0 : decide (x8_3 < (l1.length : Int)) = false := decide_eq_false c17
                clear c17
                obtain rfl := sO_ H
                go_wp2
                go_ret
                exact ⟨by first | rfl | (simp [errW_none, errW_some] <;> rfl) | (simp [*, errW_none, errW_some] <;> rfl), by repeat (first | (with_reducible first | exact HB.out | apply bA_ | apply dN_ | apply b1_) | exact HB.out)⟩
def banksmanref10_Copy.l0 : Nat → List (S57) → List (S57) → Int → Option ((List (S57)))
 | 0, _, _, _ => none
 | k + 1, x0, x3, x4 => if x4 < (x0.length : Int) then (if 0 ≤ x4 then ((some (([] : List Int) : List Int)).bind fun y201 => (if y201.length + ((rd_T57 x0 x4).f1).length < 140737488355328 then ((some (([] : List Int) : List Int)).bind fun y208 => (if y208.length + ((rd_T57 x0 x4).f2).length < 140737488355328 then (if x3.length < 2199023255552 then (banksmanref10_Copy.l0 k x0 (x3 ++ [(⟨(rd_T57 x0 x4).f0, (y201 ++ ((rd_T57 x0 x4).f1)), (y208 ++ ((rd_T57 x0 x4).f2)), (rd_T57 x0 x4).f3⟩ : S57)]) (wrap64 (x4 + 1))) else (none)) else (none))) else (none))) else (none)) else (some x3)
def banksmanref10_Copy.f (k : Nat) (l0 : List (S57)) : Option ((List (S57))) := banksmanref10_Copy.l0 k l0 ([] : List (S57)) 0
def banksmanref10_Copy.T5 : Bool × List (List Nat × List Nat) := (true, [([], []), ([], []), ([], []), ([1, 2], [1, 2]), ([3], [3]), ([4], [4]), ([], []), ([], []), ([], []), ([7, 8], [7, 8]), ([9], [9]), ([10], [10]), ([6, 11], [6, 11]), ([], []), ([], []), ([], []), ([14, 15], [14, 15]), ([16], [16]), ([17], [17]), ([13, 18, 12], [13, 18]), ([], []), ([], []), ([20, 21], [20, 21]), ([22], [22]), ([23], [23]), ([5, 12, 19, 24], [5, 12, 19, 24]), ([25], [25]), ([0, 26, 19], [0, 26]), ([27, 27, 0, 1, 2, 3, 4, 5, 6, 7, 8, 9, 10, 11, 12, 13, 14, 15, 16, 17, 18, 19, 20, 21, 22, 23, 24, 25, 26, 27], [0, 27])])
def banksmanref10_Copy.B5 : List Nat := [0, 0, 0, 6, 14, 30, 0, 0, 0, 384, 896, 1920, 4032, 0, 0, 0, 49152, 114688, 245760, 524224, 0, 0, 3145728, 7340032, 15728640, 33554430, 67108862, 134217727, 268435455]
theorem banksmanref10_Copy.tab5 : rtab .any (opsOf Try.f60 5) = banksmanref10_Copy.T5 := by kernel_rfl
theorem banksmanref10_Copy.bits5 : waitsOk banksmanref10_Copy.T5.2 banksmanref10_Copy.B5 = true := by kernel_rfl
set_option maxHeartbeats 8000000 in
set_option maxRecDepth 100000 in
theorem banksmanref10_Copy.calls (k : Nat) (A0 : Option Addr) (c0 : Nat) (l0 : List (S57)) (r : List (S57)) (w : World) (hr0 : Kd.C k57 w A0 l0.length l0) (hc0 : l0.length ≤ c0) (h : banksmanref10_Copy.f k l0 = some r) :
  Calls Try.prog 60 #[.slice A0 l0.length c0] w fun e w' => ∃ v0_ : Value, e = .returned (v0_) ∧ Kd.S k57 57 w' w.heap.size (fun _ => True) v0_ r ∧ Below w.heap.size w w' := by
 have hu57 := Try.underlying57
 have HR0 := m0_ hr0
 have HC0 := m0_ hc0
 clear hr0 hc0
 have HB := m0_ (Below.refl w.heap.size w)
 have H : (banksmanref10_Copy.l0 k l0 ([] : List (S57)) 0) = some r := h
 clear h
 have H' := m0_ H
 clear H
 go_enter Try.func60, Try.ntmps60
 go_wp2
 go_loopg [3, 4] k (fun kq v3 v4 w' => ∃ (x3_1 : List (S57)) (x4_1 : Int), v4 = .int .i64 x4_1 ∧ Aside0 (banksmanref10_Copy.l0 kq l0 x3_1 x4_1 = some r) ∧ Aside0 (kq ≤ k) ∧ Aside0 (Kd.S k57 57 w' w.heap.size (fun _ => True) v3 x3_1) ∧ Aside0 (Below w.heap.size w w'))
 case atStart => exact ⟨(([] : List (S57))), (0), (by first | rfl | (simp; done) | (simp [*]; done)), H', ⟨Nat.le_refl _⟩, ⟨by first | exact Kd.S_nil _ _ _ _ _ | exact Kd.N_nil _ _ _ _ _ | exact Kd.V_nil _ _ _ _ _ | exact Kd.Q_nil _ _ _ _ _ | exact Kd.R_nil _ _ _ _ _⟩, ⟨by repeat (first | (with_reducible first | exact HB.out | apply bA_ | apply dN_ | apply b1_) | exact HB.out)⟩⟩
 case round =>
  clear H'
  obtain ⟨x3_1, x4_1, rfl, HA, HK1, HO_3, HB⟩ := hrel
  cases gk with
  | zero => exact absurd HA.out (by simp [banksmanref10_Copy.l0])
  | succ k1 =>
   have H := HA.out
   clear HA
   simp only [banksmanref10_Copy.l0] at H
   by_cases c2 : x4_1 < (l0.length : Int)
   · rw [if_pos c2] at H
     have c2b0 : decide (x4_1 < (l0.length : Int)) = true := decide_eq_true c2
     clear c2
     by_cases c3 : 0 ≤ x4_1
     · rw [if_pos c3] at H
       have c3b0 : decide (0 ≤ x4_1) = true := decide_eq_true c3
       clear c3
       obtain ⟨y201, hy201⟩ : ∃ y_ : List Int, y_ = (([] : List Int)) := ⟨_, rfl⟩
       replace H : (if y201.length + ((rd_T57 l0 x4_1).f1).length < 140737488355328 then ((some (([] : List Int) : List Int)).bind fun y208 => (if y208.length + ((rd_T57 l0 x4_1).f2).length < 140737488355328 then (if x3_1.length < 2199023255552 then (banksmanref10_Copy.l0 k1 l0 (x3_1 ++ [(⟨(rd_T57 l0 x4_1).f0, (y201 ++ ((rd_T57 l0 x4_1).f1)), (y208 ++ ((rd_T57 l0 x4_1).f2)), (rd_T57 l0 x4_1).f3⟩ : S57)]) (wrap64 (x4_1 + 1))) else (none)) else (none))) else (none)) = some r := by first | (rw [hy201]; with_reducible exact H) | (have H2_ := (Option.bind_some _ _).symm.trans H; rw [hy201]; with_reducible exact H2_) | (have H2_ := (Option.bind_some _ _).symm.trans H; with_reducible exact H2_) | with_reducible exact H | (rw [hy201]; exact H) | exact H
       have Ny201 := m0_ hy201
       clear hy201
       by_cases c4 : y201.length + ((rd_T57 l0 x4_1).f1).length < 140737488355328
       · rw [if_pos c4] at H
         have LMc4 := m0_ c4
         clear c4
         obtain ⟨y205, hy205⟩ : ∃ y_ : List Int, y_ = (y201 ++ ((rd_T57 l0 x4_1).f1)) := ⟨_, rfl⟩
         replace H : ((some (([] : List Int) : List Int)).bind fun y208 => (if y208.length + ((rd_T57 l0 x4_1).f2).length < 140737488355328 then (if x3_1.length < 2199023255552 then (banksmanref10_Copy.l0 k1 l0 (x3_1 ++ [(⟨(rd_T57 l0 x4_1).f0, y205, (y208 ++ ((rd_T57 l0 x4_1).f2)), (rd_T57 l0 x4_1).f3⟩ : S57)]) (wrap64 (x4_1 + 1))) else (none)) else (none))) = some r := by first | (rw [hy205]; with_reducible exact H) | (have H2_ := (Option.bind_some _ _).symm.trans H; rw [hy205]; with_reducible exact H2_) | (have H2_ := (Option.bind_some _ _).symm.trans H; with_reducible exact H2_) | with_reducible exact H | (rw [hy205]; exact H) | exact H
         have Ny205 := m0_ hy205
         clear hy205
         obtain ⟨y208, hy208⟩ : ∃ y_ : List Int, y_ = (([] : List Int)) := ⟨_, rfl⟩
         replace H : (if y208.length + ((rd_T57 l0 x4_1).f2).length < 140737488355328 then (if x3_1.length < 2199023255552 then (banksmanref10_Copy.l0 k1 l0 (x3_1 ++ [(⟨(rd_T57 l0 x4_1).f0, y205, (y208 ++ ((rd_T57 l0 x4_1).f2)), (rd_T57 l0 x4_1).f3⟩ : S57)]) (wrap64 (x4_1 + 1))) else (none)) else (none)) = some r := by first | (rw [hy208]; with_reducible exact H) | (have H2_ := (Option.bind_some _ _).symm.trans H; rw [hy208]; with_reducible exact H2_) | (have H2_ := (Option.bind_some _ _).symm.trans H; with_reducible exact H2_) | with_reducible exact H | (rw [hy208]; exact H) | exact H
         have Ny208 := m0_ hy208
         clear hy208
         by_cases c5 : y208.length + ((rd_T57 l0 x4_1).f2).length < 140737488355328
         · rw [if_pos c5] at H
           have LMc5 := m0_ c5
           clear c5
           obtain ⟨y212, hy212⟩ : ∃ y_ : List Int, y_ = (y208 ++ ((rd_T57 l0 x4_1).f2)) := ⟨_, rfl⟩
           replace H : (if x3_1.length < 2199023255552 then (banksmanref10_Copy.l0 k1 l0 (x3_1 ++ [(⟨(rd_T57 l0 x4_1).f0, y205, y212, (rd_T57 l0 x4_1).f3⟩ : S57)]) (wrap64 (x4_1 + 1))) else (none)) = some r := by first | (rw [hy212]; with_reducible exact H) | (have H2_ := (Option.bind_some _ _).symm.trans H; rw [hy212]; with_reducible exact H2_) | (have H2_ := (Option.bind_some _ _).symm.trans H; with_reducible exact H2_) | with_reducible exact H | (rw [hy212]; exact H) | exact H
           have Ny212 := m0_ hy212
           clear hy212
           by_cases c6 : x3_1.length < 2199023255552
           · rw [if_pos c6] at H
             have LMc6 := m0_ c6
             clear c6
             obtain ⟨y216, hy216⟩ : ∃ y_ : List (S57), y_ = (x3_1 ++ [(⟨(rd_T57 l0 x4_1).f0, y205, y212, (rd_T57 l0 x4_1).f3⟩ : S57)]) := ⟨_, rfl⟩
             replace H : (banksmanref10_Copy.l0 k1 l0 y216 (wrap64 (x4_1 + 1))) = some r := by first | (rw [hy216]; with_reducible exact H) | (have H2_ := (Option.bind_some _ _).symm.trans H; rw [hy216]; with_reducible exact H2_) | (have H2_ := (Option.bind_some _ _).symm.trans H; with_reducible exact H2_) | with_reducible exact H | (rw [hy216]; exact H) | exact H
             have Ny216 := m0_ hy216
             clear hy216
             have H' := m0_ H
             clear H
             obtain ⟨Ao7, co7, eo7⟩ := Kd.S_slice HO_3.out
             subst eo7
             try go_wp2
             have n0_ := m0_ (Kd.S_drew HO_3.out)
             have n1_ := m0_ (b1_ HB.out)
             clear HO_3
             clear HB
             have HO_3 := n0_
             have HB := n1_
             clear n0_ n1_
             have p200 : 0 ≤ (x4_1 : Int) := dT_
             have q200 : x4_1 < (l0.length : Int) := dT_
             obtain ⟨ad200, A200_1, c200_1, A200_2, c200_2, e200, hx200_0, hx200_1, hx200_2, hx200_3, hl200_1, hi200_1, hl200_2, hi200_2⟩ := at_T57 HR0.out x4_1 p200 q200
             have hw200_3 := hx200_3
             have hw200_2 := hx200_2
             have hw200_1 := hx200_1
             have hw200_0 := hx200_0
             cases e200
             replace hx200_0 := (HB.out.cell (bL_ w _ hx200_0)).trans hx200_0
             replace hx200_1 := (HB.out.cell (bL_ w _ hx200_1)).trans hx200_1
             replace hx200_2 := (HB.out.cell (bL_ w _ hx200_2)).trans hx200_2
             replace hx200_3 := (HB.out.cell (bL_ w _ hx200_3)).trans hx200_3
             have HR200_1 := m0_ hi200_1
             have HC200_1 := m0_ hl200_1
             clear hi200_1 hl200_1
             have HR200_2 := m0_ hi200_2
             have HC200_2 := m0_ hl200_2
             clear hi200_2 hl200_2
             replace p200 := eq_true p200
             replace q200 := eq_true q200
             have p204 : 0 ≤ (x4_1 : Int) := dT_
             have q204 : x4_1 < (l0.length : Int) := dT_
             obtain ⟨ad204, A204_1, c204_1, A204_2, c204_2, e204, hx204_0, hx204_1, hx204_2, hx204_3, hl204_1, hi204_1, hl204_2, hi204_2⟩ := at_T57 HR0.out x4_1 p204 q204
             have hw204_3 := hx204_3
             have hw204_2 := hx204_2
             have hw204_1 := hx204_1
             have hw204_0 := hx204_0
             obtain rfl : ad200 = ad204 := (by injection e204)
             replace hx204_0 := (HB.out.cell (bL_ w _ hx204_0)).trans hx204_0
             replace hx204_1 := (HB.out.cell (bL_ w _ hx204_1)).trans hx204_1
             replace hx204_2 := (HB.out.cell (bL_ w _ hx204_2)).trans hx204_2
             replace hx204_3 := (HB.out.cell (bL_ w _ hx204_3)).trans hx204_3
             have HR204_1 := m0_ hi204_1
             have HC204_1 := m0_ hl204_1
             clear hi204_1 hl204_1
             have HR204_2 := m0_ hi204_2
             have HC204_2 := m0_ hl204_2
             clear hi204_2 hl204_2
             replace p204 := eq_true p204
             replace q204 := eq_true q204
             have ea_ := sO_ (hx200_1.symm.trans hx204_1)
             injection ea_ with ea_ en_ ec_
             subst ea_
             subst ec_
             clear en_
             have ea_ := sO_ (hx200_2.symm.trans hx204_2)
             injection ea_ with ea_ en_ ec_
             subst ea_
             subst ec_
             clear en_
             have p211 : 0 ≤ (x4_1 : Int) := dT_
             have q211 : x4_1 < (l0.length : Int) := dT_
             obtain ⟨ad211, A211_1, c211_1, A211_2, c211_2, e211, hx211_0, hx211_1, hx211_2, hx211_3, hl211_1, hi211_1, hl211_2, hi211_2⟩ := at_T57 HR0.out x4_1 p211 q211
             have hw211_3 := hx211_3
             have hw211_2 := hx211_2
             have hw211_1 := hx211_1
             have hw211_0 := hx211_0
             obtain rfl : ad200 = ad211 := (by injection e211)
             replace hx211_0 := (HB.out.cell (bL_ w _ hx211_0)).trans hx211_0
             replace hx211_1 := (HB.out.cell (bL_ w _ hx211_1)).trans hx211_1
             replace hx211_2 := (HB.out.cell (bL_ w _ hx211_2)).trans hx211_2
             replace hx211_3 := (HB.out.cell (bL_ w _ hx211_3)).trans hx211_3
             have HR211_1 := m0_ hi211_1
             have HC211_1 := m0_ hl211_1
             clear hi211_1 hl211_1
             have HR211_2 := m0_ hi211_2
             have HC211_2 := m0_ hl211_2
             clear hi211_2 hl211_2
             replace p211 := eq_true p211
             replace q211 := eq_true q211
             have ea_ := sO_ (hx200_1.symm.trans hx211_1)
             injection ea_ with ea_ en_ ec_
             subst ea_
             subst ec_
             clear en_
             have ea_ := sO_ (hx200_2.symm.trans hx211_2)
             injection ea_ with ea_ en_ ec_
             subst ea_
             subst ec_
             clear en_
             have p215 : 0 ≤ (x4_1 : Int) := dT_
             have q215 : x4_1 < (l0.length : Int) := dT_
             obtain ⟨ad215, A215_1, c215_1, A215_2, c215_2, e215, hx215_0, hx215_1, hx215_2, hx215_3, hl215_1, hi215_1, hl215_2, hi215_2⟩ := at_T57 HR0.out x4_1 p215 q215
             have hw215_3 := hx215_3
             have hw215_2 := hx215_2
             have hw215_1 := hx215_1
             have hw215_0 := hx215_0
             obtain rfl : ad200 = ad215 := (by injection e215)
             replace hx215_0 := (HB.out.cell (bL_ w _ hx215_0)).trans hx215_0
             replace hx215_1 := (HB.out.cell (bL_ w _ hx215_1)).trans hx215_1
             replace hx215_2 := (HB.out.cell (bL_ w _ hx215_2)).trans hx215_2
             replace hx215_3 := (HB.out.cell (bL_ w _ hx215_3)).trans hx215_3
             have HR215_1 := m0_ hi215_1
             have HC215_1 := m0_ hl215_1
             clear hi215_1 hl215_1
             have HR215_2 := m0_ hi215_2
             have HC215_2 := m0_ hl215_2
             clear hi215_2 hl215_2
             replace p215 := eq_true p215
             replace q215 := eq_true q215
             have ea_ := sO_ (hx200_1.symm.trans hx215_1)
             injection ea_ with ea_ en_ ec_
             subst ea_
             subst ec_
             clear en_
             have ea_ := sO_ (hx200_2.symm.trans hx215_2)
             injection ea_ with ea_ en_ ec_
             subst ea_
             subst ec_
             clear en_
             refine start_ (n := 29) (S := fun w' => w'.cell? (ad200.add ((x4_1).toNat * 4)) = some (.int .i64 ((rd_T57 l0 x4_1).f0)) ∧ w'.cell? ⟨(ad200.add ((x4_1).toNat * 4)).block, (ad200.add ((x4_1).toNat * 4)).off + 1, none⟩ = some (.slice A200_1 ((rd_T57 l0 x4_1).f1).length c200_1) ∧ w'.cell? ⟨(ad200.add ((x4_1).toNat * 4)).block, (ad200.add ((x4_1).toNat * 4)).off + 2, none⟩ = some (.slice A200_2 ((rd_T57 l0 x4_1).f2).length c200_2) ∧ w'.cell? ⟨(ad200.add ((x4_1).toNat * 4)).block, (ad200.add ((x4_1).toNat * 4)).off + 3, none⟩ = some (.bool ((rd_T57 l0 x4_1).f3)) ∧ w'.cell? (ad200.add ((x4_1).toNat * 4)) = some (.int .i64 ((rd_T57 l0 x4_1).f0)) ∧ w'.cell? ⟨(ad200.add ((x4_1).toNat * 4)).block, (ad200.add ((x4_1).toNat * 4)).off + 1, none⟩ = some (.slice A200_1 ((rd_T57 l0 x4_1).f1).length c200_1) ∧ w'.cell? ⟨(ad200.add ((x4_1).toNat * 4)).block, (ad200.add ((x4_1).toNat * 4)).off + 2, none⟩ = some (.slice A200_2 ((rd_T57 l0 x4_1).f2).length c200_2) ∧ w'.cell? ⟨(ad200.add ((x4_1).toNat * 4)).block, (ad200.add ((x4_1).toNat * 4)).off + 3, none⟩ = some (.bool ((rd_T57 l0 x4_1).f3)) ∧ w'.cell? (ad200.add ((x4_1).toNat * 4)) = some (.int .i64 ((rd_T57 l0 x4_1).f0)) ∧ w'.cell? ⟨(ad200.add ((x4_1).toNat * 4)).block, (ad200.add ((x4_1).toNat * 4)).off + 1, none⟩ = some (.slice A200_1 ((rd_T57 l0 x4_1).f1).length c200_1) ∧ w'.cell? ⟨(ad200.add ((x4_1).toNat * 4)).block, (ad200.add ((x4_1).toNat * 4)).off + 2, none⟩ = some (.slice A200_2 ((rd_T57 l0 x4_1).f2).length c200_2) ∧ w'.cell? ⟨(ad200.add ((x4_1).toNat * 4)).block, (ad200.add ((x4_1).toNat * 4)).off + 3, none⟩ = some (.bool ((rd_T57 l0 x4_1).f3)) ∧ w'.cell? (ad200.add ((x4_1).toNat * 4)) = some (.int .i64 ((rd_T57 l0 x4_1).f0)) ∧ w'.cell? ⟨(ad200.add ((x4_1).toNat * 4)).block, (ad200.add ((x4_1).toNat * 4)).off + 1, none⟩ = some (.slice A200_1 ((rd_T57 l0 x4_1).f1).length c200_1) ∧ w'.cell? ⟨(ad200.add ((x4_1).toNat * 4)).block, (ad200.add ((x4_1).toNat * 4)).off + 2, none⟩ = some (.slice A200_2 ((rd_T57 l0 x4_1).f2).length c200_2) ∧ w'.cell? ⟨(ad200.add ((x4_1).toNat * 4)).block, (ad200.add ((x4_1).toNat * 4)).off + 3, none⟩ = some (.bool ((rd_T57 l0 x4_1).f3))) (ds := []) #[false, false, false, false, false, false, false, false, false, false, false, false, false, false, false, false, false, false, false, false, false, false, false, false, false, false, false, false, false] (by kernel_rfl) rfl rfl ⟨((HB.out.cell (bL_ w _ hw200_0)).trans hw200_0), ((HB.out.cell (bL_ w _ hw200_1)).trans hw200_1), ((HB.out.cell (bL_ w _ hw200_2)).trans hw200_2), ((HB.out.cell (bL_ w _ hw200_3)).trans hw200_3), ((HB.out.cell (bL_ w _ hw204_0)).trans hw204_0), ((HB.out.cell (bL_ w _ hw204_1)).trans hw204_1), ((HB.out.cell (bL_ w _ hw204_2)).trans hw204_2), ((HB.out.cell (bL_ w _ hw204_3)).trans hw204_3), ((HB.out.cell (bL_ w _ hw211_0)).trans hw211_0), ((HB.out.cell (bL_ w _ hw211_1)).trans hw211_1), ((HB.out.cell (bL_ w _ hw211_2)).trans hw211_2), ((HB.out.cell (bL_ w _ hw211_3)).trans hw211_3), ((HB.out.cell (bL_ w _ hw215_0)).trans hw215_0), ((HB.out.cell (bL_ w _ hw215_1)).trans hw215_1), ((HB.out.cell (bL_ w _ hw215_2)).trans hw215_2), ((HB.out.cell (bL_ w _ hw215_3)).trans hw215_3)⟩ (fun hHeld => ?_); refine with_tabW banksmanref10_Copy.tab5 banksmanref10_Copy.bits5 (fun HT_ HW_ => ?_)
             generalize wr.drew = w8 at HO_3 HB HR200_1 HR200_2 HR204_1 HR204_2 HR211_1 HR211_2 HR215_1 HR215_2 hx200_0 hx200_1 hx200_2 hx200_3 hx204_0 hx204_1 hx204_2 hx204_3 hx211_0 hx211_1 hx211_2 hx211_3 hx215_0 hx215_1 hx215_2 hx215_3 hHeld ⊢
             refine pure_ (i := 0) (N := some 11) (v := ?_) (a' := ?_) #[true, false, false, false, false, false, false, false, false, false, false, false, false, false, false, false, false, false, false, false, false, false, false, false, false, false, false, false, false] rfl rfl (any_of HT_.out (by kernel_rfl)) (fun _ _ _ h => h) (Or.inl ⟨by rfl, ?_⟩) ?_ ?_
             rotate_left
             · intro w'
               go_simp
               with_reducible rfl
             rotate_left
             · simp only [Act.put, sI_, sZ_, sS_, i64_w, i32_w]
               rfl
             refine pure_ (i := 1) (N := some 12) (v := ?_) (a' := ?_) #[true, true, false, false, false, false, false, false, false, false, false, false, false, false, false, false, false, false, false, false, false, false, false, false, false, false, false, false, false] rfl rfl (any_of HT_.out (by kernel_rfl)) (fun _ _ _ h => h) (Or.inl ⟨by rfl, ?_⟩) ?_ ?_
             rotate_left
             · intro w'
               go_simp
               with_reducible rfl
             rotate_left
             · simp only [Act.put, sI_, sZ_, sS_, i64_w, i32_w]
               rfl
             refine pure_ (i := 2) (N := some 13) (v := ?_) (a' := ?_) #[true, true, true, false, false, false, false, false, false, false, false, false, false, false, false, false, false, false, false, false, false, false, false, false, false, false, false, false, false] rfl rfl (any_of HT_.out (by kernel_rfl)) (fun _ _ _ h => h) (Or.inl ⟨by rfl, ?_⟩) ?_ ?_
             rotate_left
             · intro w'
               go_simp
               with_reducible rfl
             rotate_left
             · simp only [Act.put, sI_, sZ_, sS_, i64_w, i32_w]
               rfl
             refine pure_ (i := 3) (N := some 14) (v := ?_) (a' := ?_) #[true, true, true, true, false, false, false, false, false, false, false, false, false, false, false, false, false, false, false, false, false, false, false, false, false, false, false, false, false] rfl rfl (any_of HT_.out (by kernel_rfl)) (fun _ _ _ h => h) (Or.inl ⟨by rfl, ?_⟩) ?_ ?_
             rotate_left
             · intro w'
               go_simp
               with_reducible rfl
             rotate_left
             · simp only [Act.put, sI_, sZ_, sS_, i64_w, i32_w]
               rfl
             refine pure_ (i := 4) (N := some 15) (v := ?_) (a' := ?_) #[true, true, true, true, true, false, false, false, false, false, false, false, false, false, false, false, false, false, false, false, false, false, false, false, false, false, false, false, false] rfl rfl (any_of HT_.out (by kernel_rfl)) (fun _ _ _ h => h) (Or.inl ⟨by rfl, ?_⟩) ?_ ?_
             rotate_left
             · intro w'
               go_simp
               with_reducible rfl
             rotate_left
             · simp only [Act.put, sI_, sZ_, sS_, i64_w, i32_w]
               rfl
             refine pure_ (i := 7) (N := some 18) (v := ?_) (a' := ?_) #[true, true, true, true, true, false, false, true, false, false, false, false, false, false, false, false, false, false, false, false, false, false, false, false, false, false, false, false, false] rfl rfl (any_of HT_.out (by kernel_rfl)) (fun _ _ _ h => h) (Or.inl ⟨by rfl, ?_⟩) ?_ ?_
             rotate_left
             · intro w'
               go_simp
               with_reducible rfl
             rotate_left
             · simp only [Act.put, sI_, sZ_, sS_, i64_w, i32_w]
               rfl
             refine pure_ (i := 8) (N := some 19) (v := ?_) (a' := ?_) #[true, true, true, true, true, false, false, true, true, false, false, false, false, false, false, false, false, false, false, false, false, false, false, false, false, false, false, false, false] rfl rfl (any_of HT_.out (by kernel_rfl)) (fun _ _ _ h => h) (Or.inl ⟨by rfl, ?_⟩) ?_ ?_
             rotate_left
             · intro w'
               go_simp
               with_reducible rfl
             rotate_left
             · simp only [Act.put, sI_, sZ_, sS_, i64_w, i32_w]
               rfl
             refine pure_ (i := 9) (N := some 20) (v := ?_) (a' := ?_) #[true, true, true, true, true, false, false, true, true, true, false, false, false, false, false, false, false, false, false, false, false, false, false, false, false, false, false, false, false] rfl rfl (any_of HT_.out (by kernel_rfl)) (fun _ _ _ h => h) (Or.inl ⟨by rfl, ?_⟩) ?_ ?_
             rotate_left
             · intro w'
               go_simp
               with_reducible rfl
             rotate_left
             · simp only [Act.put, sI_, sZ_, sS_, i64_w, i32_w]
               rfl
             refine pure_ (i := 10) (N := some 21) (v := ?_) (a' := ?_) #[true, true, true, true, true, false, false, true, true, true, true, false, false, false, false, false, false, false, false, false, false, false, false, false, false, false, false, false, false] rfl rfl (any_of HT_.out (by kernel_rfl)) (fun _ _ _ h => h) (Or.inl ⟨by rfl, ?_⟩) ?_ ?_
             rotate_left
             · intro w'
               go_simp
               with_reducible rfl
             rotate_left
             · simp only [Act.put, sI_, sZ_, sS_, i64_w, i32_w]
               rfl
             refine pure_ (i := 14) (N := some 25) (v := ?_) (a' := ?_) #[true, true, true, true, true, false, false, true, true, true, true, false, false, false, true, false, false, false, false, false, false, false, false, false, false, false, false, false, false] rfl rfl (any_of HT_.out (by kernel_rfl)) (fun _ _ _ h => h) (Or.inl ⟨by rfl, ?_⟩) ?_ ?_
             rotate_left
             · intro w'
               go_simp
               with_reducible rfl
             rotate_left
             · simp only [Act.put, sI_, sZ_, sS_, i64_w, i32_w]
               rfl
             refine pure_ (i := 15) (N := some 26) (v := ?_) (a' := ?_) #[true, true, true, true, true, false, false, true, true, true, true, false, false, false, true, true, false, false, false, false, false, false, false, false, false, false, false, false, false] rfl rfl (any_of HT_.out (by kernel_rfl)) (fun _ _ _ h => h) (Or.inl ⟨by rfl, ?_⟩) ?_ ?_
             rotate_left
             · intro w'
               go_simp
               with_reducible rfl
             rotate_left
             · simp only [Act.put, sI_, sZ_, sS_, i64_w, i32_w]
               rfl
             refine pure_ (i := 16) (N := some 27) (v := ?_) (a' := ?_) #[true, true, true, true, true, false, false, true, true, true, true, false, false, false, true, true, true, false, false, false, false, false, false, false, false, false, false, false, false] rfl rfl (any_of HT_.out (by kernel_rfl)) (fun _ _ _ h => h) (Or.inl ⟨by rfl, ?_⟩) ?_ ?_
             rotate_left
             · intro w'
               go_simp
               with_reducible rfl
             rotate_left
             · simp only [Act.put, sI_, sZ_, sS_, i64_w, i32_w]
               rfl
             refine pure_ (i := 17) (N := some 28) (v := ?_) (a' := ?_) #[true, true, true, true, true, false, false, true, true, true, true, false, false, false, true, true, true, true, false, false, false, false, false, false, false, false, false, false, false] rfl rfl (any_of HT_.out (by kernel_rfl)) (fun _ _ _ h => h) (Or.inl ⟨by rfl, ?_⟩) ?_ ?_
             rotate_left
             · intro w'
               go_simp
               with_reducible rfl
             rotate_left
             · simp only [Act.put, sI_, sZ_, sS_, i64_w, i32_w]
               rfl
             refine pure_ (i := 20) (N := some 31) (v := ?_) (a' := ?_) #[true, true, true, true, true, false, false, true, true, true, true, false, false, false, true, true, true, true, false, false, true, false, false, false, false, false, false, false, false] rfl rfl (any_of HT_.out (by kernel_rfl)) (fun _ _ _ h => h) (Or.inl ⟨by rfl, ?_⟩) ?_ ?_
             rotate_left
             · intro w'
               go_simp
               with_reducible rfl
             rotate_left
             · simp only [Act.put, sI_, sZ_, sS_, i64_w, i32_w]
               rfl
             refine pure_ (i := 21) (N := some 32) (v := ?_) (a' := ?_) #[true, true, true, true, true, false, false, true, true, true, true, false, false, false, true, true, true, true, false, false, true, true, false, false, false, false, false, false, false] rfl rfl (any_of HT_.out (by kernel_rfl)) (fun _ _ _ h => h) (Or.inl ⟨by rfl, ?_⟩) ?_ ?_
             rotate_left
             · intro w'
               go_simp
               with_reducible rfl
             rotate_left
             · simp only [Act.put, sI_, sZ_, sS_, i64_w, i32_w]
               rfl
             refine pure_ (i := 22) (N := some 33) (v := ?_) (a' := ?_) #[true, true, true, true, true, false, false, true, true, true, true, false, false, false, true, true, true, true, false, false, true, true, true, false, false, false, false, false, false] rfl rfl (any_of HT_.out (by kernel_rfl)) (fun _ _ _ h => h) (Or.inl ⟨by rfl, ?_⟩) ?_ ?_
             rotate_left
             · intro w'
               go_simp
               with_reducible rfl
             rotate_left
             · simp only [Act.put, sI_, sZ_, sS_, i64_w, i32_w]
               rfl
             refine pure_ (i := 23) (N := some 34) (v := ?_) (a' := ?_) #[true, true, true, true, true, false, false, true, true, true, true, false, false, false, true, true, true, true, false, false, true, true, true, true, false, false, false, false, false] rfl rfl (any_of HT_.out (by kernel_rfl)) (fun _ _ _ h => h) (Or.inl ⟨by rfl, ?_⟩) ?_ ?_
             rotate_left
             · intro w'
               go_simp
               with_reducible rfl
             rotate_left
             · simp only [Act.put, sI_, sZ_, sS_, i64_w, i32_w]
               rfl
             refine take_ (i := 5) (N := some 16) (v := ?_) (a' := ?_) #[true, true, true, true, true, true, false, true, true, true, true, false, false, false, true, true, true, true, false, false, true, true, true, true, false, false, false, false, false] rfl rfl (take_ofW HT_.out HW_.out (by kernel_rfl)) (fun _ _ _ h => h) (Or.inl ⟨by rfl, ?_⟩) hHeld ?_ ?_
             rotate_left
             · rintro w' ⟨s0, s1, s2, s3, s4, s5, s6, s7, s8, s9, s10, s11, s12, s13, s14, s15⟩
               go_simp
               with_reducible rfl
             rotate_left
             · simp only [Act.put, sI_, sZ_, sS_, i64_w, i32_w]
               rfl
             refine take_ (i := 11) (N := some 22) (v := ?_) (a' := ?_) #[true, true, true, true, true, true, false, true, true, true, true, true, false, false, true, true, true, true, false, false, true, true, true, true, false, false, false, false, false] rfl rfl (take_ofW HT_.out HW_.out (by kernel_rfl)) (fun _ _ _ h => h) (Or.inl ⟨by rfl, ?_⟩) hHeld ?_ ?_
             rotate_left
             · rintro w' ⟨s0, s1, s2, s3, s4, s5, s6, s7, s8, s9, s10, s11, s12, s13, s14, s15⟩
               go_simp
               with_reducible rfl
             rotate_left
             · simp only [Act.put, sI_, sZ_, sS_, i64_w, i32_w]
               rfl
             refine take_ (i := 18) (N := some 29) (v := ?_) (a' := ?_) #[true, true, true, true, true, true, false, true, true, true, true, true, false, false, true, true, true, true, true, false, true, true, true, true, false, false, false, false, false] rfl rfl (take_ofW HT_.out HW_.out (by kernel_rfl)) (fun _ _ _ h => h) (Or.inl ⟨by rfl, ?_⟩) hHeld ?_ ?_
             rotate_left
             · rintro w' ⟨s0, s1, s2, s3, s4, s5, s6, s7, s8, s9, s10, s11, s12, s13, s14, s15⟩
               go_simp
               with_reducible rfl
             rotate_left
             · simp only [Act.put, sI_, sZ_, sS_, i64_w, i32_w]
               rfl
             refine take_ (i := 24) (N := some 35) (v := ?_) (a' := ?_) #[true, true, true, true, true, true, false, true, true, true, true, true, false, false, true, true, true, true, true, false, true, true, true, true, true, false, false, false, false] rfl rfl (take_ofW HT_.out HW_.out (by kernel_rfl)) (fun _ _ _ h => h) (Or.inl ⟨by rfl, ?_⟩) hHeld ?_ ?_
             rotate_left
             · rintro w' ⟨s0, s1, s2, s3, s4, s5, s6, s7, s8, s9, s10, s11, s12, s13, s14, s15⟩
               go_simp
               with_reducible rfl
             rotate_left
             · simp only [Act.put, sI_, sZ_, sS_, i64_w, i32_w]
               rfl
             refine join_ (σ := Value × Value × Value) 5 #[true, true, true, true, true, true, true, true, true, true, true, true, true, true, true, true, true, true, true, false, true, true, true, true, true, false, false, false, false] (fun s_ => [(17, s_.1), (23, s_.2.1), (24, s_.2.2)]) (fun s_ w' => (w'.cell? (ad200.add ((x4_1).toNat * 4)) = some (.int .i64 ((rd_T57 l0 x4_1).f0)) ∧ w'.cell? ⟨(ad200.add ((x4_1).toNat * 4)).block, (ad200.add ((x4_1).toNat * 4)).off + 1, none⟩ = some (.slice A200_1 ((rd_T57 l0 x4_1).f1).length c200_1) ∧ w'.cell? ⟨(ad200.add ((x4_1).toNat * 4)).block, (ad200.add ((x4_1).toNat * 4)).off + 2, none⟩ = some (.slice A200_2 ((rd_T57 l0 x4_1).f2).length c200_2) ∧ w'.cell? ⟨(ad200.add ((x4_1).toNat * 4)).block, (ad200.add ((x4_1).toNat * 4)).off + 3, none⟩ = some (.bool ((rd_T57 l0 x4_1).f3)) ∧ w'.cell? (ad200.add ((x4_1).toNat * 4)) = some (.int .i64 ((rd_T57 l0 x4_1).f0)) ∧ w'.cell? ⟨(ad200.add ((x4_1).toNat * 4)).block, (ad200.add ((x4_1).toNat * 4)).off + 1, none⟩ = some (.slice A200_1 ((rd_T57 l0 x4_1).f1).length c200_1) ∧ w'.cell? ⟨(ad200.add ((x4_1).toNat * 4)).block, (ad200.add ((x4_1).toNat * 4)).off + 2, none⟩ = some (.slice A200_2 ((rd_T57 l0 x4_1).f2).length c200_2) ∧ w'.cell? ⟨(ad200.add ((x4_1).toNat * 4)).block, (ad200.add ((x4_1).toNat * 4)).off + 3, none⟩ = some (.bool ((rd_T57 l0 x4_1).f3)) ∧ w'.cell? (ad200.add ((x4_1).toNat * 4)) = some (.int .i64 ((rd_T57 l0 x4_1).f0)) ∧ w'.cell? ⟨(ad200.add ((x4_1).toNat * 4)).block, (ad200.add ((x4_1).toNat * 4)).off + 1, none⟩ = some (.slice A200_1 ((rd_T57 l0 x4_1).f1).length c200_1) ∧ w'.cell? ⟨(ad200.add ((x4_1).toNat * 4)).block, (ad200.add ((x4_1).toNat * 4)).off + 2, none⟩ = some (.slice A200_2 ((rd_T57 l0 x4_1).f2).length c200_2) ∧ w'.cell? ⟨(ad200.add ((x4_1).toNat * 4)).block, (ad200.add ((x4_1).toNat * 4)).off + 3, none⟩ = some (.bool ((rd_T57 l0 x4_1).f3)) ∧ w'.cell? (ad200.add ((x4_1).toNat * 4)) = some (.int .i64 ((rd_T57 l0 x4_1).f0)) ∧ w'.cell? ⟨(ad200.add ((x4_1).toNat * 4)).block, (ad200.add ((x4_1).toNat * 4)).off + 1, none⟩ = some (.slice A200_1 ((rd_T57 l0 x4_1).f1).length c200_1) ∧ w'.cell? ⟨(ad200.add ((x4_1).toNat * 4)).block, (ad200.add ((x4_1).toNat * 4)).off + 2, none⟩ = some (.slice A200_2 ((rd_T57 l0 x4_1).f2).length c200_2) ∧ w'.cell? ⟨(ad200.add ((x4_1).toNat * 4)).block, (ad200.add ((x4_1).toNat * 4)).off + 3, none⟩ = some (.bool ((rd_T57 l0 x4_1).f3))) ∧ (Kd.R (Kd.int .u8) 5 w' w.heap.size (fun k_ => some k_ ≠ (s_.2.2 : Value).ownBlock) s_.2.1 y205) ∧ (Kd.R (Kd.int .u8) 5 w' w.heap.size (fun k_ => some k_ ≠ (s_.2.1 : Value).ownBlock) s_.2.2 y208) ∧ (Kd.S k57 57 w' w.heap.size (fun k_ => some k_ ≠ (s_.2.1 : Value).ownBlock ∧ some k_ ≠ (s_.2.2 : Value).ownBlock) (.slice Ao7 x3_1.length co7) x3_1) ∧ (Below w.heap.size w w')) ?_ ?_
             rotate_left
             · intro hCont
               refine two_ (i := 6) (j := 13) (Ni := some 17) (Nj := some 24) #[true, true, true, true, true, true, true, true, true, true, true, true, false, false, true, true, true, true, true, false, true, true, true, true, true, false, false, false, false] #[true, true, true, true, true, true, false, true, true, true, true, true, false, true, true, true, true, true, true, false, true, true, true, true, true, false, false, false, false] rfl rfl rfl rfl (two_of HT_.out (by kernel_rfl)) (by decide) (by decide) (fun K hK => ?_) (fun K hK => ?_)
               · skip
                 refine Kd.R_lit_step (Kd.int .u8) _ 5 ?hg (N := 17) ?hd (xs := ([] : List Int)) (inner := []) (ok := fun _ => True) (okp := fun _ => True) ?hr ?hp (fun _ hk => hk) trivial (Below.refl _ _) (Nat.le_refl _) (by simp) ?_; (case hd => rfl); (case hg => rfl); (case hr => first | (go_simp; done) | (go_simp; rfl)); (case hp => exact (Reps.none _ _))
                 intro v202 w9 ho10 hb hg_ hnew_
                 clear hg_ hnew_
                 (first | rw [← Ny201.out] at ho10 | (simp only [Int.reduceToNat] at ho10; rw [← Ny201.out] at ho10))
                 have n0_ := m0_ (Kd.S_elder' (by (with_reducible repeat (first | apply Kd.S_alloc | apply Kd.S_drewN | apply Kd.S_drew)); exact HO_3.out) (Kd.R_base ho10) hb)
                 have n1_ := m0_ (Kd.R_lower ho10 (below_size (by repeat (first | (with_reducible first | exact HB.out | apply bA_ | apply dN_ | apply b1_) | exact HB.out))))
                 have n2_ := m0_ (below_step (by repeat (first | (with_reducible first | exact HB.out | apply bA_ | apply dN_ | apply b1_) | exact HB.out)) hb)
                 clear HO_3
                 clear HB
                 have HO_3 := n0_
                 have HO203 := n1_
                 have HB := n2_
                 clear n0_ n1_ n2_
                 clear hb ho10
                 refine hK.out _ _ ⟨((HB.out.cell (bL_ w _ hw200_0)).trans hw200_0), ((HB.out.cell (bL_ w _ hw200_1)).trans hw200_1), ((HB.out.cell (bL_ w _ hw200_2)).trans hw200_2), ((HB.out.cell (bL_ w _ hw200_3)).trans hw200_3), ((HB.out.cell (bL_ w _ hw204_0)).trans hw204_0), ((HB.out.cell (bL_ w _ hw204_1)).trans hw204_1), ((HB.out.cell (bL_ w _ hw204_2)).trans hw204_2), ((HB.out.cell (bL_ w _ hw204_3)).trans hw204_3), ((HB.out.cell (bL_ w _ hw211_0)).trans hw211_0), ((HB.out.cell (bL_ w _ hw211_1)).trans hw211_1), ((HB.out.cell (bL_ w _ hw211_2)).trans hw211_2), ((HB.out.cell (bL_ w _ hw211_3)).trans hw211_3), ((HB.out.cell (bL_ w _ hw215_0)).trans hw215_0), ((HB.out.cell (bL_ w _ hw215_1)).trans hw215_1), ((HB.out.cell (bL_ w _ hw215_2)).trans hw215_2), ((HB.out.cell (bL_ w _ hw215_3)).trans hw215_3)⟩ (fun hHeld => ?_)
                 clear hK K
                 refine norm_ (a' := ?_) ?_ ?_
                 rotate_left
                 · show Act.put _ (some 17) _ = _
                   simp only [Act.put, sI_, sZ_, sS_, i64_w, i32_w]
                   rfl
                 refine two_ (i := 12) (j := 13) (Ni := some 23) (Nj := some 24) #[true, true, true, true, true, true, true, true, true, true, true, true, true, false, true, true, true, true, true, false, true, true, true, true, true, false, false, false, false] #[true, true, true, true, true, true, true, true, true, true, true, true, false, true, true, true, true, true, true, false, true, true, true, true, true, false, false, false, false] rfl rfl rfl rfl (two_of HT_.out (by kernel_rfl)) (by decide) (by decide) (fun K hK => ?_) (fun K hK => ?_)
                 · skip
                   refine Kd.R_append_rows_step (Kd.int .u8) (w0 := w) w.heap.size (by rfl) (.tmp 17) (.tmp 22) 55 5 (.int .u8 0) 1 rfl Try.underlying55 info5 rfl (by decide) (by omega) v202 y201 ((rd_T57 l0 x4_1).f1) _ _ _ (fun _ => True) (fun _ => False) rfl rfl ?aO ?aR (fun _ _ h => h) (fun _ h => h.elim) ?aF ?aB ?aS ?aL ?_
                   (case aR => repeat (first | exact (kB_ HR204_1.out HB.out) | (with_reducible first | refine kA_ ?_ _ | refine kN_ ?_ _ | refine kD_ ?_)))
                   (case aB => exact (by repeat (first | (with_reducible first | exact HB.out | apply bA_ | apply dN_ | apply b1_) | exact HB.out)))
                   (case aF => exact (fun _ _ => trivial))
                   (case aO => exact (by (with_reducible repeat (first | apply Kd.R_alloc | apply Kd.R_drewN | apply Kd.R_drew)); exact HO203.out))
                   (case aS => exact (below_size (by repeat (first | (with_reducible first | exact HB.out | apply bA_ | apply dN_ | apply b1_) | exact HB.out))))
                   (case aL => have := LMc4.out; omega)
                   intro v206 w11 ho hb hg hat
                   rw [← Ny205.out] at ho
                   have n0_ := m0_ (Kd.S_after (ok := (fun _ => True)) (by (with_reducible repeat (first | apply Kd.S_alloc | apply Kd.S_drewN | apply Kd.S_drew)); exact HO_3.out) hg hat)
                   have n1_ := m0_ (hb)
                   have n2_ := m0_ (ho)
                   clear HO_3
                   clear HB
                   clear HO203
                   have HO_3 := n0_
                   have HB := n1_
                   have HO207 := n2_
                   clear n0_ n1_ n2_
                   clear ho hb hg hat
                   refine hK.out _ _ ⟨((HB.out.cell (bL_ w _ hw200_0)).trans hw200_0), ((HB.out.cell (bL_ w _ hw200_1)).trans hw200_1), ((HB.out.cell (bL_ w _ hw200_2)).trans hw200_2), ((HB.out.cell (bL_ w _ hw200_3)).trans hw200_3), ((HB.out.cell (bL_ w _ hw204_0)).trans hw204_0), ((HB.out.cell (bL_ w _ hw204_1)).trans hw204_1), ((HB.out.cell (bL_ w _ hw204_2)).trans hw204_2), ((HB.out.cell (bL_ w _ hw204_3)).trans hw204_3), ((HB.out.cell (bL_ w _ hw211_0)).trans hw211_0), ((HB.out.cell (bL_ w _ hw211_1)).trans hw211_1), ((HB.out.cell (bL_ w _ hw211_2)).trans hw211_2), ((HB.out.cell (bL_ w _ hw211_3)).trans hw211_3), ((HB.out.cell (bL_ w _ hw215_0)).trans hw215_0), ((HB.out.cell (bL_ w _ hw215_1)).trans hw215_1), ((HB.out.cell (bL_ w _ hw215_2)).trans hw215_2), ((HB.out.cell (bL_ w _ hw215_3)).trans hw215_3)⟩ (fun hHeld => ?_)
                   clear hK K
                   refine norm_ (a' := ?_) ?_ ?_
                   rotate_left
                   · show Act.put _ (some 23) _ = _
                     simp only [Act.put, sI_, sZ_, sS_, i64_w, i32_w]
                     rfl
                   refine one_ (i := 13) (N := some 24) #[true, true, true, true, true, true, true, true, true, true, true, true, true, true, true, true, true, true, true, false, true, true, true, true, true, false, false, false, false] rfl rfl (one_of HT_.out (by kernel_rfl)) (by decide) (fun K hK => ?_)
                   refine Kd.R_lit_step (Kd.int .u8) _ 5 ?hg (N := 24) ?hd (xs := ([] : List Int)) (inner := []) (ok := fun _ => True) (okp := fun _ => True) ?hr ?hp (fun _ hk => hk) trivial (Below.refl _ _) (Nat.le_refl _) (by simp) ?_; (case hd => rfl); (case hg => rfl); (case hr => first | (go_simp; done) | (go_simp; rfl)); (case hp => exact (Reps.none _ _))
                   intro v209 w12 ho13 hb hg_ hnew_
                   clear hg_ hnew_
                   (first | rw [← Ny208.out] at ho13 | (simp only [Int.reduceToNat] at ho13; rw [← Ny208.out] at ho13))
                   have n0_ := m0_ (Kd.S_elder' (by (with_reducible repeat (first | apply Kd.S_alloc | apply Kd.S_drewN | apply Kd.S_drew)); exact HO_3.out) (Kd.R_base ho13) hb)
                   have n1_ := m0_ (Kd.R_elder' (by (with_reducible repeat (first | apply Kd.R_alloc | apply Kd.R_drewN | apply Kd.R_drew)); exact HO207.out) (Kd.R_base ho13) hb)
                   have n2_ := m0_ (Kd.R_lower (Kd.R_new' ho13 (Kd.R_lt (by (with_reducible repeat (first | apply Kd.R_alloc | apply Kd.R_drewN | apply Kd.R_drew)); exact HO207.out))) (below_size (by repeat (first | (with_reducible first | exact HB.out | apply bA_ | apply dN_ | apply b1_) | exact HB.out))))
                   have n3_ := m0_ (below_step (by repeat (first | (with_reducible first | exact HB.out | apply bA_ | apply dN_ | apply b1_) | exact HB.out)) hb)
                   clear HO_3
                   clear HO207
                   clear HB
                   have HO_3 := n0_
                   have HO207 := n1_
                   have HO210 := n2_
                   have HB := n3_
                   clear n0_ n1_ n2_ n3_
                   clear hb ho13
                   refine hK.out _ _ ⟨((HB.out.cell (bL_ w _ hw200_0)).trans hw200_0), ((HB.out.cell (bL_ w _ hw200_1)).trans hw200_1), ((HB.out.cell (bL_ w _ hw200_2)).trans hw200_2), ((HB.out.cell (bL_ w _ hw200_3)).trans hw200_3), ((HB.out.cell (bL_ w _ hw204_0)).trans hw204_0), ((HB.out.cell (bL_ w _ hw204_1)).trans hw204_1), ((HB.out.cell (bL_ w _ hw204_2)).trans hw204_2), ((HB.out.cell (bL_ w _ hw204_3)).trans hw204_3), ((HB.out.cell (bL_ w _ hw211_0)).trans hw211_0), ((HB.out.cell (bL_ w _ hw211_1)).trans hw211_1), ((HB.out.cell (bL_ w _ hw211_2)).trans hw211_2), ((HB.out.cell (bL_ w _ hw211_3)).trans hw211_3), ((HB.out.cell (bL_ w _ hw215_0)).trans hw215_0), ((HB.out.cell (bL_ w _ hw215_1)).trans hw215_1), ((HB.out.cell (bL_ w _ hw215_2)).trans hw215_2), ((HB.out.cell (bL_ w _ hw215_3)).trans hw215_3)⟩ (fun hHeld => ?_)
                   clear hK K
                   refine norm_ (a' := ?_) ?_ ?_
                   rotate_left
                   · show Act.put _ (some 24) _ = _
                     simp only [Act.put, sI_, sZ_, sS_, i64_w, i32_w]
                     rfl
                   exact norm_ (by simp only [putAll, Act.put, sI_, sZ_, sS_]) (hCont (v202, v206, v209) _ ⟨hHeld, (by (with_reducible repeat (first | apply Kd.R_alloc | apply Kd.R_drewN | apply Kd.R_drew)); exact Kd.R_mono HO207.out (fun _ hk => hk.2)), (by (with_reducible repeat (first | apply Kd.R_alloc | apply Kd.R_drewN | apply Kd.R_drew)); exact Kd.R_mono HO210.out (fun _ hk => hk.2)), (by (with_reducible repeat (first | apply Kd.S_alloc | apply Kd.S_drewN | apply Kd.S_drew)); exact Kd.S_mono HO_3.out (fun _ hk => ⟨hk.1.2, hk.2⟩)), (by repeat (first | (with_reducible first | exact HB.out | apply bA_ | apply dN_ | apply b1_) | exact HB.out))⟩)
                 · skip
                   refine Kd.R_lit_step (Kd.int .u8) _ 5 ?hg (N := 24) ?hd (xs := ([] : List Int)) (inner := []) (ok := fun _ => True) (okp := fun _ => True) ?hr ?hp (fun _ hk => hk) trivial (Below.refl _ _) (Nat.le_refl _) (by simp) ?_; (case hd => rfl); (case hg => rfl); (case hr => first | (go_simp; done) | (go_simp; rfl)); (case hp => exact (Reps.none _ _))
                   intro v209 w11 ho12 hb hg_ hnew_
                   clear hg_ hnew_
                   (first | rw [← Ny208.out] at ho12 | (simp only [Int.reduceToNat] at ho12; rw [← Ny208.out] at ho12))
                   have n0_ := m0_ (Kd.S_elder' (by (with_reducible repeat (first | apply Kd.S_alloc | apply Kd.S_drewN | apply Kd.S_drew)); exact HO_3.out) (Kd.R_base ho12) hb)
                   have n1_ := m0_ (Kd.R_elder' (by (with_reducible repeat (first | apply Kd.R_alloc | apply Kd.R_drewN | apply Kd.R_drew)); exact HO203.out) (Kd.R_base ho12) hb)
                   have n2_ := m0_ (Kd.R_lower (Kd.R_new' ho12 (Kd.R_lt (by (with_reducible repeat (first | apply Kd.R_alloc | apply Kd.R_drewN | apply Kd.R_drew)); exact HO203.out))) (below_size (by repeat (first | (with_reducible first | exact HB.out | apply bA_ | apply dN_ | apply b1_) | exact HB.out))))
                   have n3_ := m0_ (below_step (by repeat (first | (with_reducible first | exact HB.out | apply bA_ | apply dN_ | apply b1_) | exact HB.out)) hb)
                   clear HO_3
                   clear HO203
                   clear HB
                   have HO_3 := n0_
                   have HO203 := n1_
                   have HO210 := n2_
                   have HB := n3_
                   clear n0_ n1_ n2_ n3_
                   clear hb ho12
                   refine hK.out _ _ ⟨((HB.out.cell (bL_ w _ hw200_0)).trans hw200_0), ((HB.out.cell (bL_ w _ hw200_1)).trans hw200_1), ((HB.out.cell (bL_ w _ hw200_2)).trans hw200_2), ((HB.out.cell (bL_ w _ hw200_3)).trans hw200_3), ((HB.out.cell (bL_ w _ hw204_0)).trans hw204_0), ((HB.out.cell (bL_ w _ hw204_1)).trans hw204_1), ((HB.out.cell (bL_ w _ hw204_2)).trans hw204_2), ((HB.out.cell (bL_ w _ hw204_3)).trans hw204_3), ((HB.out.cell (bL_ w _ hw211_0)).trans hw211_0), ((HB.out.cell (bL_ w _ hw211_1)).trans hw211_1), ((HB.out.cell (bL_ w _ hw211_2)).trans hw211_2), ((HB.out.cell (bL_ w _ hw211_3)).trans hw211_3), ((HB.out.cell (bL_ w _ hw215_0)).trans hw215_0), ((HB.out.cell (bL_ w _ hw215_1)).trans hw215_1), ((HB.out.cell (bL_ w _ hw215_2)).trans hw215_2), ((HB.out.cell (bL_ w _ hw215_3)).trans hw215_3)⟩ (fun hHeld => ?_)
                   clear hK K
                   refine norm_ (a' := ?_) ?_ ?_
                   rotate_left
                   · show Act.put _ (some 24) _ = _
                     simp only [Act.put, sI_, sZ_, sS_, i64_w, i32_w]
                     rfl
                   refine one_ (i := 12) (N := some 23) #[true, true, true, true, true, true, true, true, true, true, true, true, true, true, true, true, true, true, true, false, true, true, true, true, true, false, false, false, false] rfl rfl (one_of HT_.out (by kernel_rfl)) (by decide) (fun K hK => ?_)
                   refine Kd.R_append_rows_step (Kd.int .u8) (w0 := w) w.heap.size (by rfl) (.tmp 17) (.tmp 22) 55 5 (.int .u8 0) 1 rfl Try.underlying55 info5 rfl (by decide) (by omega) v202 y201 ((rd_T57 l0 x4_1).f1) _ _ _ (fun k_ => some k_ ≠ (v209 : Value).ownBlock) (fun _ => False) rfl rfl ?aO ?aR (fun _ _ h => h) (fun _ h => h.elim) ?aF ?aB ?aS ?aL ?_
                   (case aR => repeat (first | exact (kB_ HR204_1.out HB.out) | (with_reducible first | refine kA_ ?_ _ | refine kN_ ?_ _ | refine kD_ ?_)))
                   (case aB => exact (by repeat (first | (with_reducible first | exact HB.out | apply bA_ | apply dN_ | apply b1_) | exact HB.out)))
                   (case aF => exact (fun k_ hk => Kd.fresh' (Kd.R_lt (by (with_reducible repeat (first | apply Kd.R_alloc | apply Kd.R_drewN | apply Kd.R_drew)); exact HO210.out)) k_ hk))
                   (case aO => exact (by (with_reducible repeat (first | apply Kd.R_alloc | apply Kd.R_drewN | apply Kd.R_drew)); exact Kd.R_mono HO203.out (fun _ hk => hk.2)))
                   (case aS => exact (below_size (by repeat (first | (with_reducible first | exact HB.out | apply bA_ | apply dN_ | apply b1_) | exact HB.out))))
                   (case aL => have := LMc4.out; omega)
                   intro v206 w13 ho hb hg hat
                   rw [← Ny205.out] at ho
                   have n0_ := m0_ (Kd.S_after (ok := (fun k_ => some k_ ≠ (v209 : Value).ownBlock)) (by (with_reducible repeat (first | apply Kd.S_alloc | apply Kd.S_drewN | apply Kd.S_drew)); exact Kd.S_mono HO_3.out (fun _ hk => ⟨hk.2, hk.1.2⟩)) hg hat)
                   have n1_ := m0_ (Kd.R_after (ok := (fun _ => True)) (by (with_reducible repeat (first | apply Kd.R_alloc | apply Kd.R_drewN | apply Kd.R_drew)); exact HO210.out) hg hat)
                   have n2_ := m0_ (hb)
                   have n3_ := m0_ (ho)
                   clear HO_3
                   clear HO210
                   clear HB
                   clear HO203
                   have HO_3 := n0_
                   have HO210 := n1_
                   have HB := n2_
                   have HO207 := n3_
                   clear n0_ n1_ n2_ n3_
                   clear ho hb hg hat
                   refine hK.out _ _ ⟨((HB.out.cell (bL_ w _ hw200_0)).trans hw200_0), ((HB.out.cell (bL_ w _ hw200_1)).trans hw200_1), ((HB.out.cell (bL_ w _ hw200_2)).trans hw200_2), ((HB.out.cell (bL_ w _ hw200_3)).trans hw200_3), ((HB.out.cell (bL_ w _ hw204_0)).trans hw204_0), ((HB.out.cell (bL_ w _ hw204_1)).trans hw204_1), ((HB.out.cell (bL_ w _ hw204_2)).trans hw204_2), ((HB.out.cell (bL_ w _ hw204_3)).trans hw204_3), ((HB.out.cell (bL_ w _ hw211_0)).trans hw211_0), ((HB.out.cell (bL_ w _ hw211_1)).trans hw211_1), ((HB.out.cell (bL_ w _ hw211_2)).trans hw211_2), ((HB.out.cell (bL_ w _ hw211_3)).trans hw211_3), ((HB.out.cell (bL_ w _ hw215_0)).trans hw215_0), ((HB.out.cell (bL_ w _ hw215_1)).trans hw215_1), ((HB.out.cell (bL_ w _ hw215_2)).trans hw215_2), ((HB.out.cell (bL_ w _ hw215_3)).trans hw215_3)⟩ (fun hHeld => ?_)
                   clear hK K
                   refine norm_ (a' := ?_) ?_ ?_
                   rotate_left
                   · show Act.put _ (some 23) _ = _
                     simp only [Act.put, sI_, sZ_, sS_, i64_w, i32_w]
                     rfl
                   exact norm_ (by simp only [putAll, Act.put, sI_, sZ_, sS_]) (hCont (v202, v206, v209) _ ⟨hHeld, (by (with_reducible repeat (first | apply Kd.R_alloc | apply Kd.R_drewN | apply Kd.R_drew)); exact HO207.out), (by (with_reducible repeat (first | apply Kd.R_alloc | apply Kd.R_drewN | apply Kd.R_drew)); exact Kd.R_mono HO210.out (fun _ hk => hk.2)), (by (with_reducible repeat (first | apply Kd.S_alloc | apply Kd.S_drewN | apply Kd.S_drew)); exact Kd.S_mono HO_3.out (fun _ hk => ⟨hk.2, hk.1⟩)), (by repeat (first | (with_reducible first | exact HB.out | apply bA_ | apply dN_ | apply b1_) | exact HB.out))⟩)
               · skip
                 refine Kd.R_lit_step (Kd.int .u8) _ 5 ?hg (N := 24) ?hd (xs := ([] : List Int)) (inner := []) (ok := fun _ => True) (okp := fun _ => True) ?hr ?hp (fun _ hk => hk) trivial (Below.refl _ _) (Nat.le_refl _) (by simp) ?_; (case hd => rfl); (case hg => rfl); (case hr => first | (go_simp; done) | (go_simp; rfl)); (case hp => exact (Reps.none _ _))
                 intro v209 w9 ho10 hb hg_ hnew_
                 clear hg_ hnew_
                 (first | rw [← Ny208.out] at ho10 | (simp only [Int.reduceToNat] at ho10; rw [← Ny208.out] at ho10))
                 have n0_ := m0_ (Kd.S_elder' (by (with_reducible repeat (first | apply Kd.S_alloc | apply Kd.S_drewN | apply Kd.S_drew)); exact HO_3.out) (Kd.R_base ho10) hb)
                 have n1_ := m0_ (Kd.R_lower ho10 (below_size (by repeat (first | (with_reducible first | exact HB.out | apply bA_ | apply dN_ | apply b1_) | exact HB.out))))
                 have n2_ := m0_ (below_step (by repeat (first | (with_reducible first | exact HB.out | apply bA_ | apply dN_ | apply b1_) | exact HB.out)) hb)
                 clear HO_3
                 clear HB
                 have HO_3 := n0_
                 have HO210 := n1_
                 have HB := n2_
                 clear n0_ n1_ n2_
                 clear hb ho10
                 refine hK.out _ _ ⟨((HB.out.cell (bL_ w _ hw200_0)).trans hw200_0), ((HB.out.cell (bL_ w _ hw200_1)).trans hw200_1), ((HB.out.cell (bL_ w _ hw200_2)).trans hw200_2), ((HB.out.cell (bL_ w _ hw200_3)).trans hw200_3), ((HB.out.cell (bL_ w _ hw204_0)).trans hw204_0), ((HB.out.cell (bL_ w _ hw204_1)).trans hw204_1), ((HB.out.cell (bL_ w _ hw204_2)).trans hw204_2), ((HB.out.cell (bL_ w _ hw204_3)).trans hw204_3), ((HB.out.cell (bL_ w _ hw211_0)).trans hw211_0), ((HB.out.cell (bL_ w _ hw211_1)).trans hw211_1), ((HB.out.cell (bL_ w _ hw211_2)).trans hw211_2), ((HB.out.cell (bL_ w _ hw211_3)).trans hw211_3), ((HB.out.cell (bL_ w _ hw215_0)).trans hw215_0), ((HB.out.cell (bL_ w _ hw215_1)).trans hw215_1), ((HB.out.cell (bL_ w _ hw215_2)).trans hw215_2), ((HB.out.cell (bL_ w _ hw215_3)).trans hw215_3)⟩ (fun hHeld => ?_)
                 clear hK K
                 refine norm_ (a' := ?_) ?_ ?_
                 rotate_left
                 · show Act.put _ (some 24) _ = _
                   simp only [Act.put, sI_, sZ_, sS_, i64_w, i32_w]
                   rfl
                 refine one_ (i := 6) (N := some 17) #[true, true, true, true, true, true, true, true, true, true, true, true, false, true, true, true, true, true, true, false, true, true, true, true, true, false, false, false, false] rfl rfl (one_of HT_.out (by kernel_rfl)) (by decide) (fun K hK => ?_)
                 refine Kd.R_lit_step (Kd.int .u8) _ 5 ?hg (N := 17) ?hd (xs := ([] : List Int)) (inner := []) (ok := fun _ => True) (okp := fun _ => True) ?hr ?hp (fun _ hk => hk) trivial (Below.refl _ _) (Nat.le_refl _) (by simp) ?_; (case hd => rfl); (case hg => rfl); (case hr => first | (go_simp; done) | (go_simp; rfl)); (case hp => exact (Reps.none _ _))
                 intro v202 w11 ho12 hb hg_ hnew_
                 clear hg_ hnew_
                 (first | rw [← Ny201.out] at ho12 | (simp only [Int.reduceToNat] at ho12; rw [← Ny201.out] at ho12))
                 have n0_ := m0_ (Kd.S_elder' (by (with_reducible repeat (first | apply Kd.S_alloc | apply Kd.S_drewN | apply Kd.S_drew)); exact HO_3.out) (Kd.R_base ho12) hb)
                 have n1_ := m0_ (Kd.R_elder' (by (with_reducible repeat (first | apply Kd.R_alloc | apply Kd.R_drewN | apply Kd.R_drew)); exact HO210.out) (Kd.R_base ho12) hb)
                 have n2_ := m0_ (Kd.R_lower (Kd.R_new' ho12 (Kd.R_lt (by (with_reducible repeat (first | apply Kd.R_alloc | apply Kd.R_drewN | apply Kd.R_drew)); exact HO210.out))) (below_size (by repeat (first | (with_reducible first | exact HB.out | apply bA_ | apply dN_ | apply b1_) | exact HB.out))))
                 have n3_ := m0_ (below_step (by repeat (first | (with_reducible first | exact HB.out | apply bA_ | apply dN_ | apply b1_) | exact HB.out)) hb)
                 clear HO_3
                 clear HO210
                 clear HB
                 have HO_3 := n0_
                 have HO210 := n1_
                 have HO203 := n2_
                 have HB := n3_
                 clear n0_ n1_ n2_ n3_
                 clear hb ho12
                 refine hK.out _ _ ⟨((HB.out.cell (bL_ w _ hw200_0)).trans hw200_0), ((HB.out.cell (bL_ w _ hw200_1)).trans hw200_1), ((HB.out.cell (bL_ w _ hw200_2)).trans hw200_2), ((HB.out.cell (bL_ w _ hw200_3)).trans hw200_3), ((HB.out.cell (bL_ w _ hw204_0)).trans hw204_0), ((HB.out.cell (bL_ w _ hw204_1)).trans hw204_1), ((HB.out.cell (bL_ w _ hw204_2)).trans hw204_2), ((HB.out.cell (bL_ w _ hw204_3)).trans hw204_3), ((HB.out.cell (bL_ w _ hw211_0)).trans hw211_0), ((HB.out.cell (bL_ w _ hw211_1)).trans hw211_1), ((HB.out.cell (bL_ w _ hw211_2)).trans hw211_2), ((HB.out.cell (bL_ w _ hw211_3)).trans hw211_3), ((HB.out.cell (bL_ w _ hw215_0)).trans hw215_0), ((HB.out.cell (bL_ w _ hw215_1)).trans hw215_1), ((HB.out.cell (bL_ w _ hw215_2)).trans hw215_2), ((HB.out.cell (bL_ w _ hw215_3)).trans hw215_3)⟩ (fun hHeld => ?_)
                 clear hK K
                 refine norm_ (a' := ?_) ?_ ?_
                 rotate_left
                 · show Act.put _ (some 17) _ = _
                   simp only [Act.put, sI_, sZ_, sS_, i64_w, i32_w]
                   rfl
                 refine one_ (i := 12) (N := some 23) #[true, true, true, true, true, true, true, true, true, true, true, true, true, true, true, true, true, true, true, false, true, true, true, true, true, false, false, false, false] rfl rfl (one_of HT_.out (by kernel_rfl)) (by decide) (fun K hK => ?_)
                 refine Kd.R_append_rows_step (Kd.int .u8) (w0 := w) w.heap.size (by rfl) (.tmp 17) (.tmp 22) 55 5 (.int .u8 0) 1 rfl Try.underlying55 info5 rfl (by decide) (by omega) v202 y201 ((rd_T57 l0 x4_1).f1) _ _ _ (fun k_ => some k_ ≠ (v209 : Value).ownBlock) (fun _ => False) rfl rfl ?aO ?aR (fun _ _ h => h) (fun _ h => h.elim) ?aF ?aB ?aS ?aL ?_
                 (case aR => repeat (first | exact (kB_ HR204_1.out HB.out) | (with_reducible first | refine kA_ ?_ _ | refine kN_ ?_ _ | refine kD_ ?_)))
                 (case aB => exact (by repeat (first | (with_reducible first | exact HB.out | apply bA_ | apply dN_ | apply b1_) | exact HB.out)))
                 (case aF => exact (fun k_ hk => Kd.fresh' (Kd.R_lt (by (with_reducible repeat (first | apply Kd.R_alloc | apply Kd.R_drewN | apply Kd.R_drew)); exact HO210.out)) k_ hk))
                 (case aO => exact (by (with_reducible repeat (first | apply Kd.R_alloc | apply Kd.R_drewN | apply Kd.R_drew)); exact Kd.R_mono HO203.out (fun _ hk => hk.2)))
                 (case aS => exact (below_size (by repeat (first | (with_reducible first | exact HB.out | apply bA_ | apply dN_ | apply b1_) | exact HB.out))))
                 (case aL => have := LMc4.out; omega)
                 intro v206 w13 ho hb hg hat
                 rw [← Ny205.out] at ho
                 have n0_ := m0_ (Kd.S_after (ok := (fun k_ => some k_ ≠ (v209 : Value).ownBlock)) (by (with_reducible repeat (first | apply Kd.S_alloc | apply Kd.S_drewN | apply Kd.S_drew)); exact Kd.S_mono HO_3.out (fun _ hk => ⟨hk.1.2, hk.2⟩)) hg hat)
                 have n1_ := m0_ (Kd.R_after (ok := (fun _ => True)) (by (with_reducible repeat (first | apply Kd.R_alloc | apply Kd.R_drewN | apply Kd.R_drew)); exact HO210.out) hg hat)
                 have n2_ := m0_ (hb)
                 have n3_ := m0_ (ho)
                 clear HO_3
                 clear HO210
                 clear HB
                 clear HO203
                 have HO_3 := n0_
                 have HO210 := n1_
                 have HB := n2_
                 have HO207 := n3_
                 clear n0_ n1_ n2_ n3_
                 clear ho hb hg hat
                 refine hK.out _ _ ⟨((HB.out.cell (bL_ w _ hw200_0)).trans hw200_0), ((HB.out.cell (bL_ w _ hw200_1)).trans hw200_1), ((HB.out.cell (bL_ w _ hw200_2)).trans hw200_2), ((HB.out.cell (bL_ w _ hw200_3)).trans hw200_3), ((HB.out.cell (bL_ w _ hw204_0)).trans hw204_0), ((HB.out.cell (bL_ w _ hw204_1)).trans hw204_1), ((HB.out.cell (bL_ w _ hw204_2)).trans hw204_2), ((HB.out.cell (bL_ w _ hw204_3)).trans hw204_3), ((HB.out.cell (bL_ w _ hw211_0)).trans hw211_0), ((HB.out.cell (bL_ w _ hw211_1)).trans hw211_1), ((HB.out.cell (bL_ w _ hw211_2)).trans hw211_2), ((HB.out.cell (bL_ w _ hw211_3)).trans hw211_3), ((HB.out.cell (bL_ w _ hw215_0)).trans hw215_0), ((HB.out.cell (bL_ w _ hw215_1)).trans hw215_1), ((HB.out.cell (bL_ w _ hw215_2)).trans hw215_2), ((HB.out.cell (bL_ w _ hw215_3)).trans hw215_3)⟩ (fun hHeld => ?_)
                 clear hK K
                 refine norm_ (a' := ?_) ?_ ?_
                 rotate_left
                 · show Act.put _ (some 23) _ = _
                   simp only [Act.put, sI_, sZ_, sS_, i64_w, i32_w]
                   rfl
                 exact norm_ (by simp only [putAll, Act.put, sI_, sZ_, sS_]) (hCont (v202, v206, v209) _ ⟨hHeld, (by (with_reducible repeat (first | apply Kd.R_alloc | apply Kd.R_drewN | apply Kd.R_drew)); exact HO207.out), (by (with_reducible repeat (first | apply Kd.R_alloc | apply Kd.R_drewN | apply Kd.R_drew)); exact Kd.R_mono HO210.out (fun _ hk => hk.2)), (by (with_reducible repeat (first | apply Kd.S_alloc | apply Kd.S_drewN | apply Kd.S_drew)); exact Kd.S_mono HO_3.out (fun _ hk => ⟨hk.2, hk.1⟩)), (by repeat (first | (with_reducible first | exact HB.out | apply bA_ | apply dN_ | apply b1_) | exact HB.out))⟩)
             rintro ⟨v202, v206, v209⟩ w14 ⟨hS_, h0_, h1_, h2_, h3_⟩
             have n0_ : Aside0 (Kd.R (Kd.int .u8) 5 w14 w.heap.size (fun k_ => some k_ ≠ (v209 : Value).ownBlock) v206 y205) := ⟨h0_⟩
             have n1_ : Aside0 (Kd.R (Kd.int .u8) 5 w14 w.heap.size (fun k_ => some k_ ≠ (v206 : Value).ownBlock) v209 y208) := ⟨h1_⟩
             have n2_ : Aside0 (Kd.S k57 57 w14 w.heap.size (fun k_ => some k_ ≠ (v206 : Value).ownBlock ∧ some k_ ≠ (v209 : Value).ownBlock) (.slice Ao7 x3_1.length co7) x3_1) := ⟨h2_⟩
             have n3_ : Aside0 (Below w.heap.size w w14) := ⟨h3_⟩
             clear HO_3
             clear HB
             clear h0_ h1_ h2_ h3_
             have HO207 := n0_
             have HO210 := n1_
             have HO_3 := n2_
             have HB := n3_
             clear n0_ n1_ n2_ n3_
             have hHeld : w14.cell? (ad200.add ((x4_1).toNat * 4)) = some (.int .i64 ((rd_T57 l0 x4_1).f0)) ∧ w14.cell? ⟨(ad200.add ((x4_1).toNat * 4)).block, (ad200.add ((x4_1).toNat * 4)).off + 1, none⟩ = some (.slice A200_1 ((rd_T57 l0 x4_1).f1).length c200_1) ∧ w14.cell? ⟨(ad200.add ((x4_1).toNat * 4)).block, (ad200.add ((x4_1).toNat * 4)).off + 2, none⟩ = some (.slice A200_2 ((rd_T57 l0 x4_1).f2).length c200_2) ∧ w14.cell? ⟨(ad200.add ((x4_1).toNat * 4)).block, (ad200.add ((x4_1).toNat * 4)).off + 3, none⟩ = some (.bool ((rd_T57 l0 x4_1).f3)) ∧ w14.cell? (ad200.add ((x4_1).toNat * 4)) = some (.int .i64 ((rd_T57 l0 x4_1).f0)) ∧ w14.cell? ⟨(ad200.add ((x4_1).toNat * 4)).block, (ad200.add ((x4_1).toNat * 4)).off + 1, none⟩ = some (.slice A200_1 ((rd_T57 l0 x4_1).f1).length c200_1) ∧ w14.cell? ⟨(ad200.add ((x4_1).toNat * 4)).block, (ad200.add ((x4_1).toNat * 4)).off + 2, none⟩ = some (.slice A200_2 ((rd_T57 l0 x4_1).f2).length c200_2) ∧ w14.cell? ⟨(ad200.add ((x4_1).toNat * 4)).block, (ad200.add ((x4_1).toNat * 4)).off + 3, none⟩ = some (.bool ((rd_T57 l0 x4_1).f3)) ∧ w14.cell? (ad200.add ((x4_1).toNat * 4)) = some (.int .i64 ((rd_T57 l0 x4_1).f0)) ∧ w14.cell? ⟨(ad200.add ((x4_1).toNat * 4)).block, (ad200.add ((x4_1).toNat * 4)).off + 1, none⟩ = some (.slice A200_1 ((rd_T57 l0 x4_1).f1).length c200_1) ∧ w14.cell? ⟨(ad200.add ((x4_1).toNat * 4)).block, (ad200.add ((x4_1).toNat * 4)).off + 2, none⟩ = some (.slice A200_2 ((rd_T57 l0 x4_1).f2).length c200_2) ∧ w14.cell? ⟨(ad200.add ((x4_1).toNat * 4)).block, (ad200.add ((x4_1).toNat * 4)).off + 3, none⟩ = some (.bool ((rd_T57 l0 x4_1).f3)) ∧ w14.cell? (ad200.add ((x4_1).toNat * 4)) = some (.int .i64 ((rd_T57 l0 x4_1).f0)) ∧ w14.cell? ⟨(ad200.add ((x4_1).toNat * 4)).block, (ad200.add ((x4_1).toNat * 4)).off + 1, none⟩ = some (.slice A200_1 ((rd_T57 l0 x4_1).f1).length c200_1) ∧ w14.cell? ⟨(ad200.add ((x4_1).toNat * 4)).block, (ad200.add ((x4_1).toNat * 4)).off + 2, none⟩ = some (.slice A200_2 ((rd_T57 l0 x4_1).f2).length c200_2) ∧ w14.cell? ⟨(ad200.add ((x4_1).toNat * 4)).block, (ad200.add ((x4_1).toNat * 4)).off + 3, none⟩ = some (.bool ((rd_T57 l0 x4_1).f3)) := hS_
             refine norm_ (a' := ?_) ?_ ?_
             rotate_left
             · simp only [putAll, Act.put, sI_, sZ_, sS_]
               rfl
             refine one_ (i := 19) (N := some 30) #[true, true, true, true, true, true, true, true, true, true, true, true, true, true, true, true, true, true, true, true, true, true, true, true, true, false, false, false, false] rfl rfl (one_of HT_.out (by kernel_rfl)) (by decide) (fun K hK => ?_)
             refine Kd.R_append_rows_step (Kd.int .u8) (w0 := w) w.heap.size (by rfl) (.tmp 24) (.tmp 29) 55 5 (.int .u8 0) 1 rfl Try.underlying55 info5 rfl (by decide) (by omega) v209 y208 ((rd_T57 l0 x4_1).f2) _ _ _ (fun k_ => some k_ ≠ (v206 : Value).ownBlock) (fun _ => False) rfl rfl ?aO ?aR (fun _ _ h => h) (fun _ h => h.elim) ?aF ?aB ?aS ?aL ?_
             (case aR => repeat (first | exact (kB_ HR211_2.out HB.out) | (with_reducible first | refine kA_ ?_ _ | refine kN_ ?_ _ | refine kD_ ?_)))
             (case aB => exact (by repeat (first | (with_reducible first | exact HB.out | apply bA_ | apply dN_ | apply b1_) | exact HB.out)))
             (case aF => exact (fun k_ hk => Kd.fresh' (Kd.R_lt (by (with_reducible repeat (first | apply Kd.R_alloc | apply Kd.R_drewN | apply Kd.R_drew)); exact HO207.out)) k_ hk))
             (case aO => exact (by (with_reducible repeat (first | apply Kd.R_alloc | apply Kd.R_drewN | apply Kd.R_drew)); exact HO210.out))
             (case aS => exact (below_size (by repeat (first | (with_reducible first | exact HB.out | apply bA_ | apply dN_ | apply b1_) | exact HB.out))))
             (case aL => have := LMc5.out; omega)
             intro v213 w15 ho hb hg hat
             rw [← Ny212.out] at ho
             have n0_ := m0_ (Kd.S_after (ok := (fun k_ => some k_ ≠ (v206 : Value).ownBlock)) (by (with_reducible repeat (first | apply Kd.S_alloc | apply Kd.S_drewN | apply Kd.S_drew)); exact HO_3.out) hg hat)
             have n1_ := m0_ (Kd.R_after (ok := (fun _ => True)) (by (with_reducible repeat (first | apply Kd.R_alloc | apply Kd.R_drewN | apply Kd.R_drew)); exact Kd.R_mono HO207.out (fun _ hk => ⟨trivial, hk⟩)) hg hat)
             have n2_ := m0_ (hb)
             have n3_ := m0_ (ho)
             clear HO_3
             clear HO207
             clear HB
             clear HO210
             have HO_3 := n0_
             have HO207 := n1_
             have HB := n2_
             have HO214 := n3_
             clear n0_ n1_ n2_ n3_
             clear ho hb hg hat
             obtain ⟨Ao16, co16, eo16⟩ := Kd.R_slice HO214.out
             (first | subst eo16 | (injection eo16 with f1_ f2_ f3_; have f4_ := f1_.symm; have f5_ := f3_.symm; clear f1_ f2_ f3_; subst f4_; subst f5_))
             obtain ⟨Ao17, co17, eo17⟩ := Kd.R_slice HO207.out
             (first | subst eo17 | (injection eo17 with f1_ f2_ f3_; have f4_ := f1_.symm; have f5_ := f3_.symm; clear f1_ f2_ f3_; subst f4_; subst f5_))
             refine hK.out _ _ ⟨((HB.out.cell (bL_ w _ hw200_0)).trans hw200_0), ((HB.out.cell (bL_ w _ hw200_1)).trans hw200_1), ((HB.out.cell (bL_ w _ hw200_2)).trans hw200_2), ((HB.out.cell (bL_ w _ hw200_3)).trans hw200_3), ((HB.out.cell (bL_ w _ hw204_0)).trans hw204_0), ((HB.out.cell (bL_ w _ hw204_1)).trans hw204_1), ((HB.out.cell (bL_ w _ hw204_2)).trans hw204_2), ((HB.out.cell (bL_ w _ hw204_3)).trans hw204_3), ((HB.out.cell (bL_ w _ hw211_0)).trans hw211_0), ((HB.out.cell (bL_ w _ hw211_1)).trans hw211_1), ((HB.out.cell (bL_ w _ hw211_2)).trans hw211_2), ((HB.out.cell (bL_ w _ hw211_3)).trans hw211_3), ((HB.out.cell (bL_ w _ hw215_0)).trans hw215_0), ((HB.out.cell (bL_ w _ hw215_1)).trans hw215_1), ((HB.out.cell (bL_ w _ hw215_2)).trans hw215_2), ((HB.out.cell (bL_ w _ hw215_3)).trans hw215_3)⟩ (fun hHeld => ?_)
             clear hK K
             refine norm_ (a' := ?_) ?_ ?_
             rotate_left
             · show Act.put _ (some 30) _ = _
               simp only [Act.put, sI_, sZ_, sS_, i64_w, i32_w]
               rfl
             refine pure_ (i := 25) (N := some 36) (v := ?_) (a' := ?_) #[true, true, true, true, true, true, true, true, true, true, true, true, true, true, true, true, true, true, true, true, true, true, true, true, true, true, false, false, false] rfl rfl (any_of HT_.out (by kernel_rfl)) (fun _ _ _ h => h) (Or.inl ⟨by rfl, ?_⟩) ?_ ?_
             rotate_left
             · intro w'
               go_simp
               with_reducible rfl
             rotate_left
             · simp only [Act.put, sI_, sZ_, sS_, i64_w, i32_w]
               rfl
             refine one_ (i := 26) (N := some 37) #[true, true, true, true, true, true, true, true, true, true, true, true, true, true, true, true, true, true, true, true, true, true, true, true, true, true, true, false, false] rfl rfl (one_of HT_.out (by kernel_rfl)) (by decide) (fun K hK => ?_)
             refine value_ (w1 := ?_) (v := ?_) (by rfl) rfl ?_ ?_
             rotate_left 2
             · go_simp
               constructor
               · rfl
               · rfl
             refine hK.out _ _ ⟨(World.cell?_alloc_lt _ _ _ (bL_ _ _ (((HB.out.cell (bL_ w _ hw200_0)).trans hw200_0)))).trans (((HB.out.cell (bL_ w _ hw200_0)).trans hw200_0)), (World.cell?_alloc_lt _ _ _ (bL_ _ _ (((HB.out.cell (bL_ w _ hw200_1)).trans hw200_1)))).trans (((HB.out.cell (bL_ w _ hw200_1)).trans hw200_1)), (World.cell?_alloc_lt _ _ _ (bL_ _ _ (((HB.out.cell (bL_ w _ hw200_2)).trans hw200_2)))).trans (((HB.out.cell (bL_ w _ hw200_2)).trans hw200_2)), (World.cell?_alloc_lt _ _ _ (bL_ _ _ (((HB.out.cell (bL_ w _ hw200_3)).trans hw200_3)))).trans (((HB.out.cell (bL_ w _ hw200_3)).trans hw200_3)), (World.cell?_alloc_lt _ _ _ (bL_ _ _ (((HB.out.cell (bL_ w _ hw204_0)).trans hw204_0)))).trans (((HB.out.cell (bL_ w _ hw204_0)).trans hw204_0)), (World.cell?_alloc_lt _ _ _ (bL_ _ _ (((HB.out.cell (bL_ w _ hw204_1)).trans hw204_1)))).trans (((HB.out.cell (bL_ w _ hw204_1)).trans hw204_1)), (World.cell?_alloc_lt _ _ _ (bL_ _ _ (((HB.out.cell (bL_ w _ hw204_2)).trans hw204_2)))).trans (((HB.out.cell (bL_ w _ hw204_2)).trans hw204_2)), (World.cell?_alloc_lt _ _ _ (bL_ _ _ (((HB.out.cell (bL_ w _ hw204_3)).trans hw204_3)))).trans (((HB.out.cell (bL_ w _ hw204_3)).trans hw204_3)), (World.cell?_alloc_lt _ _ _ (bL_ _ _ (((HB.out.cell (bL_ w _ hw211_0)).trans hw211_0)))).trans (((HB.out.cell (bL_ w _ hw211_0)).trans hw211_0)), (World.cell?_alloc_lt _ _ _ (bL_ _ _ (((HB.out.cell (bL_ w _ hw211_1)).trans hw211_1)))).trans (((HB.out.cell (bL_ w _ hw211_1)).trans hw211_1)), (World.cell?_alloc_lt _ _ _ (bL_ _ _ (((HB.out.cell (bL_ w _ hw211_2)).trans hw211_2)))).trans (((HB.out.cell (bL_ w _ hw211_2)).trans hw211_2)), (World.cell?_alloc_lt _ _ _ (bL_ _ _ (((HB.out.cell (bL_ w _ hw211_3)).trans hw211_3)))).trans (((HB.out.cell (bL_ w _ hw211_3)).trans hw211_3)), (World.cell?_alloc_lt _ _ _ (bL_ _ _ (((HB.out.cell (bL_ w _ hw215_0)).trans hw215_0)))).trans (((HB.out.cell (bL_ w _ hw215_0)).trans hw215_0)), (World.cell?_alloc_lt _ _ _ (bL_ _ _ (((HB.out.cell (bL_ w _ hw215_1)).trans hw215_1)))).trans (((HB.out.cell (bL_ w _ hw215_1)).trans hw215_1)), (World.cell?_alloc_lt _ _ _ (bL_ _ _ (((HB.out.cell (bL_ w _ hw215_2)).trans hw215_2)))).trans (((HB.out.cell (bL_ w _ hw215_2)).trans hw215_2)), (World.cell?_alloc_lt _ _ _ (bL_ _ _ (((HB.out.cell (bL_ w _ hw215_3)).trans hw215_3)))).trans (((HB.out.cell (bL_ w _ hw215_3)).trans hw215_3))⟩ (fun hHeld => ?_)
             clear hK K
             refine norm_ (a' := ?_) ?_ ?_
             rotate_left
             · show Act.put _ (some 37) _ = _
               simp only [Act.put, sI_, sZ_, sS_, i64_w, i32_w]
               rfl
             refine one_ (i := 27) (N := some 38) #[true, true, true, true, true, true, true, true, true, true, true, true, true, true, true, true, true, true, true, true, true, true, true, true, true, true, true, true, false] rfl rfl (one_of HT_.out (by kernel_rfl)) (by decide) (fun K hK => ?_)
             refine Kd.S_append_step k57 (w0 := w) w.heap.size (by rfl) (.tmp 11) (.tmp 37) 22 57 (.agg #[(.int .i64 0), (.slice none 0 0), (.slice none 0 0), (.bool false)]) 64 rfl Try.underlying22 info57 rfl (by decide) (by omega) (.slice Ao7 x3_1.length co7) x3_1 (⟨(rd_T57 l0 x4_1).f0, y205, y212, (rd_T57 l0 x4_1).f3⟩ : S57) [.int .i64 ((rd_T57 l0 x4_1).f0), .slice Ao17 y205.length co17, .slice Ao16 y212.length co16, .bool ((rd_T57 l0 x4_1).f3)] (fun _ => True) (fun k_ => some k_ = (.slice Ao17 y205.length co17 : Value).ownBlock ∨ some k_ = (.slice Ao16 y212.length co16 : Value).ownBlock) rfl rfl ?aP (fun k_ hk_ => hk_.elim (fun h_ => ((Kd.R_mono (ok' := fun k_ => ((fun _ => True)) k_ ∧ some k_ ≠ (.slice Ao7 x3_1.length co7 : Value).ownBlock) (Kd.R_apart' (HO207.out) (Kd.S_typed HO_3.out) (by decide)) (fun k_ hk => ⟨trivial, hk.2⟩))).1 k_ h_.symm) (fun h_ => ((Kd.R_mono (ok' := fun k_ => ((fun _ => True)) k_ ∧ some k_ ≠ (.slice Ao7 x3_1.length co7 : Value).ownBlock) (Kd.R_apart' (HO214.out) (Kd.S_typed HO_3.out) (by decide)) (fun k_ hk => ⟨trivial, hk.2⟩))).1 k_ h_.symm)) ?aF ?aO ?aB ?aS ?aL ?_
             (case aP => exact k57_mkM _ _ _ (⟨(rd_T57 l0 x4_1).f0, y205, y212, (rd_T57 l0 x4_1).f3⟩ : S57) (Kd.R_mono (Kd.R_tight rfl (Kd.R_mono (ok' := fun k_ => ((fun _ => True)) k_ ∧ some k_ ≠ (.slice Ao7 x3_1.length co7 : Value).ownBlock) (Kd.R_apart' (HO207.out) (Kd.S_typed HO_3.out) (by decide)) (fun k_ hk => ⟨trivial, hk.2⟩))) (fun _ h_ => Or.inl h_)) (Kd.R_mono (Kd.R_tight rfl (Kd.R_mono (ok' := fun k_ => ((fun _ => True)) k_ ∧ some k_ ≠ (.slice Ao7 x3_1.length co7 : Value).ownBlock) (Kd.R_apart' (HO214.out) (Kd.S_typed HO_3.out) (by decide)) (fun k_ hk => ⟨trivial, hk.2⟩))) (fun _ h_ => Or.inr (h_))))
             (case aB => exact (by repeat (first | (with_reducible first | exact HB.out | apply bA_ | apply dN_ | apply b1_) | exact HB.out)))
             (case aF => exact (fun _ _ => trivial))
             (case aO => exact (by (with_reducible repeat (first | apply Kd.S_alloc | apply Kd.S_drewN | apply Kd.S_drew)); exact Kd.S_mono HO_3.out (fun k_ hk => ⟨trivial, fun e_ => e_.elim (fun h_ => hk.1 h_) (fun h_ => hk.2 h_)⟩)))
             (case aS => exact (below_size (by repeat (first | (with_reducible first | exact HB.out | apply bA_ | apply dN_ | apply b1_) | exact HB.out))))
             (case aL => have := LMc6.out; omega)
             intro v217 w18 ho hb hg hat
             rw [← Ny216.out] at ho
             have n0_ := m0_ (hb)
             have n1_ := m0_ (ho)
             clear HB
             clear HO_3
             clear HO207
             clear HO214
             have HB := n0_
             have HO218 := n1_
             clear n0_ n1_
             clear ho hb hg hat
             refine hK.out _ _ ⟨((HB.out.cell (bL_ w _ hw200_0)).trans hw200_0), ((HB.out.cell (bL_ w _ hw200_1)).trans hw200_1), ((HB.out.cell (bL_ w _ hw200_2)).trans hw200_2), ((HB.out.cell (bL_ w _ hw200_3)).trans hw200_3), ((HB.out.cell (bL_ w _ hw204_0)).trans hw204_0), ((HB.out.cell (bL_ w _ hw204_1)).trans hw204_1), ((HB.out.cell (bL_ w _ hw204_2)).trans hw204_2), ((HB.out.cell (bL_ w _ hw204_3)).trans hw204_3), ((HB.out.cell (bL_ w _ hw211_0)).trans hw211_0), ((HB.out.cell (bL_ w _ hw211_1)).trans hw211_1), ((HB.out.cell (bL_ w _ hw211_2)).trans hw211_2), ((HB.out.cell (bL_ w _ hw211_3)).trans hw211_3), ((HB.out.cell (bL_ w _ hw215_0)).trans hw215_0), ((HB.out.cell (bL_ w _ hw215_1)).trans hw215_1), ((HB.out.cell (bL_ w _ hw215_2)).trans hw215_2), ((HB.out.cell (bL_ w _ hw215_3)).trans hw215_3)⟩ (fun hHeld => ?_)
             clear hK K
             refine norm_ (a' := ?_) ?_ ?_
             rotate_left
             · show Act.put _ (some 38) _ = _
               simp only [Act.put, sI_, sZ_, sS_, i64_w, i32_w]
               rfl
             refine pure_ (i := 28) (N := some 3) (v := ?_) (a' := ?_) #[true, true, true, true, true, true, true, true, true, true, true, true, true, true, true, true, true, true, true, true, true, true, true, true, true, true, true, true, true] rfl rfl (any_of HT_.out (by kernel_rfl)) (fun _ _ _ h => h) (Or.inl ⟨by rfl, ?_⟩) ?_ ?_
             rotate_left
             · intro w'
               go_simp
               with_reducible rfl
             rotate_left
             · simp only [Act.put, sI_, sZ_, sS_, i64_w, i32_w]
               rfl
             refine done_ (done_of HT_.out (by kernel_rfl)) ?_
             try go_wp2
             go_roundg k1
             case measure => have := HK1.out; omega
             case rel => exact ⟨(y216), (wrap64 (x4_1 + 1)), (by first | rfl | (simp; done) | (simp [*]; done)), H', ⟨by have := HK1.out; omega⟩, ⟨by (with_reducible repeat (first | apply Kd.S_alloc | apply Kd.S_drewN | apply Kd.S_drew)); exact HO218.out⟩, ⟨by repeat (first | (with_reducible first | exact HB.out | apply bA_ | apply dN_ | apply b1_) | exact HB.out)⟩⟩
           · rw [if_neg c6] at H
             exact absurd H (by simp)
         · rw [if_neg c5] at H
           exact absurd H (by simp)
       · rw [if_neg c4] at H
         exact absurd H (by simp)
     · rw [if_neg c3] at H
       exact absurd H (by simp)
   · rw [if_neg c2] at H
     have c2b0 : decide (x4_1 < (l0.length : Int)) = false := decide_eq_false c2
     clear c2
     obtain rfl := sO_ H
     go_wp2
     go_ret
     exact ⟨_, by first | rfl | (simp [errW_none, errW_some] <;> rfl) | (simp [*, errW_none, errW_some] <;> rfl), by (with_reducible repeat (first | apply Kd.S_alloc | apply Kd.S_drewN | apply Kd.S_drew)); exact HO_3.out, by repeat (first | (with_reducible first | exact HB.out | apply bA_ | apply dN_ | apply b1_) | exact HB.out)⟩
end Go.Proofs.Ytpoaleejhdeclaa.P
