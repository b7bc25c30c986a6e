import Derived.Test.YtbjeaalbdaedpaaPx0
namespace Go.Proofs.Ytbjeaalbdaedpaa.P
open Go.RowKit Go.Proofs.YtbjeaalbdaedpaaW.PrintWords Go.Proofs.YtbjeaalbdaedpaaW.PrintLast Go.Proofs.YtbjeaalbdaedpaaW.PrintMore
attribute [local go_sem] max2_int min2_int max_two min_two max_three min_three max_four min_four
set_option linter.unusedVariables false
set_option linter.unusedSimpArgs false
def banksmanref08_write.T1 : Bool × List (List Nat × List Nat) := (true, [([], []), ([0], [0]), ([], []), ([], []), ([3], [3]), ([2, 4], [2, 4]), ([], []), ([6], [6]), ([], []), ([], []), ([9], [9]), ([8, 10, 5], [8, 10]), ([1, 5, 7, 11], [1, 5, 7, 11]), ([12, 11, 0, 1, 2, 3, 4, 5, 6, 7, 8, 9, 10, 11, 12], [12])])
def banksmanref08_write.B1 : List Nat := [0, 1, 0, 0, 8, 28, 0, 64, 0, 0, 512, 1852, 4095, 8191]
theorem banksmanref08_write.tab1 : rtab .any (opsOf Try.f34 1) = banksmanref08_write.T1 := by kernel_rfl
theorem banksmanref08_write.bits1 : waitsOk banksmanref08_write.T1.2 banksmanref08_write.B1 = true := by kernel_rfl
end Go.Proofs.Ytbjeaalbdaedpaa.P
