import Derived.Test.YtfbjabpjfalmlaaLem21c
import Derived.Test.YtfbjabpjfalmlaaPx34
import Derived.Test.YtfbjabpjfalmlaaPx35
namespace Go.Proofs.Ytfbjabpjfalmlaa.Pure
open Go.RowKit Go.Proofs.Ytfbjabpjfalmlaa.P Go.Proofs.YtfbjabpjfalmlaaW.PrintWords Go.Proofs.YtfbjabpjfalmlaaW.PrintLast
set_option linter.unusedVariables false
set_option linter.unusedSimpArgs false
theorem awake_f : banksmanlaw21_awake.f 300 = some true := by decide +kernel
end Go.Proofs.Ytfbjabpjfalmlaa.Pure
