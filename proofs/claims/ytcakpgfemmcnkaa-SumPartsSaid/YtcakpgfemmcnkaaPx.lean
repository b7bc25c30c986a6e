-- Written by wip/gprint.py, a program of this session over the kit's print; Lean checks it.
import Derived.Test.YtcakpgfemmcnkaaPx0
import Derived.Test.YtcakpgfemmcnkaaPx1
import Derived.Test.YtcakpgfemmcnkaaPx2
import Derived.Test.YtcakpgfemmcnkaaPx3
import Derived.Test.YtcakpgfemmcnkaaPx4
import Derived.Test.YtcakpgfemmcnkaaPx5
import Derived.Test.YtcakpgfemmcnkaaPx6
import Derived.Test.YtcakpgfemmcnkaaPx7
import Derived.Test.YtcakpgfemmcnkaaPx8
import Derived.Test.YtcakpgfemmcnkaaPx9
import Derived.Test.YtcakpgfemmcnkaaPx10
import Derived.Test.YtcakpgfemmcnkaaPx11
import Derived.Test.YtcakpgfemmcnkaaPx12
import Derived.Test.YtcakpgfemmcnkaaPx13
namespace Go.Proofs.Ytcakpgfemmcnkaa.P
open Go.RowKit Go.Proofs.YtcakpgfemmcnkaaW.PrintWords Go.Proofs.YtcakpgfemmcnkaaW.PrintLast Go.Proofs.YtcakpgfemmcnkaaW.PrintMore
attribute [local go_sem] max2_int min2_int max_two min_two max_three min_three max_four min_four   -- for this text's walks alone
set_option linter.unusedVariables false
set_option linter.unusedSimpArgs false

end Go.Proofs.Ytcakpgfemmcnkaa.P
