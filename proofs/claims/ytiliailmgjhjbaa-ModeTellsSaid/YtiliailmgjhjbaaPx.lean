-- Written by wip/gprint.py, a program of this session over the kit's print; Lean checks it.
import Derived.Test.YtiliailmgjhjbaaPx0
import Derived.Test.YtiliailmgjhjbaaPx1
import Derived.Test.YtiliailmgjhjbaaPx2
import Derived.Test.YtiliailmgjhjbaaPx3
import Derived.Test.YtiliailmgjhjbaaPx4
import Derived.Test.YtiliailmgjhjbaaPx5
import Derived.Test.YtiliailmgjhjbaaPx6
import Derived.Test.YtiliailmgjhjbaaPx7
import Derived.Test.YtiliailmgjhjbaaPx8
import Derived.Test.YtiliailmgjhjbaaPx9
import Derived.Test.YtiliailmgjhjbaaPx10
import Derived.Test.YtiliailmgjhjbaaPx11
import Derived.Test.YtiliailmgjhjbaaPx12
import Derived.Test.YtiliailmgjhjbaaPx13
import Derived.Test.YtiliailmgjhjbaaPx14
import Derived.Test.YtiliailmgjhjbaaPx15
import Derived.Test.YtiliailmgjhjbaaPx16
import Derived.Test.YtiliailmgjhjbaaPx17
namespace Go.Proofs.Ytiliailmgjhjbaa.P
open Go.RowKit Go.Proofs.YtiliailmgjhjbaaW.PrintWords Go.Proofs.YtiliailmgjhjbaaW.PrintLast Go.Proofs.YtiliailmgjhjbaaW.PrintMore
attribute [local go_sem] max2_int min2_int max_two min_two max_three min_three max_four min_four   -- for this text's walks alone
set_option linter.unusedVariables false
set_option linter.unusedSimpArgs false

end Go.Proofs.Ytiliailmgjhjbaa.P
