-- Written by wip/gprint.py, a program of this session over the kit's print; Lean checks it.
import Derived.Test.YtiliailmgjhjbaaPx0
namespace Go.Proofs.Ytiliailmgjhjbaa.P
open Go.RowKit Go.Proofs.YtiliailmgjhjbaaW.PrintWords Go.Proofs.YtiliailmgjhjbaaW.PrintLast Go.Proofs.YtiliailmgjhjbaaW.PrintMore
attribute [local go_sem] max2_int min2_int max_two min_two max_three min_three max_four min_four   -- for this text's walks alone
set_option linter.unusedVariables false
set_option linter.unusedSimpArgs false

-- NOT PRINTED: function 17 (mode_together)

end Go.Proofs.Ytiliailmgjhjbaa.P
