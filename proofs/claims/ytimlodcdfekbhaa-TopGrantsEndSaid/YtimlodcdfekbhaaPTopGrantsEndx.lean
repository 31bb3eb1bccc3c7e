-- Printed by a copy of the kit's printer that this session has patched (wip/tools/patch_print.py): the session's own text. Lean checks it.
import Derived.Test.YtimlodcdfekbhaaPTopGrantsEndx0
import Derived.Test.YtimlodcdfekbhaaPTopGrantsEndx1
import Derived.Test.YtimlodcdfekbhaaPTopGrantsEndx2
import Derived.Test.YtimlodcdfekbhaaPTopGrantsEndx3
import Derived.Test.YtimlodcdfekbhaaPTopGrantsEndx4
import Derived.Test.YtimlodcdfekbhaaPTopGrantsEndx5
import Derived.Test.YtimlodcdfekbhaaPTopGrantsEndx6
namespace Go.Proofs.Ytimlodcdfekbhaa.PTopGrantsEnd
open Go.RowKit Go.Proofs.YtimlodcdfekbhaaW.PrintWords Go.Proofs.YtimlodcdfekbhaaW.PrintLast Go.Proofs.YtimlodcdfekbhaaW.PrintMore
attribute [local go_sem] max2_int min2_int max_two min_two max_three min_three max_four min_four   -- for this text's walks alone
set_option linter.unusedVariables false
set_option linter.unusedSimpArgs false

end Go.Proofs.Ytimlodcdfekbhaa.PTopGrantsEnd
