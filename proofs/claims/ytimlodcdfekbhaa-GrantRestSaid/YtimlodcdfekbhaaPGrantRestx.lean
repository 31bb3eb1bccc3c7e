-- Printed by a copy of the kit's printer that this session has patched (wip/tools/patch_print.py): the session's own text. Lean checks it.
import Derived.Test.YtimlodcdfekbhaaPGrantRestx0
import Derived.Test.YtimlodcdfekbhaaPGrantRestx1
import Derived.Test.YtimlodcdfekbhaaPGrantRestx2
import Derived.Test.YtimlodcdfekbhaaPGrantRestx3
import Derived.Test.YtimlodcdfekbhaaPGrantRestx4
import Derived.Test.YtimlodcdfekbhaaPGrantRestx5
import Derived.Test.YtimlodcdfekbhaaPGrantRestx6
import Derived.Test.YtimlodcdfekbhaaPGrantRestx7
import Derived.Test.YtimlodcdfekbhaaPGrantRestx8
import Derived.Test.YtimlodcdfekbhaaPGrantRestx9
import Derived.Test.YtimlodcdfekbhaaPGrantRestx10
namespace Go.Proofs.Ytimlodcdfekbhaa.PGrantRest
open Go.RowKit Go.Proofs.YtimlodcdfekbhaaW.PrintWords Go.Proofs.YtimlodcdfekbhaaW.PrintLast Go.Proofs.YtimlodcdfekbhaaW.PrintMore
attribute [local go_sem] max2_int min2_int max_two min_two max_three min_three max_four min_four   -- for this text's walks alone
set_option linter.unusedVariables false
set_option linter.unusedSimpArgs false

end Go.Proofs.Ytimlodcdfekbhaa.PGrantRest
