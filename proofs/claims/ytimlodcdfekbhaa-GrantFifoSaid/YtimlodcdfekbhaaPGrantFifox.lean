-- Printed by a copy of the kit's printer that this session has patched (wip/tools/patch_print.py): the session's own text. Lean checks it.
import Derived.Test.YtimlodcdfekbhaaPGrantFifox0
import Derived.Test.YtimlodcdfekbhaaPGrantFifox1
import Derived.Test.YtimlodcdfekbhaaPGrantFifox2
import Derived.Test.YtimlodcdfekbhaaPGrantFifox3
import Derived.Test.YtimlodcdfekbhaaPGrantFifox4
import Derived.Test.YtimlodcdfekbhaaPGrantFifox5
import Derived.Test.YtimlodcdfekbhaaPGrantFifox6
import Derived.Test.YtimlodcdfekbhaaPGrantFifox7
import Derived.Test.YtimlodcdfekbhaaPGrantFifox8
import Derived.Test.YtimlodcdfekbhaaPGrantFifox9
namespace Go.Proofs.Ytimlodcdfekbhaa.PGrantFifo
open Go.RowKit Go.Proofs.YtimlodcdfekbhaaW.PrintWords Go.Proofs.YtimlodcdfekbhaaW.PrintLast Go.Proofs.YtimlodcdfekbhaaW.PrintMore
attribute [local go_sem] max2_int min2_int max_two min_two max_three min_three max_four min_four   -- for this text's walks alone
set_option linter.unusedVariables false
set_option linter.unusedSimpArgs false

end Go.Proofs.Ytimlodcdfekbhaa.PGrantFifo
