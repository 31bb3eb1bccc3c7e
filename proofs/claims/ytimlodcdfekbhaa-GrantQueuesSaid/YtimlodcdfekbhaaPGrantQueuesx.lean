-- Printed by a copy of the kit's printer that this session has patched (wip/tools/patch_print.py): the session's own text. Lean checks it.
import Derived.Test.YtimlodcdfekbhaaPGrantQueuesx0
import Derived.Test.YtimlodcdfekbhaaPGrantQueuesx1
import Derived.Test.YtimlodcdfekbhaaPGrantQueuesx2
import Derived.Test.YtimlodcdfekbhaaPGrantQueuesx3
import Derived.Test.YtimlodcdfekbhaaPGrantQueuesx4
import Derived.Test.YtimlodcdfekbhaaPGrantQueuesx5
import Derived.Test.YtimlodcdfekbhaaPGrantQueuesx6
import Derived.Test.YtimlodcdfekbhaaPGrantQueuesx7
import Derived.Test.YtimlodcdfekbhaaPGrantQueuesx8
import Derived.Test.YtimlodcdfekbhaaPGrantQueuesx9
import Derived.Test.YtimlodcdfekbhaaPGrantQueuesx10
import Derived.Test.YtimlodcdfekbhaaPGrantQueuesx11
namespace Go.Proofs.Ytimlodcdfekbhaa.PGrantQueues
open Go.RowKit Go.Proofs.YtimlodcdfekbhaaW.PrintWords Go.Proofs.YtimlodcdfekbhaaW.PrintLast Go.Proofs.YtimlodcdfekbhaaW.PrintMore
attribute [local go_sem] max2_int min2_int max_two min_two max_three min_three max_four min_four   -- for this text's walks alone
set_option linter.unusedVariables false
set_option linter.unusedSimpArgs false

end Go.Proofs.Ytimlodcdfekbhaa.PGrantQueues
