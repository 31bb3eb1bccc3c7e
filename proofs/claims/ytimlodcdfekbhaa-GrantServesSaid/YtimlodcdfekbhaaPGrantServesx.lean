-- Printed by a copy of the kit's printer that this session has patched (wip/tools/patch_print.py): the session's own text. Lean checks it.
import Derived.Test.YtimlodcdfekbhaaPGrantServesx0
import Derived.Test.YtimlodcdfekbhaaPGrantServesx1
import Derived.Test.YtimlodcdfekbhaaPGrantServesx2
import Derived.Test.YtimlodcdfekbhaaPGrantServesx3
import Derived.Test.YtimlodcdfekbhaaPGrantServesx4
import Derived.Test.YtimlodcdfekbhaaPGrantServesx5
import Derived.Test.YtimlodcdfekbhaaPGrantServesx6
import Derived.Test.YtimlodcdfekbhaaPGrantServesx7
import Derived.Test.YtimlodcdfekbhaaPGrantServesx8
import Derived.Test.YtimlodcdfekbhaaPGrantServesx9
import Derived.Test.YtimlodcdfekbhaaPGrantServesx10
import Derived.Test.YtimlodcdfekbhaaPGrantServesx11
import Derived.Test.YtimlodcdfekbhaaPGrantServesx12
import Derived.Test.YtimlodcdfekbhaaPGrantServesx13
import Derived.Test.YtimlodcdfekbhaaPGrantServesx14
import Derived.Test.YtimlodcdfekbhaaPGrantServesx15
namespace Go.Proofs.Ytimlodcdfekbhaa.PGrantServes
open Go.RowKit Go.Proofs.YtimlodcdfekbhaaW.PrintWords Go.Proofs.YtimlodcdfekbhaaW.PrintLast Go.Proofs.YtimlodcdfekbhaaW.PrintMore
attribute [local go_sem] max2_int min2_int max_two min_two max_three min_three max_four min_four   -- for this text's walks alone
set_option linter.unusedVariables false
set_option linter.unusedSimpArgs false
end Go.Proofs.Ytimlodcdfekbhaa.PGrantServes
