-- Printed by a copy of the kit's printer that this session has patched (wip/tools/patch_print.py): the session's own text. Lean checks it.
import Derived.Test.YtimlodcdfekbhaaPGrantShortsx0
import Derived.Test.YtimlodcdfekbhaaPGrantShortsx1
import Derived.Test.YtimlodcdfekbhaaPGrantShortsx2
import Derived.Test.YtimlodcdfekbhaaPGrantShortsx3
import Derived.Test.YtimlodcdfekbhaaPGrantShortsx4
import Derived.Test.YtimlodcdfekbhaaPGrantShortsx5
import Derived.Test.YtimlodcdfekbhaaPGrantShortsx6
import Derived.Test.YtimlodcdfekbhaaPGrantShortsx7
import Derived.Test.YtimlodcdfekbhaaPGrantShortsx8
import Derived.Test.YtimlodcdfekbhaaPGrantShortsx9
import Derived.Test.YtimlodcdfekbhaaPGrantShortsx10
import Derived.Test.YtimlodcdfekbhaaPGrantShortsx11
import Derived.Test.YtimlodcdfekbhaaPGrantShortsx12
namespace Go.Proofs.Ytimlodcdfekbhaa.PGrantShorts
open Go.RowKit Go.Proofs.YtimlodcdfekbhaaW.PrintWords Go.Proofs.YtimlodcdfekbhaaW.PrintLast Go.Proofs.YtimlodcdfekbhaaW.PrintMore
attribute [local go_sem] max2_int min2_int max_two min_two max_three min_three max_four min_four   -- for this text's walks alone
set_option linter.unusedVariables false
set_option linter.unusedSimpArgs false

end Go.Proofs.Ytimlodcdfekbhaa.PGrantShorts
