-- Printed by a copy of the kit's printer that this session has patched (wip/tools/patch_print.py): the session's own text. Lean checks it.
import Derived.Test.YtpccpkpljlafcaaPTopOldestFirstx0
import Derived.Test.YtpccpkpljlafcaaPTopOldestFirstx1
import Derived.Test.YtpccpkpljlafcaaPTopOldestFirstx2
import Derived.Test.YtpccpkpljlafcaaPTopOldestFirstx3
import Derived.Test.YtpccpkpljlafcaaPTopOldestFirstx4
import Derived.Test.YtpccpkpljlafcaaPTopOldestFirstx5
import Derived.Test.YtpccpkpljlafcaaPTopOldestFirstx6
namespace Go.Proofs.Ytpccpkpljlafcaa.PTopOldestFirst
open Go.RowKit Go.Proofs.YtpccpkpljlafcaaW.PrintWords Go.Proofs.YtpccpkpljlafcaaW.PrintLast Go.Proofs.YtpccpkpljlafcaaW.PrintMore
attribute [local go_sem] max2_int min2_int max_two min_two max_three min_three max_four min_four   -- for this text's walks alone
set_option linter.unusedVariables false
set_option linter.unusedSimpArgs false

end Go.Proofs.Ytpccpkpljlafcaa.PTopOldestFirst
