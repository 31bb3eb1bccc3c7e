-- Printed by a copy of the kit's printer that this session has patched (wip/tools/patch_print.py): the session's own text. Lean checks it.
import Derived.Test.YtpomppjeknmciaaPThrottleOldestx0
import Derived.Test.YtpomppjeknmciaaPThrottleOldestx1
import Derived.Test.YtpomppjeknmciaaPThrottleOldestx2
import Derived.Test.YtpomppjeknmciaaPThrottleOldestx3
import Derived.Test.YtpomppjeknmciaaPThrottleOldestx4
import Derived.Test.YtpomppjeknmciaaPThrottleOldestx5
import Derived.Test.YtpomppjeknmciaaPThrottleOldestx6
namespace Go.Proofs.Ytpomppjeknmciaa.PThrottleOldest
open Go.RowKit Go.Proofs.YtpomppjeknmciaaW.PrintWords Go.Proofs.YtpomppjeknmciaaW.PrintLast Go.Proofs.YtpomppjeknmciaaW.PrintMore
attribute [local go_sem] max2_int min2_int max_two min_two max_three min_three max_four min_four   -- for this text's walks alone
set_option linter.unusedVariables false
set_option linter.unusedSimpArgs false

end Go.Proofs.Ytpomppjeknmciaa.PThrottleOldest
