-- Printed by a copy of the kit's printer that this session has patched (wip/tools/patch_print.py): the session's own text. Lean checks it.
import Derived.Test.YtpomppjeknmciaaPAccountsLimitsx0
import Derived.Test.YtpomppjeknmciaaPAccountsLimitsx1
import Derived.Test.YtpomppjeknmciaaPAccountsLimitsx2
import Derived.Test.YtpomppjeknmciaaPAccountsLimitsx3
import Derived.Test.YtpomppjeknmciaaPAccountsLimitsx4
import Derived.Test.YtpomppjeknmciaaPAccountsLimitsx5
import Derived.Test.YtpomppjeknmciaaPAccountsLimitsx6
namespace Go.Proofs.Ytpomppjeknmciaa.PAccountsLimits
open Go.RowKit Go.Proofs.YtpomppjeknmciaaW.PrintWords Go.Proofs.YtpomppjeknmciaaW.PrintLast Go.Proofs.YtpomppjeknmciaaW.PrintMore
attribute [local go_sem] max2_int min2_int max_two min_two max_three min_three max_four min_four   -- for this text's walks alone
set_option linter.unusedVariables false
set_option linter.unusedSimpArgs false

end Go.Proofs.Ytpomppjeknmciaa.PAccountsLimits
