-- Printed by a copy of the kit's printer that this session has patched (wip/tools/patch_print.py): the session's own text. Lean checks it.
import Derived.Test.YtpomppjeknmciaaPAccountsStepsx0
import Derived.Test.YtpomppjeknmciaaPAccountsStepsx1
import Derived.Test.YtpomppjeknmciaaPAccountsStepsx2
import Derived.Test.YtpomppjeknmciaaPAccountsStepsx3
import Derived.Test.YtpomppjeknmciaaPAccountsStepsx4
import Derived.Test.YtpomppjeknmciaaPAccountsStepsx5
import Derived.Test.YtpomppjeknmciaaPAccountsStepsx6
import Derived.Test.YtpomppjeknmciaaPAccountsStepsx7
import Derived.Test.YtpomppjeknmciaaPAccountsStepsx8
import Derived.Test.YtpomppjeknmciaaPAccountsStepsx9
import Derived.Test.YtpomppjeknmciaaPAccountsStepsx10
namespace Go.Proofs.Ytpomppjeknmciaa.PAccountsSteps
open Go.RowKit Go.Proofs.YtpomppjeknmciaaW.PrintWords Go.Proofs.YtpomppjeknmciaaW.PrintLast Go.Proofs.YtpomppjeknmciaaW.PrintMore
attribute [local go_sem] max2_int min2_int max_two min_two max_three min_three max_four min_four   -- for this text's walks alone
set_option linter.unusedVariables false
set_option linter.unusedSimpArgs false

end Go.Proofs.Ytpomppjeknmciaa.PAccountsSteps
