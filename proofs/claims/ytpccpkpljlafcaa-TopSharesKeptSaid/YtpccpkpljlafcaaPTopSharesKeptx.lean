-- Printed by a copy of the kit's printer that this session has patched (wip/tools/patch_print.py): the session's own text. Lean checks it.
import Derived.Test.YtpccpkpljlafcaaPTopSharesKeptx0
import Derived.Test.YtpccpkpljlafcaaPTopSharesKeptx1
import Derived.Test.YtpccpkpljlafcaaPTopSharesKeptx2
import Derived.Test.YtpccpkpljlafcaaPTopSharesKeptx3
import Derived.Test.YtpccpkpljlafcaaPTopSharesKeptx4
import Derived.Test.YtpccpkpljlafcaaPTopSharesKeptx5
import Derived.Test.YtpccpkpljlafcaaPTopSharesKeptx6
import Derived.Test.YtpccpkpljlafcaaPTopSharesKeptx7
import Derived.Test.YtpccpkpljlafcaaPTopSharesKeptx8
import Derived.Test.YtpccpkpljlafcaaPTopSharesKeptx9
import Derived.Test.YtpccpkpljlafcaaPTopSharesKeptx10
import Derived.Test.YtpccpkpljlafcaaPTopSharesKeptx11
import Derived.Test.YtpccpkpljlafcaaPTopSharesKeptx12
import Derived.Test.YtpccpkpljlafcaaPTopSharesKeptx13
import Derived.Test.YtpccpkpljlafcaaPTopSharesKeptx14
import Derived.Test.YtpccpkpljlafcaaPTopSharesKeptx15
import Derived.Test.YtpccpkpljlafcaaPTopSharesKeptx16
namespace Go.Proofs.Ytpccpkpljlafcaa.PTopSharesKept
open Go.RowKit Go.Proofs.YtpccpkpljlafcaaW.PrintWords Go.Proofs.YtpccpkpljlafcaaW.PrintLast Go.Proofs.YtpccpkpljlafcaaW.PrintMore
attribute [local go_sem] max2_int min2_int max_two min_two max_three min_three max_four min_four   -- for this text's walks alone
set_option linter.unusedVariables false
set_option linter.unusedSimpArgs false
end Go.Proofs.Ytpccpkpljlafcaa.PTopSharesKept
