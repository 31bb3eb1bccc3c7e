-- Printed by a copy of the kit's printer that this session has patched (wip/tools/patch_print.py): the session's own text. Lean checks it.
import Derived.Test.YtpomppjeknmciaaPThrottleOrderx
namespace Go.Proofs.Ytpomppjeknmciaa.PThrottleOrder
open Go.RowKit Go.Proofs.YtpomppjeknmciaaW.PrintWords Go.Proofs.YtpomppjeknmciaaW.PrintLast Go.Proofs.YtpomppjeknmciaaW.PrintMore
/-- Its numbers are of their kinds. -/
def wf61 (x : S61) : Prop := (Lit.int .u8 x.f0).wf = true ∧ (Lit.int .u8 x.f1).wf = true ∧ (Lit.int .i64 x.f3).wf = true
/-- THE ONE PURE STATEMENT of estoverslaw30_ThrottleOrder. -/
def estoverslaw30_ThrottleOrder.Pure : Prop := ∀ (l0 : List (S61)), (∀ x ∈ l0, wf61 x) → ∃ k, estoverslaw30_ThrottleOrder.f k l0 = some true
end Go.Proofs.Ytpomppjeknmciaa.PThrottleOrder
