-- Printed by a copy of the kit's printer that this session has patched (wip/tools/patch_print.py): the session's own text. Lean checks it.
import Derived.Test.YtpomppjeknmciaaPThrottleSumx
namespace Go.Proofs.Ytpomppjeknmciaa.PThrottleSum
open Go.RowKit Go.Proofs.YtpomppjeknmciaaW.PrintWords Go.Proofs.YtpomppjeknmciaaW.PrintLast Go.Proofs.YtpomppjeknmciaaW.PrintMore
/-- Its numbers are of their kinds. -/
def wf43 (x : S43) : Prop := (Lit.int .i64 x.f0).wf = true ∧ (Lit.int .i64 x.f1).wf = true ∧ (Lit.int .i64 x.f2).wf = true ∧ (Lit.int .i64 x.f3).wf = true ∧ (Lit.int .i64 x.f4).wf = true
/-- THE ONE PURE STATEMENT of estoverslaw30_ThrottleSum. -/
def estoverslaw30_ThrottleSum.Pure : Prop := ∀ (l0 : List (S43)) (a1 : Int), (∀ x ∈ l0, wf43 x) → (Lit.int .u16 a1).wf = true → ∃ k, estoverslaw30_ThrottleSum.f k l0 a1 = some true
end Go.Proofs.Ytpomppjeknmciaa.PThrottleSum
