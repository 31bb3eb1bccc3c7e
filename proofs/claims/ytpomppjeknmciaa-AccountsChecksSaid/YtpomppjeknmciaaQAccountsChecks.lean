-- Printed by a copy of the kit's printer that this session has patched (wip/tools/patch_print.py): the session's own text. Lean checks it.
import Derived.Test.YtpomppjeknmciaaPAccountsChecksx
namespace Go.Proofs.Ytpomppjeknmciaa.PAccountsChecks
open Go.RowKit Go.Proofs.YtpomppjeknmciaaW.PrintWords Go.Proofs.YtpomppjeknmciaaW.PrintLast Go.Proofs.YtpomppjeknmciaaW.PrintMore
/-- Its numbers are of their kinds. -/
def wf43 (x : S43) : Prop := (Lit.int .i64 x.f0).wf = true ∧ (Lit.int .i64 x.f1).wf = true ∧ (Lit.int .i64 x.f2).wf = true ∧ (Lit.int .i64 x.f3).wf = true ∧ (Lit.int .i64 x.f4).wf = true
/-- THE ONE PURE STATEMENT of estoverslaw19_AccountsChecks. -/
def estoverslaw19_AccountsChecks.Pure : Prop := ∀ (l0 : List (S43)), (∀ x ∈ l0, wf43 x) → ∃ k, estoverslaw19_AccountsChecks.f k l0 = some true
end Go.Proofs.Ytpomppjeknmciaa.PAccountsChecks
