-- Printed by a copy of the kit's printer that this session has patched (wip/tools/patch_print.py): the session's own text. Lean checks it.
import Derived.Test.YtpomppjeknmciaaPAccountsLimitsx
namespace Go.Proofs.Ytpomppjeknmciaa.PAccountsLimits
open Go.RowKit Go.Proofs.YtpomppjeknmciaaW.PrintWords Go.Proofs.YtpomppjeknmciaaW.PrintLast Go.Proofs.YtpomppjeknmciaaW.PrintMore
/-- Its numbers are of their kinds. -/
def wf43 (x : S43) : Prop := (Lit.int .i64 x.f0).wf = true ∧ (Lit.int .i64 x.f1).wf = true ∧ (Lit.int .i64 x.f2).wf = true ∧ (Lit.int .i64 x.f3).wf = true ∧ (Lit.int .i64 x.f4).wf = true
/-- Its numbers are of their kinds. -/
def wf52 (x : S52) : Prop := (Lit.int .i64 x.f1).wf = true ∧ (Lit.int .i64 x.f2).wf = true
/-- THE ONE PURE STATEMENT of estoverslaw19_AccountsLimits. -/
def estoverslaw19_AccountsLimits.Pure : Prop := ∀ (l0 : List (S43)) (l1 : List (S52)), (∀ x ∈ l0, wf43 x) → (∀ x ∈ l1, wf52 x) → ∃ k, estoverslaw19_AccountsLimits.f k l0 l1 = some true
end Go.Proofs.Ytpomppjeknmciaa.PAccountsLimits
