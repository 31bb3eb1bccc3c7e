-- Printed by a copy of the kit's printer that this session has patched (wip/tools/patch_print.py): the session's own text. Lean checks it.
import Derived.Test.YtpomppjeknmciaaPAccountsMarginsx
namespace Go.Proofs.Ytpomppjeknmciaa.PAccountsMargins
open Go.RowKit Go.Proofs.YtpomppjeknmciaaW.PrintWords Go.Proofs.YtpomppjeknmciaaW.PrintLast Go.Proofs.YtpomppjeknmciaaW.PrintMore
/-- Its numbers are of their kinds. -/
def wf43 (x : S43) : Prop := (Lit.int .i64 x.f0).wf = true ∧ (Lit.int .i64 x.f1).wf = true ∧ (Lit.int .i64 x.f2).wf = true ∧ (Lit.int .i64 x.f3).wf = true ∧ (Lit.int .i64 x.f4).wf = true
/-- THE ONE PURE STATEMENT of estoverslaw19_AccountsMargins. -/
def estoverslaw19_AccountsMargins.Pure : Prop := ∀ (l0 : List (S43)) (a1 : Int) (a2 : Int), (∀ x ∈ l0, wf43 x) → (Lit.int .i64 a1).wf = true → (Lit.int .i64 a2).wf = true → ∃ k, estoverslaw19_AccountsMargins.f k l0 a1 a2 = some true
end Go.Proofs.Ytpomppjeknmciaa.PAccountsMargins
