-- Printed by a copy of the kit's printer that this session has patched (wip/tools/patch_print.py): the session's own text. Lean checks it.
import Derived.Test.YtpccpkpljlafcaaPTopOldestFirstx
namespace Go.Proofs.Ytpccpkpljlafcaa.PTopOldestFirst
open Go.RowKit Go.Proofs.YtpccpkpljlafcaaW.PrintWords Go.Proofs.YtpccpkpljlafcaaW.PrintLast Go.Proofs.YtpccpkpljlafcaaW.PrintMore
/-- Its numbers are of their kinds. -/
def wf77 (x : S77) : Prop := (Lit.int .u8 x.f0).wf = true ∧ (Lit.int .u8 x.f1).wf = true ∧ (Lit.int .u8 x.f2).wf = true
/-- THE ONE PURE STATEMENT of estoverstop_TopOldestFirst. -/
def estoverstop_TopOldestFirst.Pure : Prop := ∀ (l0 : List (S77)), (∀ x ∈ l0, wf77 x) → ∃ k, estoverstop_TopOldestFirst.f k l0 = some true
end Go.Proofs.Ytpccpkpljlafcaa.PTopOldestFirst
