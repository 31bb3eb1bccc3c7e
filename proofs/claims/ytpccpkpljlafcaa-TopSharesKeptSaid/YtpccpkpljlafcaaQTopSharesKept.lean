-- Printed by a copy of the kit's printer that this session has patched (wip/tools/patch_print.py): the session's own text. Lean checks it.
import Derived.Test.YtpccpkpljlafcaaPTopSharesKeptx
namespace Go.Proofs.Ytpccpkpljlafcaa.PTopSharesKept
open Go.RowKit Go.Proofs.YtpccpkpljlafcaaW.PrintWords Go.Proofs.YtpccpkpljlafcaaW.PrintLast Go.Proofs.YtpccpkpljlafcaaW.PrintMore
/-- Its numbers are of their kinds. -/
def wf35 (x : S35) : Prop := (Lit.int .i64 x.f0).wf = true ∧ (Lit.int .i64 x.f1).wf = true ∧ (Lit.int .i64 x.f2).wf = true ∧ (Lit.int .i64 x.f3).wf = true ∧ (Lit.int .i64 x.f4).wf = true
/-- Its numbers are of their kinds. -/
def wf53 (x : S53) : Prop := (Lit.int .i64 x.f0).wf = true ∧ (Lit.int .i64 x.f1).wf = true ∧ (Lit.int .i64 x.f2).wf = true ∧ (Lit.int .i64 x.f3).wf = true ∧ (Lit.int .i64 x.f4).wf = true
/-- THE ONE PURE STATEMENT of estoverstop_TopSharesKept. -/
def estoverstop_TopSharesKept.Pure : Prop := ∀ (l0_0 : List (S35)) (l0_1 : List (S53)) (a0_2 : Int) (a0_3 : Bool), (∀ x ∈ l0_0, wf35 x) → (∀ x ∈ l0_1, wf53 x) → (Lit.int .i64 a0_2).wf = true → ∃ k, estoverstop_TopSharesKept.f k l0_0 l0_1 a0_2 a0_3 = some true
end Go.Proofs.Ytpccpkpljlafcaa.PTopSharesKept
