-- Printed by a copy of the kit's printer that this session has patched (wip/tools/patch_print.py): the session's own text. Lean checks it.
import Derived.Test.YtimlodcdfekbhaaPGrantQueuesx
namespace Go.Proofs.Ytimlodcdfekbhaa.PGrantQueues
open Go.RowKit Go.Proofs.YtimlodcdfekbhaaW.PrintWords Go.Proofs.YtimlodcdfekbhaaW.PrintLast Go.Proofs.YtimlodcdfekbhaaW.PrintMore
/-- Its numbers are of their kinds. -/
def wf37 (x : S37) : Prop := (Lit.int .i64 x.f0).wf = true ∧ (Lit.int .i64 x.f1).wf = true ∧ (Lit.int .i64 x.f2).wf = true ∧ (Lit.int .i64 x.f3).wf = true
/-- Its numbers are of their kinds. -/
def wf64 (x : S64) : Prop := (Lit.int .i64 x.f1.f0).wf = true ∧ (Lit.int .i64 x.f1.f1).wf = true ∧ (Lit.int .i64 x.f1.f2).wf = true ∧ (Lit.int .i64 x.f1.f3).wf = true
/-- THE ONE PURE STATEMENT of estoverslaw21_GrantQueues. -/
def estoverslaw21_GrantQueues.Pure : Prop := ∀ (l0 : List (S37)) (l1 : List (S64)), (∀ x ∈ l0, wf37 x) → (∀ x ∈ l1, wf64 x) → ∃ k, estoverslaw21_GrantQueues.f k l0 l1 = some true
end Go.Proofs.Ytimlodcdfekbhaa.PGrantQueues
