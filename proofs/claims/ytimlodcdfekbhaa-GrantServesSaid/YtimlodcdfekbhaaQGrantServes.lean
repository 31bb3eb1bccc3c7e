-- Printed by a copy of the kit's printer that this session has patched (wip/tools/patch_print.py): the session's own text. Lean checks it.
import Derived.Test.YtimlodcdfekbhaaPGrantServesx
namespace Go.Proofs.Ytimlodcdfekbhaa.PGrantServes
open Go.RowKit Go.Proofs.YtimlodcdfekbhaaW.PrintWords Go.Proofs.YtimlodcdfekbhaaW.PrintLast Go.Proofs.YtimlodcdfekbhaaW.PrintMore
/-- Its numbers are of their kinds. -/
def wf37 (x : S37) : Prop := (Lit.int .i64 x.f0).wf = true ∧ (Lit.int .i64 x.f1).wf = true ∧ (Lit.int .i64 x.f2).wf = true ∧ (Lit.int .i64 x.f3).wf = true
/-- Its numbers are of their kinds. -/
def wf59 (x : S59) : Prop := (Lit.int .i64 x.f0).wf = true ∧ (Lit.int .i64 x.f1).wf = true ∧ (Lit.int .i64 x.f2).wf = true ∧ (Lit.int .i64 x.f3).wf = true ∧ (Lit.int .i64 x.f4).wf = true
/-- THE ONE PURE STATEMENT of estoverslaw21_GrantServes. -/
def estoverslaw21_GrantServes.Pure : Prop := ∀ (l0 : List (S37)) (l1 : List (S59)) (a2_0 : Int) (a2_1 : Int), (∀ x ∈ l0, wf37 x) → (∀ x ∈ l1, wf59 x) → (Lit.int .i64 a2_0).wf = true → (Lit.int .i64 a2_1).wf = true → ∃ k, estoverslaw21_GrantServes.f k l0 l1 a2_0 a2_1 = some true
end Go.Proofs.Ytimlodcdfekbhaa.PGrantServes
