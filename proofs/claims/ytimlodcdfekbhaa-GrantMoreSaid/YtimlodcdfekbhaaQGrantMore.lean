-- Printed by a copy of the kit's printer that this session has patched (wip/tools/patch_print.py): the session's own text. Lean checks it.
import Derived.Test.YtimlodcdfekbhaaPGrantMorex
namespace Go.Proofs.Ytimlodcdfekbhaa.PGrantMore
open Go.RowKit Go.Proofs.YtimlodcdfekbhaaW.PrintWords Go.Proofs.YtimlodcdfekbhaaW.PrintLast Go.Proofs.YtimlodcdfekbhaaW.PrintMore
/-- Its numbers are of their kinds. -/
def wf37 (x : S37) : Prop := (Lit.int .i64 x.f0).wf = true ∧ (Lit.int .i64 x.f1).wf = true ∧ (Lit.int .i64 x.f2).wf = true ∧ (Lit.int .i64 x.f3).wf = true
/-- Its numbers are of their kinds. -/
def wf59 (x : S59) : Prop := (Lit.int .i64 x.f0).wf = true ∧ (Lit.int .i64 x.f1).wf = true ∧ (Lit.int .i64 x.f2).wf = true ∧ (Lit.int .i64 x.f3).wf = true ∧ (Lit.int .i64 x.f4).wf = true
/-- THE ONE PURE STATEMENT of estoverslaw21_GrantMore. -/
def estoverslaw21_GrantMore.Pure : Prop := ∀ (l0 : List (S37)) (l1 : List (S59)) (a2_0 : Int) (a2_1 : Int) (a2_2 : Int) (a2_3 : Int), (∀ x ∈ l0, wf37 x) → (∀ x ∈ l1, wf59 x) → (Lit.int .u16 a2_0).wf = true → (Lit.int .u16 a2_1).wf = true → (Lit.int .u16 a2_2).wf = true → (Lit.int .u16 a2_3).wf = true → ∃ k, estoverslaw21_GrantMore.f k l0 l1 a2_0 a2_1 a2_2 a2_3 = some true
end Go.Proofs.Ytimlodcdfekbhaa.PGrantMore
