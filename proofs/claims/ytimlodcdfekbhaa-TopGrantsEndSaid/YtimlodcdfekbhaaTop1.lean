/- The memory of a queue of estoverstop: what its block holds (St), and bStart. -/
import Derived.Test.YtimlodcdfekbhaaPureTopGrantsEnd
namespace Go.Proofs.Ytimlodcdfekbhaa.Pure
open Go.RowKit Go.Proofs.Ytimlodcdfekbhaa.PTopGrantsEnd Go.Proofs.YtimlodcdfekbhaaW.PrintWords Go.Proofs.YtimlodcdfekbhaaW.PrintLast Go.Proofs.YtimlodcdfekbhaaW.PrintMore
set_option linter.unusedVariables false
set_option linter.unusedSimpArgs false
/-- What its block holds. -/
def bCells (s : BQ) (vq vl vo : Value) : Array Value := #[vq, vl, .int .i64 s.n, .int .i64 s.a, .int .i64 (s.nums 0), .int .i64 (s.nums 1), .int .i64 (s.nums 2), .int .i64 (s.nums 3), .int .i64 (s.nums 4), .int .i64 (s.nums 5), .int .i64 (s.nums 6), .int .i64 (s.nums 7), .int .i64 s.nx, .int .i64 s.la, vo]
def StV (w : World) (base g : Nat) (s : BQ) (vq vl vo : Value) : Prop := base ≤ g ∧ w.heap[g]? = some (.cells (bCells s vq vl vo) 34 (0, 0)) ∧ Kd.Q k37 37 w base (fun _ => True) vq s.q ∧ Kd.R k59 59 w base (fun _ => True) vl s.l ∧ Kd.R k39 39 w base (fun _ => True) vo s.out
def St (w : World) (base g : Nat) (s : BQ) : Prop := ∃ vq vl vo, StV w base g s vq vl vo
theorem alloc2 (w : World) (A B : Obj) : ((w.alloc A).alloc B).heap[w.heap.size + 1]? = some B := by
  have h := heap_alloc_new (w.alloc A) B
  have e : (w.alloc A).heap.size = w.heap.size + 1 := by simp
  rwa [e] at h
set_option maxHeartbeats 8000000 in
set_option maxRecDepth 100000 in
theorem bStart.calls (w : World) : Calls Try.prog 12 #[] w fun e w' => ∃ g, e = .returned (.pointer (some ⟨g, 0, none⟩)) ∧ St w' w.heap.size g bq0 ∧ Below w.heap.size w w' := by
  have hu59 := Try.underlying59
  have HB := Aside0.mk (Below.refl w.heap.size w)
  go_enter Try.func12, Try.ntmps12
  go_wp2_with fail
  go_ret
  have hown : Kd.R k59 59 (w.alloc (.cells #[.int .i64 (-1), .int .i64 0, .int .i64 0, .int .i64 0, .int .i64 9, .int .i64 0, .int .i64 0, .int .i64 0, .int .i64 0, .int .i64 6, .int .i64 1, .int .i64 0, .int .i64 0, .int .i64 0, .int .i64 4] 59)) w.heap.size (fun _ => True) (.slice (some ⟨w.heap.size, 0, none⟩) 3 3) bq0.l :=
    ⟨fun _ _ => trivial, _, ⟨rfl, .inr ⟨w.heap.size, 3, _, rfl, Nat.le_refl _, heap_alloc_new w _, Nat.le_refl _, by simp only [maxLen]; omega, rfl, rfl⟩⟩, Reps.c5 (k59_mkM _ _ _ ⟨-1, 0, 0, 0, 9⟩) (Reps.c5 (k59_mkM _ _ _ ⟨0, 0, 0, 0, 6⟩) (Reps.c5 (k59_mkM _ _ _ ⟨1, 0, 0, 0, 4⟩) (Reps.none _ _)))⟩
  exact ⟨w.heap.size + 1, rfl, ⟨_, .slice (some ⟨w.heap.size, 0, none⟩) 3 3, _, by omega, alloc2 w _ _, Kd.Q_nil _ _ _ _ _, Kd.R_alloc hown _, Kd.R_nil _ _ _ _ _⟩, by repeat (first | (with_reducible first | exact HB.out | apply below_alloc) | exact HB.out)⟩
end Go.Proofs.Ytimlodcdfekbhaa.Pure
