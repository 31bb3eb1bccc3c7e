/- The memory of a queue behind a store into one of its fields. -/
import Derived.Test.YtimlodcdfekbhaaTop2
namespace Go.Proofs.Ytimlodcdfekbhaa.Pure
open Go.RowKit Go.Proofs.Ytimlodcdfekbhaa.PTopGrantsEnd Go.Proofs.YtimlodcdfekbhaaW.PrintWords Go.Proofs.YtimlodcdfekbhaaW.PrintLast Go.Proofs.YtimlodcdfekbhaaW.PrintMore
set_option linter.unusedVariables false
set_option linter.unusedSimpArgs false
theorem store4 {w w5 : World} {gx t : Nat} (v0 v1 v2 v3 : Value) (hb : Below w.heap.size w w5) (hg : w.heap.size ≤ gx) {c0 c1 c2 c3 : Value} (hx : w5.heap[gx]? = some (.cells #[c0, c1, c2, c3] t (0, 0))) :
    ∃ w6, w6 = (((w5.setCell ⟨gx, 0, none⟩ v0).setCell ⟨gx, 1, none⟩ v1).setCell ⟨gx, 2, none⟩ v2).setCell ⟨gx, 3, none⟩ v3 ∧
      Below w.heap.size w w6 ∧ w6.heap[gx]? = some (.cells #[v0, v1, v2, v3] t (0, 0)) ∧ ∀ k, k ≠ gx → w6.heap[k]? = w5.heap[k]? := by
  refine ⟨_, rfl, ?_, blk_put (blk_put (blk_put (blk_put hx 0 _ rfl) 1 _ rfl) 2 _ rfl) 3 _ rfl, fun k hk => ?_⟩
  · exact (((hb.setCell (p := ⟨gx, 0, none⟩) hg _).setCell (p := ⟨gx, 1, none⟩) hg _).setCell (p := ⟨gx, 2, none⟩) hg _).setCell (p := ⟨gx, 3, none⟩) hg _
  · rw [Below.heap_setCell _ _ _ _ hk, Below.heap_setCell _ _ _ _ hk, Below.heap_setCell _ _ _ _ hk, Below.heap_setCell _ _ _ _ hk]
theorem StV_n {w : World} {base g : Nat} {s : BQ} {vq vl vo : Value} (h : StV w base g s vq vl vo) (x : Int) : StV (w.setCell ⟨g, 2, none⟩ (.int .i64 x)) base g { s with n := x } vq vl vo :=
  ⟨h.1, blk_put h.2.1 2 _ rfl, Kd.Q_set h.2.2.1 h.2.1 (by intro q hq; simp [k37, Kd.iso, Kd.pair, Kd.int, Kd.scalar] at hq; omega) 2 _, Kd.R_set h.2.2.2.1 h.2.1 (by intro q hq; simp [k59, Kd.iso, Kd.pair, Kd.int, Kd.scalar] at hq; omega) 2 _, Kd.R_set h.2.2.2.2 h.2.1 (by intro q hq; simp [k39, k37, Kd.iso, Kd.pair, Kd.int, Kd.scalar] at hq; omega) 2 _⟩
theorem StV_a {w : World} {base g : Nat} {s : BQ} {vq vl vo : Value} (h : StV w base g s vq vl vo) (x : Int) : StV (w.setCell ⟨g, 3, none⟩ (.int .i64 x)) base g { s with a := x } vq vl vo :=
  ⟨h.1, blk_put h.2.1 3 _ rfl, Kd.Q_set h.2.2.1 h.2.1 (by intro q hq; simp [k37, Kd.iso, Kd.pair, Kd.int, Kd.scalar] at hq; omega) 3 _, Kd.R_set h.2.2.2.1 h.2.1 (by intro q hq; simp [k59, Kd.iso, Kd.pair, Kd.int, Kd.scalar] at hq; omega) 3 _, Kd.R_set h.2.2.2.2 h.2.1 (by intro q hq; simp [k39, k37, Kd.iso, Kd.pair, Kd.int, Kd.scalar] at hq; omega) 3 _⟩
theorem StV_nx {w : World} {base g : Nat} {s : BQ} {vq vl vo : Value} (h : StV w base g s vq vl vo) (x : Int) : StV (w.setCell ⟨g, 12, none⟩ (.int .i64 x)) base g { s with nx := x } vq vl vo :=
  ⟨h.1, blk_put h.2.1 12 _ rfl, Kd.Q_set h.2.2.1 h.2.1 (by intro q hq; simp [k37, Kd.iso, Kd.pair, Kd.int, Kd.scalar] at hq; omega) 12 _, Kd.R_set h.2.2.2.1 h.2.1 (by intro q hq; simp [k59, Kd.iso, Kd.pair, Kd.int, Kd.scalar] at hq; omega) 12 _, Kd.R_set h.2.2.2.2 h.2.1 (by intro q hq; simp [k39, k37, Kd.iso, Kd.pair, Kd.int, Kd.scalar] at hq; omega) 12 _⟩
theorem StV_la {w : World} {base g : Nat} {s : BQ} {vq vl vo : Value} (h : StV w base g s vq vl vo) (x : Int) : StV (w.setCell ⟨g, 13, none⟩ (.int .i64 x)) base g { s with la := x } vq vl vo :=
  ⟨h.1, blk_put h.2.1 13 _ rfl, Kd.Q_set h.2.2.1 h.2.1 (by intro q hq; simp [k37, Kd.iso, Kd.pair, Kd.int, Kd.scalar] at hq; omega) 13 _, Kd.R_set h.2.2.2.1 h.2.1 (by intro q hq; simp [k59, Kd.iso, Kd.pair, Kd.int, Kd.scalar] at hq; omega) 13 _, Kd.R_set h.2.2.2.2 h.2.1 (by intro q hq; simp [k39, k37, Kd.iso, Kd.pair, Kd.int, Kd.scalar] at hq; omega) 13 _⟩
theorem StV_q {w : World} {base g : Nat} {s : BQ} {vq vl vo v : Value} {q : List S37} (h : StV w base g s vq vl vo) (hq : Kd.Q k37 37 w base (fun _ => True) v q) : StV (w.setCell ⟨g, 0, none⟩ v) base g { s with q := q } v vl vo :=
  ⟨h.1, blk_put h.2.1 0 _ rfl, Kd.Q_set hq h.2.1 (by intro q hq; simp [k37, Kd.iso, Kd.pair, Kd.int, Kd.scalar] at hq; omega) 0 _, Kd.R_set h.2.2.2.1 h.2.1 (by intro q hq; simp [k59, Kd.iso, Kd.pair, Kd.int, Kd.scalar] at hq; omega) 0 _, Kd.R_set h.2.2.2.2 h.2.1 (by intro q hq; simp [k39, k37, Kd.iso, Kd.pair, Kd.int, Kd.scalar] at hq; omega) 0 _⟩
theorem StV_l {w : World} {base g : Nat} {s : BQ} {vq vl vo v : Value} {l : List S59} (h : StV w base g s vq vl vo) (hl : Kd.R k59 59 w base (fun _ => True) v l) : StV (w.setCell ⟨g, 1, none⟩ v) base g { s with l := l } vq v vo :=
  ⟨h.1, blk_put h.2.1 1 _ rfl, Kd.Q_set h.2.2.1 h.2.1 (by intro q hq; simp [k37, Kd.iso, Kd.pair, Kd.int, Kd.scalar] at hq; omega) 1 _, Kd.R_set hl h.2.1 (by intro q hq; simp [k59, Kd.iso, Kd.pair, Kd.int, Kd.scalar] at hq; omega) 1 _, Kd.R_set h.2.2.2.2 h.2.1 (by intro q hq; simp [k39, k37, Kd.iso, Kd.pair, Kd.int, Kd.scalar] at hq; omega) 1 _⟩
theorem StV_o {w : World} {base g : Nat} {s : BQ} {vq vl vo v : Value} {o : List S39} (h : StV w base g s vq vl vo) (ho : Kd.R k39 39 w base (fun _ => True) v o) : StV (w.setCell ⟨g, 14, none⟩ v) base g { s with out := o } vq vl v :=
  ⟨h.1, blk_put h.2.1 14 _ rfl, Kd.Q_set h.2.2.1 h.2.1 (by intro q hq; simp [k37, Kd.iso, Kd.pair, Kd.int, Kd.scalar] at hq; omega) 14 _, Kd.R_set h.2.2.2.1 h.2.1 (by intro q hq; simp [k59, Kd.iso, Kd.pair, Kd.int, Kd.scalar] at hq; omega) 14 _, Kd.R_set ho h.2.1 (by intro q hq; simp [k39, k37, Kd.iso, Kd.pair, Kd.int, Kd.scalar] at hq; omega) 14 _⟩
theorem StV_num {w : World} {base g : Nat} {s : BQ} {vq vl vo : Value} (h : StV w base g s vq vl vo) (x : Int) {p : Int} (h0 : 0 ≤ p) (h1 : p < 8) : StV (w.setCell ⟨g, 4 + p.toNat, none⟩ (.int .i64 x)) base g { s with nums := fun j => if j = p then x else s.nums j } vq vl vo := by
  refine ⟨h.1, blk_put h.2.1 (4 + p.toNat) _ ?_, Kd.Q_set h.2.2.1 h.2.1 (by intro q hq; simp [k37, Kd.iso, Kd.pair, Kd.int, Kd.scalar] at hq; omega) _ _, Kd.R_set h.2.2.2.1 h.2.1 (by intro q hq; simp [k59, Kd.iso, Kd.pair, Kd.int, Kd.scalar] at hq; omega) _ _, Kd.R_set h.2.2.2.2 h.2.1 (by intro q hq; simp [k39, k37, Kd.iso, Kd.pair, Kd.int, Kd.scalar] at hq; omega) _ _⟩
  have hc : p = 0 ∨ p = 1 ∨ p = 2 ∨ p = 3 ∨ p = 4 ∨ p = 5 ∨ p = 6 ∨ p = 7 := by omega
  rcases hc with rfl | rfl | rfl | rfl | rfl | rfl | rfl | rfl <;> simp [bCells]
theorem num_cell {w : World} {base g : Nat} {s : BQ} {vq vl vo : Value} (h : StV w base g s vq vl vo) {p : Int} (h0 : 0 ≤ p) (h1 : p < 8) : w.cell? ⟨g, 4 + p.toNat, none⟩ = some (.int .i64 (s.nums p)) := by
  have hc : p = 0 ∨ p = 1 ∨ p = 2 ∨ p = 3 ∨ p = 4 ∨ p = 5 ∨ p = 6 ∨ p = 7 := by omega
  rw [blk_cell h.2.1]
  rcases hc with rfl | rfl | rfl | rfl | rfl | rfl | rfl | rfl <;> rfl
theorem StV_step {w w' : World} {base g : Nat} {s : BQ} {vq vl vo : Value} (h : StV w base g s vq vl vo) (hb : Below w.heap.size w w') : StV w' base g s vq vl vo := St_below h hb
/-- What an operation leaves alone: all below base, and of the rest all but the queue's own block and blocks of granted asks. -/
def Fr (base g : Nat) (w w' : World) : Prop := Below base w w' ∧ ∀ k c t, w.heap[k]? = some (.cells c t (0, 0)) → k ≠ g → t ≠ 39 → w'.heap[k]? = w.heap[k]?
theorem Fr.of {base g : Nat} {w w' : World} (h : Below w.heap.size w w') (hb : base ≤ w.heap.size) : Fr base g w w' := ⟨h.mono hb, fun k c t hk _ _ => h.block k (blk_lt hk)⟩
theorem Fr.setCell {base g : Nat} {w W : World} (h : Fr base g w W) {p : Addr} (hp : base ≤ p.block) (u : Value) (e : p.block = g := by rfl) : Fr base g w (W.setCell p u) :=
  ⟨h.1.setCell hp u, fun k c t hk hg ht => (Below.heap_setCell W p u k (by rw [e]; exact hg)).trans (h.2 k c t hk hg ht)⟩
theorem Fr.drew {base g : Nat} {w W : World} (h : Fr base g w W) : Fr base g w W.drew := ⟨h.1.drew, h.2⟩
theorem below_base {base g : Nat} {w w1 w2 : World} (h : Fr base g w w1) (hb : base ≤ w.heap.size) (k : Below w1.heap.size w1 w2) : Fr base g w w2 :=
  ⟨h.1.trans (k.mono (Nat.le_trans hb h.1.size)), fun j c t hk hg ht => (k.block j (Nat.lt_of_lt_of_le (blk_lt hk) h.1.size)).trans (h.2 j c t hk hg ht)⟩
theorem Fr.grown {base g : Nat} {w W w1 : World} {row : Option Nat} (h : Fr base g w W) (hb : Below base w w1) (hg : W.grownBy w1 row) (hty : ∀ k, row = some k → ∃ cells, W.heap[k]? = some (.cells cells 39 (0, 0))) : Fr base g w w1 := by
  refine ⟨hb, fun k c t hk hkg ht => ?_⟩
  have hW := h.2 k c t hk hkg ht
  refine (hg.block k (Nat.lt_of_lt_of_le (blk_lt hk) h.1.size) ?_).trans hW
  intro e
  obtain ⟨c2, hc2⟩ := hty k e.symm
  rw [hW, hk] at hc2
  injection hc2 with hc2
  injection hc2 with _ hc2
  exact ht hc2
theorem Fr.refl (base g : Nat) (w : World) : Fr base g w w := ⟨Below.refl _ _, fun _ _ _ _ _ _ => rfl⟩
theorem Fr.trans {base g : Nat} {w w1 w2 : World} (h : Fr base g w w1) (k : Fr base g w1 w2) : Fr base g w w2 :=
  ⟨h.1.trans k.1, fun j c t hk hg ht => (k.2 j c t ((h.2 j c t hk hg ht).trans hk) hg ht).trans (h.2 j c t hk hg ht)⟩
/-- What right asks. -/
structure Rt (s : BQ) : Prop where
  hl : s.l = lO s.out
  lim : Lim s.out
  n0 : 0 ≤ s.n
  a0 : 0 ≤ s.a
  ol : s.out.length ≤ 1000
theorem right_calls {w : World} {base g : Nat} {s : BQ} {vq vl vo : Value} (hst : StV w base g s vq vl vo) (hr : Rt s) :
    Calls Try.prog 35 #[.pointer (some ⟨g, 0, none⟩)] w fun e w' => e = .returned (.bool true) ∧ Below w.heap.size w w' := right.calls w base g s vq vl vo hst hr.hl hr.lim hr.n0 hr.a0 hr.ol
end Go.Proofs.Ytimlodcdfekbhaa.Pure
