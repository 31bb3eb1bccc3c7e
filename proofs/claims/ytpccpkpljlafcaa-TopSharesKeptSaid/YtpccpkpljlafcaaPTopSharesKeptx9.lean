-- Printed by a copy of the kit's printer that this session has patched (wip/tools/patch_print.py): the session's own text. Lean checks it.
import Derived.Test.YtpccpkpljlafcaaPTopSharesKeptx0
import Derived.Test.YtpccpkpljlafcaaPTopSharesKeptx5
import Derived.Test.YtpccpkpljlafcaaPTopSharesKeptx7
import Derived.Test.YtpccpkpljlafcaaPTopSharesKeptx8
namespace Go.Proofs.Ytpccpkpljlafcaa.PTopSharesKept
open Go.RowKit Go.Proofs.YtpccpkpljlafcaaW.PrintWords Go.Proofs.YtpccpkpljlafcaaW.PrintLast Go.Proofs.YtpccpkpljlafcaaW.PrintMore
attribute [local go_sem] max2_int min2_int max_two min_two max_three min_three max_four min_four   -- for this text's walks alone
set_option linter.unusedVariables false
set_option linter.unusedSimpArgs false
/-- The question's block: scope -1, the lists of guards. -/
def QS (W : World) (g : Nat) (A0 : Option Addr) (n0 c0 : Nat) (kern : Bool) (hard soft : List Bool) : Prop :=
 ∃ vi Ah ch As cs, W.heap[g]? = some (.cells #[.slice A0 n0 c0, .int .i64 (-1), .bool kern, vi, .slice Ah hard.length ch, .slice As soft.length cs] 71 (0, 0)) ∧ Kd.C Kd.bool W Ah hard.length hard ∧ Kd.C Kd.bool W As soft.length soft
theorem QS.below {W W1 : World} {g : Nat} {A0 : Option Addr} {n0 c0 : Nat} {kern : Bool} {hard soft : List Bool} (h : QS W g A0 n0 c0 kern hard soft) (hb : Below W.heap.size W W1) : QS W1 g A0 n0 c0 kern hard soft := by
 obtain ⟨vi, Ah, ch, As, cs, h1, h2, h3⟩ := h
 exact ⟨vi, Ah, ch, As, cs, blk_below h1 hb, Kd.C_below h2 hb, Kd.C_below h3 hb⟩
def bget (l : List Bool) (i : Int) : Bool := rdOf false l i
set_option maxHeartbeats 8000000 in
set_option maxRecDepth 100000 in
theorem nx_outside {w : World} {g : Nat} {A0 : Option Addr} {n0 c0 : Nat} {kern : Bool} {hard soft : List Bool} (x : S35) (hq : QS w g A0 n0 c0 kern hard soft) :
  Calls Try.prog 51 #[.pointer (some ⟨g, 0, none⟩), .agg #[.int .i64 x.f0, .int .i64 x.f1, .int .i64 x.f2, .int .i64 x.f3, .int .i64 x.f4, .bool x.f5, .bool x.f6]] w fun e w' => e = .returned (.bool false) ∧ Below w.heap.size w w' := by
 have hu35 := Try.underlying35
 obtain ⟨vi, Ah, ch, As, cs, hb, _, _⟩ := hq
 have C1 := Aside0.mk (show w.cell? ⟨g, 1, none⟩ = some (.int .i64 (-1)) from (blk_cell hb 1).trans rfl)
 clear hb
 have HB := Aside0.mk (Below.refl w.heap.size w)
 go_enter Try.func51, Try.ntmps51
 go_wp2_with (first | ((with_reducible refine gate_dst (N := 3) rfl ?_); refine box_event ?hg (N := 3) ?hd (cs := #[.int .i64 x.f0, .int .i64 x.f1, .int .i64 x.f2, .int .i64 x.f3, .int .i64 x.f4, .bool x.f5, .bool x.f6]) (t := 35) ?hr ?_; (case hd => rfl); (case hg => rfl); (case hr => first | (go_simp; done) | (go_simp; rfl)); intro gx hg w5 hbox hb; have n0_ := Aside0.mk (below_step HB.out hb); clear HB; have HB := n0_; clear n0_ hg hbox hb; have y1 : ∀ n, (w5.drewN n).cell? ⟨g, 1, none⟩ = some (.int .i64 (-1)) := fun _ => (HB.out.cell (World.block_lt_of_cell? w _ C1.out)).trans C1.out))
 go_quiet (fail)
 go_wp2
 go_ret
 exact ⟨rfl, ⟨HB.out.os, HB.out.tape, HB.out.output, HB.out.size, HB.out.block⟩⟩
set_option maxHeartbeats 8000000 in
set_option maxRecDepth 100000 in
theorem nx_guarded {w : World} {g : Nat} {A0 : Option Addr} {n0 c0 : Nat} {kern : Bool} {hard soft : List Bool} (x : S35) (hq : QS w g A0 n0 c0 kern hard soft) (hx : x.f1 < (hard.length : Int)) :
  Calls Try.prog 52 #[.pointer (some ⟨g, 0, none⟩), .agg #[.int .i64 x.f0, .int .i64 x.f1, .int .i64 x.f2, .int .i64 x.f3, .int .i64 x.f4, .bool x.f5, .bool x.f6]] w fun e w' => e = .returned (.bool (decide (0 ≤ x.f1) && bget hard x.f1)) ∧ Below w.heap.size w w' := by
 have hu35 := Try.underlying35
 obtain ⟨vi, Ah, ch, As, cs, hb, hh, _⟩ := hq
 have C4 := Aside0.mk (show w.cell? ⟨g, 4, none⟩ = some (.slice Ah hard.length ch) from (blk_cell hb 4).trans rfl)
 clear hb
 have HB := Aside0.mk (Below.refl w.heap.size w)
 by_cases h0 : 0 ≤ x.f1
 ·obtain ⟨ad, e0, hx0⟩ := Kd.at_bool hh x.f1 h0 hx
  cases e0
  have CE := Aside0.mk hx0
  clear hx0 hh
  have hr : (decide (0 ≤ x.f1) && bget hard x.f1) = bget hard x.f1 := by rw [decide_eq_true h0]; rfl
  rw [hr]
  clear hr
  have hd := decide_eq_true h0
  have hxd := decide_eq_true hx
  replace hx := eq_true hx
  replace h0 := eq_true h0
  go_enter Try.func52, Try.ntmps52
  go_wp2_with (first | ((with_reducible refine gate_dst (N := 3) rfl ?_); refine box_event ?hg (N := 3) ?hd (cs := #[.int .i64 x.f0, .int .i64 x.f1, .int .i64 x.f2, .int .i64 x.f3, .int .i64 x.f4, .bool x.f5, .bool x.f6]) (t := 35) ?hr ?_; (case hd => rfl); (case hg => rfl); (case hr => first | (go_simp; done) | (go_simp; rfl)); intro gx hg w5 hbox hb; have n0_ := Aside0.mk (below_step HB.out hb); have BX := Aside0.mk hbox; clear HB; have HB := n0_; clear n0_ hg hbox hb; have y1 : ∀ n, (w5.drewN n).cell? ⟨gx, 1, none⟩ = some (.int .i64 x.f1) := (fun _ => (blk_cell BX.out 1).trans rfl); have y4 : ∀ n, (w5.drewN n).cell? ⟨g, 4, none⟩ = some (.slice (some ad) hard.length ch) := (fun _ => (HB.out.cell (World.block_lt_of_cell? w _ C4.out)).trans C4.out); have ye := (HB.out.cell (World.block_lt_of_cell? w _ CE.out)).trans CE.out; have ye2 := fun (n_ : Nat) => (show (w5.drewN n_).cell? _ = some _ from ye)))
  go_quiet (fail)
  go_wp2
  go_ret
  exact ⟨rfl, ⟨HB.out.os, HB.out.tape, HB.out.output, HB.out.size, HB.out.block⟩⟩
 ·have hr : (decide (0 ≤ x.f1) && bget hard x.f1) = false := by rw [decide_eq_false h0]; rfl
  rw [hr]
  clear hr
  have hd := decide_eq_false h0
  replace h0 := eq_false h0
  go_enter Try.func52, Try.ntmps52
  go_wp2_with (first | ((with_reducible refine gate_dst (N := 3) rfl ?_); refine box_event ?hg (N := 3) ?hd (cs := #[.int .i64 x.f0, .int .i64 x.f1, .int .i64 x.f2, .int .i64 x.f3, .int .i64 x.f4, .bool x.f5, .bool x.f6]) (t := 35) ?hr ?_; (case hd => rfl); (case hg => rfl); (case hr => first | (go_simp; done) | (go_simp; rfl)); intro gx hg w5 hbox hb; have n0_ := Aside0.mk (below_step HB.out hb); have BX := Aside0.mk hbox; clear HB; have HB := n0_; clear n0_ hg hbox hb; have y1 : ∀ n, (w5.drewN n).cell? ⟨gx, 1, none⟩ = some (.int .i64 x.f1) := (fun _ => (blk_cell BX.out 1).trans rfl)))
  go_quiet (fail)
  go_wp2
  go_ret
  exact ⟨rfl, ⟨HB.out.os, HB.out.tape, HB.out.output, HB.out.size, HB.out.block⟩⟩
theorem calls_val {P : Program} {f : FuncId} {args : Array Value} {w : World} {v v' : Value} {R : World → Prop} (hv : v' = v) (h : Calls P f args w fun e w' => e = .returned v ∧ R w') : Calls P f args w fun e w' => e = .returned v' ∧ R w' := by
 subst hv
 exact h
def rsn (hard : List Bool) (kern : Bool) (x : S35) : Int := if (kern && !x.f5) = true then 12 else if x.f6 = true then 8 else if x.f3 ≠ 0 ∧ x.f3 ≠ 8 then x.f3 else if (decide (0 ≤ x.f1) && bget hard x.f1) = true then 11 else x.f3
theorem QS.kern {W : World} {g : Nat} {A0 : Option Addr} {n0 c0 : Nat} {kern : Bool} {hard soft : List Bool} (h : QS W g A0 n0 c0 kern hard soft) : W.cell? ⟨g, 2, none⟩ = some (.bool kern) := by
 obtain ⟨vi, Ah, ch, As, cs, h1, h2, h3⟩ := h
 exact (blk_cell h1 2).trans rfl
set_option maxHeartbeats 8000000 in
set_option maxRecDepth 100000 in
theorem nx_reason {w : World} {g : Nat} {A0 : Option Addr} {n0 c0 : Nat} {kern : Bool} {hard soft : List Bool} (x : S35) (hq : QS w g A0 n0 c0 kern hard soft) (hx : x.f1 < (hard.length : Int)) :
  Calls Try.prog 28 #[.pointer (some ⟨g, 0, none⟩), .agg #[.int .i64 x.f0, .int .i64 x.f1, .int .i64 x.f2, .int .i64 x.f3, .int .i64 x.f4, .bool x.f5, .bool x.f6]] w fun e w' => e = .returned (.int .i64 (rsn hard kern x)) ∧ Below w.heap.size w w' := by
 have hu35 := Try.underlying35
 have HG := Aside0.mk (fun (W : World) (h : QS W g A0 n0 c0 kern hard soft) => nx_guarded x h hx)
 have HQ := Aside0.mk hq
 clear hq hx
 have HB := Aside0.mk (Below.refl w.heap.size w)
 obtain ⟨f0, f1, f2, f3, f4, f5, f6⟩ := x
 unfold rsn
 simp only at HG ⊢
 generalize (decide (0 ≤ f1) && bget hard f1) = gb at *
 cases kern with
 | true =>
  cases f5 with
  | false =>
   refine calls_val (v := .int .i64 12) (by simp [*]) ?_
   go_enter Try.func28, Try.ntmps28
   go_wp2_with (first | ((with_reducible refine gate_dst (N := 3) rfl ?_); refine box_event ?hg (N := 3) ?hd (cs := #[.int .i64 f0, .int .i64 f1, .int .i64 f2, .int .i64 f3, .int .i64 f4, .bool false, .bool f6]) (t := 35) ?hr ?_; (case hd => rfl); (case hg => rfl); (case hr => first | (go_simp; done) | (go_simp; rfl)); intro gx hg w5 hbox hb; have n0_ := Aside0.mk (below_step HB.out hb); have n1_ := Aside0.mk (QS.below HQ.out hb); have BX := Aside0.mk hbox; clear HB HQ; have HB := n0_; have HQ := n1_; clear n0_ n1_ hg hbox hb; have z0 : w5.cell? ⟨gx, 0, none⟩ = some (.int .i64 f0) := (blk_cell BX.out 0).trans rfl; have z1 : w5.cell? ⟨gx, 1, none⟩ = some (.int .i64 f1) := (blk_cell BX.out 1).trans rfl; have z2 : w5.cell? ⟨gx, 2, none⟩ = some (.int .i64 f2) := (blk_cell BX.out 2).trans rfl; have z3 : w5.cell? ⟨gx, 3, none⟩ = some (.int .i64 f3) := (blk_cell BX.out 3).trans rfl; have z4 : w5.cell? ⟨gx, 4, none⟩ = some (.int .i64 f4) := (blk_cell BX.out 4).trans rfl; have z5 : w5.cell? ⟨gx, 5, none⟩ = some (.bool false) := (blk_cell BX.out 5).trans rfl; have z6 : w5.cell? ⟨gx, 6, none⟩ = some (.bool f6) := (blk_cell BX.out 6).trans rfl) | (go_at_call 51; (with_reducible refine (nx_outside (⟨f0, f1, f2, f3, f4, false, f6⟩ : S35) HQ.out).mono ?_); rintro e w6 ⟨rfl, hb⟩; have n0_ := Aside0.mk (below_step HB.out hb); have n1_ := Aside0.mk (QS.below HQ.out hb); have n2_ := Aside0.mk (blk_below BX.out hb); clear HB HQ BX z0 z1 z2 z3 z4 z5 z6; have HB := n0_; have HQ := n1_; have BX := n2_; clear n0_ n1_ n2_ hb; have z0 : w6.cell? ⟨gx, 0, none⟩ = some (.int .i64 f0) := (blk_cell BX.out 0).trans rfl; have z1 : w6.cell? ⟨gx, 1, none⟩ = some (.int .i64 f1) := (blk_cell BX.out 1).trans rfl; have z2 : w6.cell? ⟨gx, 2, none⟩ = some (.int .i64 f2) := (blk_cell BX.out 2).trans rfl; have z3 : w6.cell? ⟨gx, 3, none⟩ = some (.int .i64 f3) := (blk_cell BX.out 3).trans rfl; have z4 : w6.cell? ⟨gx, 4, none⟩ = some (.int .i64 f4) := (blk_cell BX.out 4).trans rfl; have z5 : w6.cell? ⟨gx, 5, none⟩ = some (.bool false) := (blk_cell BX.out 5).trans rfl; have z6 : w6.cell? ⟨gx, 6, none⟩ = some (.bool f6) := (blk_cell BX.out 6).trans rfl; have zk := QS.kern HQ.out))
   go_ret
   exact ⟨rfl, HB.out⟩
  | true =>
   cases f6 with
   | true =>
    refine calls_val (v := .int .i64 8) (by simp [*]) ?_
    go_enter Try.func28, Try.ntmps28
    go_wp2_with (first | ((with_reducible refine gate_dst (N := 3) rfl ?_); refine box_event ?hg (N := 3) ?hd (cs := #[.int .i64 f0, .int .i64 f1, .int .i64 f2, .int .i64 f3, .int .i64 f4, .bool true, .bool true]) (t := 35) ?hr ?_; (case hd => rfl); (case hg => rfl); (case hr => first | (go_simp; done) | (go_simp; rfl)); intro gx hg w5 hbox hb; have n0_ := Aside0.mk (below_step HB.out hb); have n1_ := Aside0.mk (QS.below HQ.out hb); have BX := Aside0.mk hbox; clear HB HQ; have HB := n0_; have HQ := n1_; clear n0_ n1_ hg hbox hb; have z0 : w5.cell? ⟨gx, 0, none⟩ = some (.int .i64 f0) := (blk_cell BX.out 0).trans rfl; have z1 : w5.cell? ⟨gx, 1, none⟩ = some (.int .i64 f1) := (blk_cell BX.out 1).trans rfl; have z2 : w5.cell? ⟨gx, 2, none⟩ = some (.int .i64 f2) := (blk_cell BX.out 2).trans rfl; have z3 : w5.cell? ⟨gx, 3, none⟩ = some (.int .i64 f3) := (blk_cell BX.out 3).trans rfl; have z4 : w5.cell? ⟨gx, 4, none⟩ = some (.int .i64 f4) := (blk_cell BX.out 4).trans rfl; have z5 : w5.cell? ⟨gx, 5, none⟩ = some (.bool true) := (blk_cell BX.out 5).trans rfl; have z6 : w5.cell? ⟨gx, 6, none⟩ = some (.bool true) := (blk_cell BX.out 6).trans rfl) | (go_at_call 51; (with_reducible refine (nx_outside (⟨f0, f1, f2, f3, f4, true, true⟩ : S35) HQ.out).mono ?_); rintro e w6 ⟨rfl, hb⟩; have n0_ := Aside0.mk (below_step HB.out hb); have n1_ := Aside0.mk (QS.below HQ.out hb); have n2_ := Aside0.mk (blk_below BX.out hb); clear HB HQ BX z0 z1 z2 z3 z4 z5 z6; have HB := n0_; have HQ := n1_; have BX := n2_; clear n0_ n1_ n2_ hb; have z0 : w6.cell? ⟨gx, 0, none⟩ = some (.int .i64 f0) := (blk_cell BX.out 0).trans rfl; have z1 : w6.cell? ⟨gx, 1, none⟩ = some (.int .i64 f1) := (blk_cell BX.out 1).trans rfl; have z2 : w6.cell? ⟨gx, 2, none⟩ = some (.int .i64 f2) := (blk_cell BX.out 2).trans rfl; have z3 : w6.cell? ⟨gx, 3, none⟩ = some (.int .i64 f3) := (blk_cell BX.out 3).trans rfl; have z4 : w6.cell? ⟨gx, 4, none⟩ = some (.int .i64 f4) := (blk_cell BX.out 4).trans rfl; have z5 : w6.cell? ⟨gx, 5, none⟩ = some (.bool true) := (blk_cell BX.out 5).trans rfl; have z6 : w6.cell? ⟨gx, 6, none⟩ = some (.bool true) := (blk_cell BX.out 6).trans rfl; have zk := QS.kern HQ.out))
    go_ret
    exact ⟨rfl, HB.out⟩
   | false =>
    by_cases h0 : f3 = 0
    ·subst h0
     cases gb with
     | true =>
      refine calls_val (v := .int .i64 11) (by simp [*]) ?_
      go_enter Try.func28, Try.ntmps28
      go_wp2_with (first | ((with_reducible refine gate_dst (N := 3) rfl ?_); refine box_event ?hg (N := 3) ?hd (cs := #[.int .i64 f0, .int .i64 f1, .int .i64 f2, .int .i64 0, .int .i64 f4, .bool true, .bool false]) (t := 35) ?hr ?_; (case hd => rfl); (case hg => rfl); (case hr => first | (go_simp; done) | (go_simp; rfl)); intro gx hg w5 hbox hb; have n0_ := Aside0.mk (below_step HB.out hb); have n1_ := Aside0.mk (QS.below HQ.out hb); have BX := Aside0.mk hbox; clear HB HQ; have HB := n0_; have HQ := n1_; clear n0_ n1_ hg hbox hb; have z0 : w5.cell? ⟨gx, 0, none⟩ = some (.int .i64 f0) := (blk_cell BX.out 0).trans rfl; have z1 : w5.cell? ⟨gx, 1, none⟩ = some (.int .i64 f1) := (blk_cell BX.out 1).trans rfl; have z2 : w5.cell? ⟨gx, 2, none⟩ = some (.int .i64 f2) := (blk_cell BX.out 2).trans rfl; have z3 : w5.cell? ⟨gx, 3, none⟩ = some (.int .i64 0) := (blk_cell BX.out 3).trans rfl; have z4 : w5.cell? ⟨gx, 4, none⟩ = some (.int .i64 f4) := (blk_cell BX.out 4).trans rfl; have z5 : w5.cell? ⟨gx, 5, none⟩ = some (.bool true) := (blk_cell BX.out 5).trans rfl; have z6 : w5.cell? ⟨gx, 6, none⟩ = some (.bool false) := (blk_cell BX.out 6).trans rfl) | (go_at_call 51; (with_reducible refine (nx_outside (⟨f0, f1, f2, 0, f4, true, false⟩ : S35) HQ.out).mono ?_); rintro e w6 ⟨rfl, hb⟩; have n0_ := Aside0.mk (below_step HB.out hb); have n1_ := Aside0.mk (QS.below HQ.out hb); have n2_ := Aside0.mk (blk_below BX.out hb); clear HB HQ BX z0 z1 z2 z3 z4 z5 z6; have HB := n0_; have HQ := n1_; have BX := n2_; clear n0_ n1_ n2_ hb; have z0 : w6.cell? ⟨gx, 0, none⟩ = some (.int .i64 f0) := (blk_cell BX.out 0).trans rfl; have z1 : w6.cell? ⟨gx, 1, none⟩ = some (.int .i64 f1) := (blk_cell BX.out 1).trans rfl; have z2 : w6.cell? ⟨gx, 2, none⟩ = some (.int .i64 f2) := (blk_cell BX.out 2).trans rfl; have z3 : w6.cell? ⟨gx, 3, none⟩ = some (.int .i64 0) := (blk_cell BX.out 3).trans rfl; have z4 : w6.cell? ⟨gx, 4, none⟩ = some (.int .i64 f4) := (blk_cell BX.out 4).trans rfl; have z5 : w6.cell? ⟨gx, 5, none⟩ = some (.bool true) := (blk_cell BX.out 5).trans rfl; have z6 : w6.cell? ⟨gx, 6, none⟩ = some (.bool false) := (blk_cell BX.out 6).trans rfl; have zk := QS.kern HQ.out) | (go_at_call 52; (with_reducible refine (HG.out _ HQ.out).mono ?_); rintro e w7 ⟨rfl, hb⟩; have n0_ := Aside0.mk (below_step HB.out hb); have n2_ := Aside0.mk (blk_below BX.out hb); clear HB HQ BX zk z0 z1 z2 z3 z4 z5 z6; have HB := n0_; have BX := n2_; clear n0_ n2_ hb; have z3 : w7.cell? ⟨gx, 3, none⟩ = some (.int .i64 0) := (blk_cell BX.out 3).trans rfl))
      go_ret
      exact ⟨rfl, HB.out⟩
     | false =>
      refine calls_val (v := .int .i64 0) (by simp [*]) ?_
      go_enter Try.func28, Try.ntmps28
      go_wp2_with (first | ((with_reducible refine gate_dst (N := 3) rfl ?_); refine box_event ?hg (N := 3) ?hd (cs := #[.int .i64 f0, .int .i64 f1, .int .i64 f2, .int .i64 0, .int .i64 f4, .bool true, .bool false]) (t := 35) ?hr ?_; (case hd => rfl); (case hg => rfl); (case hr => first | (go_simp; done) | (go_simp; rfl)); intro gx hg w5 hbox hb; have n0_ := Aside0.mk (below_step HB.out hb); have n1_ := Aside0.mk (QS.below HQ.out hb); have BX := Aside0.mk hbox; clear HB HQ; have HB := n0_; have HQ := n1_; clear n0_ n1_ hg hbox hb; have z0 : w5.cell? ⟨gx, 0, none⟩ = some (.int .i64 f0) := (blk_cell BX.out 0).trans rfl; have z1 : w5.cell? ⟨gx, 1, none⟩ = some (.int .i64 f1) := (blk_cell BX.out 1).trans rfl; have z2 : w5.cell? ⟨gx, 2, none⟩ = some (.int .i64 f2) := (blk_cell BX.out 2).trans rfl; have z3 : w5.cell? ⟨gx, 3, none⟩ = some (.int .i64 0) := (blk_cell BX.out 3).trans rfl; have z4 : w5.cell? ⟨gx, 4, none⟩ = some (.int .i64 f4) := (blk_cell BX.out 4).trans rfl; have z5 : w5.cell? ⟨gx, 5, none⟩ = some (.bool true) := (blk_cell BX.out 5).trans rfl; have z6 : w5.cell? ⟨gx, 6, none⟩ = some (.bool false) := (blk_cell BX.out 6).trans rfl) | (go_at_call 51; (with_reducible refine (nx_outside (⟨f0, f1, f2, 0, f4, true, false⟩ : S35) HQ.out).mono ?_); rintro e w6 ⟨rfl, hb⟩; have n0_ := Aside0.mk (below_step HB.out hb); have n1_ := Aside0.mk (QS.below HQ.out hb); have n2_ := Aside0.mk (blk_below BX.out hb); clear HB HQ BX z0 z1 z2 z3 z4 z5 z6; have HB := n0_; have HQ := n1_; have BX := n2_; clear n0_ n1_ n2_ hb; have z0 : w6.cell? ⟨gx, 0, none⟩ = some (.int .i64 f0) := (blk_cell BX.out 0).trans rfl; have z1 : w6.cell? ⟨gx, 1, none⟩ = some (.int .i64 f1) := (blk_cell BX.out 1).trans rfl; have z2 : w6.cell? ⟨gx, 2, none⟩ = some (.int .i64 f2) := (blk_cell BX.out 2).trans rfl; have z3 : w6.cell? ⟨gx, 3, none⟩ = some (.int .i64 0) := (blk_cell BX.out 3).trans rfl; have z4 : w6.cell? ⟨gx, 4, none⟩ = some (.int .i64 f4) := (blk_cell BX.out 4).trans rfl; have z5 : w6.cell? ⟨gx, 5, none⟩ = some (.bool true) := (blk_cell BX.out 5).trans rfl; have z6 : w6.cell? ⟨gx, 6, none⟩ = some (.bool false) := (blk_cell BX.out 6).trans rfl; have zk := QS.kern HQ.out) | (go_at_call 52; (with_reducible refine (HG.out _ HQ.out).mono ?_); rintro e w7 ⟨rfl, hb⟩; have n0_ := Aside0.mk (below_step HB.out hb); have n2_ := Aside0.mk (blk_below BX.out hb); clear HB HQ BX zk z0 z1 z2 z3 z4 z5 z6; have HB := n0_; have BX := n2_; clear n0_ n2_ hb; have z3 : w7.cell? ⟨gx, 3, none⟩ = some (.int .i64 0) := (blk_cell BX.out 3).trans rfl))
      go_ret
      exact ⟨rfl, HB.out⟩
    ·have b0 : (f3 == 0) = false := beq_eq_false_iff_ne.mpr h0
     have b1 : (f3 != 0) = true := bne_iff_ne.mpr h0
     by_cases h8 : f3 = 8
     ·subst h8
      cases gb with
      | true =>
       refine calls_val (v := .int .i64 11) (by simp [*]) ?_
       go_enter Try.func28, Try.ntmps28
       go_wp2_with (first | ((with_reducible refine gate_dst (N := 3) rfl ?_); refine box_event ?hg (N := 3) ?hd (cs := #[.int .i64 f0, .int .i64 f1, .int .i64 f2, .int .i64 8, .int .i64 f4, .bool true, .bool false]) (t := 35) ?hr ?_; (case hd => rfl); (case hg => rfl); (case hr => first | (go_simp; done) | (go_simp; rfl)); intro gx hg w5 hbox hb; have n0_ := Aside0.mk (below_step HB.out hb); have n1_ := Aside0.mk (QS.below HQ.out hb); have BX := Aside0.mk hbox; clear HB HQ; have HB := n0_; have HQ := n1_; clear n0_ n1_ hg hbox hb; have z0 : w5.cell? ⟨gx, 0, none⟩ = some (.int .i64 f0) := (blk_cell BX.out 0).trans rfl; have z1 : w5.cell? ⟨gx, 1, none⟩ = some (.int .i64 f1) := (blk_cell BX.out 1).trans rfl; have z2 : w5.cell? ⟨gx, 2, none⟩ = some (.int .i64 f2) := (blk_cell BX.out 2).trans rfl; have z3 : w5.cell? ⟨gx, 3, none⟩ = some (.int .i64 8) := (blk_cell BX.out 3).trans rfl; have z4 : w5.cell? ⟨gx, 4, none⟩ = some (.int .i64 f4) := (blk_cell BX.out 4).trans rfl; have z5 : w5.cell? ⟨gx, 5, none⟩ = some (.bool true) := (blk_cell BX.out 5).trans rfl; have z6 : w5.cell? ⟨gx, 6, none⟩ = some (.bool false) := (blk_cell BX.out 6).trans rfl) | (go_at_call 51; (with_reducible refine (nx_outside (⟨f0, f1, f2, 8, f4, true, false⟩ : S35) HQ.out).mono ?_); rintro e w6 ⟨rfl, hb⟩; have n0_ := Aside0.mk (below_step HB.out hb); have n1_ := Aside0.mk (QS.below HQ.out hb); have n2_ := Aside0.mk (blk_below BX.out hb); clear HB HQ BX z0 z1 z2 z3 z4 z5 z6; have HB := n0_; have HQ := n1_; have BX := n2_; clear n0_ n1_ n2_ hb; have z0 : w6.cell? ⟨gx, 0, none⟩ = some (.int .i64 f0) := (blk_cell BX.out 0).trans rfl; have z1 : w6.cell? ⟨gx, 1, none⟩ = some (.int .i64 f1) := (blk_cell BX.out 1).trans rfl; have z2 : w6.cell? ⟨gx, 2, none⟩ = some (.int .i64 f2) := (blk_cell BX.out 2).trans rfl; have z3 : w6.cell? ⟨gx, 3, none⟩ = some (.int .i64 8) := (blk_cell BX.out 3).trans rfl; have z4 : w6.cell? ⟨gx, 4, none⟩ = some (.int .i64 f4) := (blk_cell BX.out 4).trans rfl; have z5 : w6.cell? ⟨gx, 5, none⟩ = some (.bool true) := (blk_cell BX.out 5).trans rfl; have z6 : w6.cell? ⟨gx, 6, none⟩ = some (.bool false) := (blk_cell BX.out 6).trans rfl; have zk := QS.kern HQ.out) | (go_at_call 52; (with_reducible refine (HG.out _ HQ.out).mono ?_); rintro e w7 ⟨rfl, hb⟩; have n0_ := Aside0.mk (below_step HB.out hb); have n2_ := Aside0.mk (blk_below BX.out hb); clear HB HQ BX zk z0 z1 z2 z3 z4 z5 z6; have HB := n0_; have BX := n2_; clear n0_ n2_ hb; have z3 : w7.cell? ⟨gx, 3, none⟩ = some (.int .i64 8) := (blk_cell BX.out 3).trans rfl))
       go_ret
       exact ⟨rfl, HB.out⟩
      | false =>
       refine calls_val (v := .int .i64 8) (by simp [*]) ?_
       go_enter Try.func28, Try.ntmps28
       go_wp2_with (first | ((with_reducible refine gate_dst (N := 3) rfl ?_); refine box_event ?hg (N := 3) ?hd (cs := #[.int .i64 f0, .int .i64 f1, .int .i64 f2, .int .i64 8, .int .i64 f4, .bool true, .bool false]) (t := 35) ?hr ?_; (case hd => rfl); (case hg => rfl); (case hr => first | (go_simp; done) | (go_simp; rfl)); intro gx hg w5 hbox hb; have n0_ := Aside0.mk (below_step HB.out hb); have n1_ := Aside0.mk (QS.below HQ.out hb); have BX := Aside0.mk hbox; clear HB HQ; have HB := n0_; have HQ := n1_; clear n0_ n1_ hg hbox hb; have z0 : w5.cell? ⟨gx, 0, none⟩ = some (.int .i64 f0) := (blk_cell BX.out 0).trans rfl; have z1 : w5.cell? ⟨gx, 1, none⟩ = some (.int .i64 f1) := (blk_cell BX.out 1).trans rfl; have z2 : w5.cell? ⟨gx, 2, none⟩ = some (.int .i64 f2) := (blk_cell BX.out 2).trans rfl; have z3 : w5.cell? ⟨gx, 3, none⟩ = some (.int .i64 8) := (blk_cell BX.out 3).trans rfl; have z4 : w5.cell? ⟨gx, 4, none⟩ = some (.int .i64 f4) := (blk_cell BX.out 4).trans rfl; have z5 : w5.cell? ⟨gx, 5, none⟩ = some (.bool true) := (blk_cell BX.out 5).trans rfl; have z6 : w5.cell? ⟨gx, 6, none⟩ = some (.bool false) := (blk_cell BX.out 6).trans rfl) | (go_at_call 51; (with_reducible refine (nx_outside (⟨f0, f1, f2, 8, f4, true, false⟩ : S35) HQ.out).mono ?_); rintro e w6 ⟨rfl, hb⟩; have n0_ := Aside0.mk (below_step HB.out hb); have n1_ := Aside0.mk (QS.below HQ.out hb); have n2_ := Aside0.mk (blk_below BX.out hb); clear HB HQ BX z0 z1 z2 z3 z4 z5 z6; have HB := n0_; have HQ := n1_; have BX := n2_; clear n0_ n1_ n2_ hb; have z0 : w6.cell? ⟨gx, 0, none⟩ = some (.int .i64 f0) := (blk_cell BX.out 0).trans rfl; have z1 : w6.cell? ⟨gx, 1, none⟩ = some (.int .i64 f1) := (blk_cell BX.out 1).trans rfl; have z2 : w6.cell? ⟨gx, 2, none⟩ = some (.int .i64 f2) := (blk_cell BX.out 2).trans rfl; have z3 : w6.cell? ⟨gx, 3, none⟩ = some (.int .i64 8) := (blk_cell BX.out 3).trans rfl; have z4 : w6.cell? ⟨gx, 4, none⟩ = some (.int .i64 f4) := (blk_cell BX.out 4).trans rfl; have z5 : w6.cell? ⟨gx, 5, none⟩ = some (.bool true) := (blk_cell BX.out 5).trans rfl; have z6 : w6.cell? ⟨gx, 6, none⟩ = some (.bool false) := (blk_cell BX.out 6).trans rfl; have zk := QS.kern HQ.out) | (go_at_call 52; (with_reducible refine (HG.out _ HQ.out).mono ?_); rintro e w7 ⟨rfl, hb⟩; have n0_ := Aside0.mk (below_step HB.out hb); have n2_ := Aside0.mk (blk_below BX.out hb); clear HB HQ BX zk z0 z1 z2 z3 z4 z5 z6; have HB := n0_; have BX := n2_; clear n0_ n2_ hb; have z3 : w7.cell? ⟨gx, 3, none⟩ = some (.int .i64 8) := (blk_cell BX.out 3).trans rfl))
       go_ret
       exact ⟨rfl, HB.out⟩
     ·have b2 : (f3 == 8) = false := beq_eq_false_iff_ne.mpr h8
      have b3 : (f3 != 8) = true := bne_iff_ne.mpr h8
      refine calls_val (v := .int .i64 f3) (by simp [*]) ?_
      go_enter Try.func28, Try.ntmps28
      go_wp2_with (first | ((with_reducible refine gate_dst (N := 3) rfl ?_); refine box_event ?hg (N := 3) ?hd (cs := #[.int .i64 f0, .int .i64 f1, .int .i64 f2, .int .i64 f3, .int .i64 f4, .bool true, .bool false]) (t := 35) ?hr ?_; (case hd => rfl); (case hg => rfl); (case hr => first | (go_simp; done) | (go_simp; rfl)); intro gx hg w5 hbox hb; have n0_ := Aside0.mk (below_step HB.out hb); have n1_ := Aside0.mk (QS.below HQ.out hb); have BX := Aside0.mk hbox; clear HB HQ; have HB := n0_; have HQ := n1_; clear n0_ n1_ hg hbox hb; have z0 : w5.cell? ⟨gx, 0, none⟩ = some (.int .i64 f0) := (blk_cell BX.out 0).trans rfl; have z1 : w5.cell? ⟨gx, 1, none⟩ = some (.int .i64 f1) := (blk_cell BX.out 1).trans rfl; have z2 : w5.cell? ⟨gx, 2, none⟩ = some (.int .i64 f2) := (blk_cell BX.out 2).trans rfl; have z3 : w5.cell? ⟨gx, 3, none⟩ = some (.int .i64 f3) := (blk_cell BX.out 3).trans rfl; have z4 : w5.cell? ⟨gx, 4, none⟩ = some (.int .i64 f4) := (blk_cell BX.out 4).trans rfl; have z5 : w5.cell? ⟨gx, 5, none⟩ = some (.bool true) := (blk_cell BX.out 5).trans rfl; have z6 : w5.cell? ⟨gx, 6, none⟩ = some (.bool false) := (blk_cell BX.out 6).trans rfl) | (go_at_call 51; (with_reducible refine (nx_outside (⟨f0, f1, f2, f3, f4, true, false⟩ : S35) HQ.out).mono ?_); rintro e w6 ⟨rfl, hb⟩; have n0_ := Aside0.mk (below_step HB.out hb); have n1_ := Aside0.mk (QS.below HQ.out hb); have n2_ := Aside0.mk (blk_below BX.out hb); clear HB HQ BX z0 z1 z2 z3 z4 z5 z6; have HB := n0_; have HQ := n1_; have BX := n2_; clear n0_ n1_ n2_ hb; have z0 : w6.cell? ⟨gx, 0, none⟩ = some (.int .i64 f0) := (blk_cell BX.out 0).trans rfl; have z1 : w6.cell? ⟨gx, 1, none⟩ = some (.int .i64 f1) := (blk_cell BX.out 1).trans rfl; have z2 : w6.cell? ⟨gx, 2, none⟩ = some (.int .i64 f2) := (blk_cell BX.out 2).trans rfl; have z3 : w6.cell? ⟨gx, 3, none⟩ = some (.int .i64 f3) := (blk_cell BX.out 3).trans rfl; have z4 : w6.cell? ⟨gx, 4, none⟩ = some (.int .i64 f4) := (blk_cell BX.out 4).trans rfl; have z5 : w6.cell? ⟨gx, 5, none⟩ = some (.bool true) := (blk_cell BX.out 5).trans rfl; have z6 : w6.cell? ⟨gx, 6, none⟩ = some (.bool false) := (blk_cell BX.out 6).trans rfl; have zk := QS.kern HQ.out))
      go_ret
      exact ⟨rfl, HB.out⟩
 | false =>
  cases f6 with
  | true =>
   refine calls_val (v := .int .i64 8) (by simp [*]) ?_
   go_enter Try.func28, Try.ntmps28
   go_wp2_with (first | ((with_reducible refine gate_dst (N := 3) rfl ?_); refine box_event ?hg (N := 3) ?hd (cs := #[.int .i64 f0, .int .i64 f1, .int .i64 f2, .int .i64 f3, .int .i64 f4, .bool f5, .bool true]) (t := 35) ?hr ?_; (case hd => rfl); (case hg => rfl); (case hr => first | (go_simp; done) | (go_simp; rfl)); intro gx hg w5 hbox hb; have n0_ := Aside0.mk (below_step HB.out hb); have n1_ := Aside0.mk (QS.below HQ.out hb); have BX := Aside0.mk hbox; clear HB HQ; have HB := n0_; have HQ := n1_; clear n0_ n1_ hg hbox hb; have z0 : w5.cell? ⟨gx, 0, none⟩ = some (.int .i64 f0) := (blk_cell BX.out 0).trans rfl; have z1 : w5.cell? ⟨gx, 1, none⟩ = some (.int .i64 f1) := (blk_cell BX.out 1).trans rfl; have z2 : w5.cell? ⟨gx, 2, none⟩ = some (.int .i64 f2) := (blk_cell BX.out 2).trans rfl; have z3 : w5.cell? ⟨gx, 3, none⟩ = some (.int .i64 f3) := (blk_cell BX.out 3).trans rfl; have z4 : w5.cell? ⟨gx, 4, none⟩ = some (.int .i64 f4) := (blk_cell BX.out 4).trans rfl; have z5 : w5.cell? ⟨gx, 5, none⟩ = some (.bool f5) := (blk_cell BX.out 5).trans rfl; have z6 : w5.cell? ⟨gx, 6, none⟩ = some (.bool true) := (blk_cell BX.out 6).trans rfl) | (go_at_call 51; (with_reducible refine (nx_outside (⟨f0, f1, f2, f3, f4, f5, true⟩ : S35) HQ.out).mono ?_); rintro e w6 ⟨rfl, hb⟩; have n0_ := Aside0.mk (below_step HB.out hb); have n1_ := Aside0.mk (QS.below HQ.out hb); have n2_ := Aside0.mk (blk_below BX.out hb); clear HB HQ BX z0 z1 z2 z3 z4 z5 z6; have HB := n0_; have HQ := n1_; have BX := n2_; clear n0_ n1_ n2_ hb; have z0 : w6.cell? ⟨gx, 0, none⟩ = some (.int .i64 f0) := (blk_cell BX.out 0).trans rfl; have z1 : w6.cell? ⟨gx, 1, none⟩ = some (.int .i64 f1) := (blk_cell BX.out 1).trans rfl; have z2 : w6.cell? ⟨gx, 2, none⟩ = some (.int .i64 f2) := (blk_cell BX.out 2).trans rfl; have z3 : w6.cell? ⟨gx, 3, none⟩ = some (.int .i64 f3) := (blk_cell BX.out 3).trans rfl; have z4 : w6.cell? ⟨gx, 4, none⟩ = some (.int .i64 f4) := (blk_cell BX.out 4).trans rfl; have z5 : w6.cell? ⟨gx, 5, none⟩ = some (.bool f5) := (blk_cell BX.out 5).trans rfl; have z6 : w6.cell? ⟨gx, 6, none⟩ = some (.bool true) := (blk_cell BX.out 6).trans rfl; have zk := QS.kern HQ.out))
   go_ret
   exact ⟨rfl, HB.out⟩
  | false =>
   by_cases h0 : f3 = 0
   ·subst h0
    cases gb with
    | true =>
     refine calls_val (v := .int .i64 11) (by simp [*]) ?_
     go_enter Try.func28, Try.ntmps28
     go_wp2_with (first | ((with_reducible refine gate_dst (N := 3) rfl ?_); refine box_event ?hg (N := 3) ?hd (cs := #[.int .i64 f0, .int .i64 f1, .int .i64 f2, .int .i64 0, .int .i64 f4, .bool f5, .bool false]) (t := 35) ?hr ?_; (case hd => rfl); (case hg => rfl); (case hr => first | (go_simp; done) | (go_simp; rfl)); intro gx hg w5 hbox hb; have n0_ := Aside0.mk (below_step HB.out hb); have n1_ := Aside0.mk (QS.below HQ.out hb); have BX := Aside0.mk hbox; clear HB HQ; have HB := n0_; have HQ := n1_; clear n0_ n1_ hg hbox hb; have z0 : w5.cell? ⟨gx, 0, none⟩ = some (.int .i64 f0) := (blk_cell BX.out 0).trans rfl; have z1 : w5.cell? ⟨gx, 1, none⟩ = some (.int .i64 f1) := (blk_cell BX.out 1).trans rfl; have z2 : w5.cell? ⟨gx, 2, none⟩ = some (.int .i64 f2) := (blk_cell BX.out 2).trans rfl; have z3 : w5.cell? ⟨gx, 3, none⟩ = some (.int .i64 0) := (blk_cell BX.out 3).trans rfl; have z4 : w5.cell? ⟨gx, 4, none⟩ = some (.int .i64 f4) := (blk_cell BX.out 4).trans rfl; have z5 : w5.cell? ⟨gx, 5, none⟩ = some (.bool f5) := (blk_cell BX.out 5).trans rfl; have z6 : w5.cell? ⟨gx, 6, none⟩ = some (.bool false) := (blk_cell BX.out 6).trans rfl) | (go_at_call 51; (with_reducible refine (nx_outside (⟨f0, f1, f2, 0, f4, f5, false⟩ : S35) HQ.out).mono ?_); rintro e w6 ⟨rfl, hb⟩; have n0_ := Aside0.mk (below_step HB.out hb); have n1_ := Aside0.mk (QS.below HQ.out hb); have n2_ := Aside0.mk (blk_below BX.out hb); clear HB HQ BX z0 z1 z2 z3 z4 z5 z6; have HB := n0_; have HQ := n1_; have BX := n2_; clear n0_ n1_ n2_ hb; have z0 : w6.cell? ⟨gx, 0, none⟩ = some (.int .i64 f0) := (blk_cell BX.out 0).trans rfl; have z1 : w6.cell? ⟨gx, 1, none⟩ = some (.int .i64 f1) := (blk_cell BX.out 1).trans rfl; have z2 : w6.cell? ⟨gx, 2, none⟩ = some (.int .i64 f2) := (blk_cell BX.out 2).trans rfl; have z3 : w6.cell? ⟨gx, 3, none⟩ = some (.int .i64 0) := (blk_cell BX.out 3).trans rfl; have z4 : w6.cell? ⟨gx, 4, none⟩ = some (.int .i64 f4) := (blk_cell BX.out 4).trans rfl; have z5 : w6.cell? ⟨gx, 5, none⟩ = some (.bool f5) := (blk_cell BX.out 5).trans rfl; have z6 : w6.cell? ⟨gx, 6, none⟩ = some (.bool false) := (blk_cell BX.out 6).trans rfl; have zk := QS.kern HQ.out) | (go_at_call 52; (with_reducible refine (HG.out _ HQ.out).mono ?_); rintro e w7 ⟨rfl, hb⟩; have n0_ := Aside0.mk (below_step HB.out hb); have n2_ := Aside0.mk (blk_below BX.out hb); clear HB HQ BX zk z0 z1 z2 z3 z4 z5 z6; have HB := n0_; have BX := n2_; clear n0_ n2_ hb; have z3 : w7.cell? ⟨gx, 3, none⟩ = some (.int .i64 0) := (blk_cell BX.out 3).trans rfl))
     go_ret
     exact ⟨rfl, HB.out⟩
    | false =>
     refine calls_val (v := .int .i64 0) (by simp [*]) ?_
     go_enter Try.func28, Try.ntmps28
     go_wp2_with (first | ((with_reducible refine gate_dst (N := 3) rfl ?_); refine box_event ?hg (N := 3) ?hd (cs := #[.int .i64 f0, .int .i64 f1, .int .i64 f2, .int .i64 0, .int .i64 f4, .bool f5, .bool false]) (t := 35) ?hr ?_; (case hd => rfl); (case hg => rfl); (case hr => first | (go_simp; done) | (go_simp; rfl)); intro gx hg w5 hbox hb; have n0_ := Aside0.mk (below_step HB.out hb); have n1_ := Aside0.mk (QS.below HQ.out hb); have BX := Aside0.mk hbox; clear HB HQ; have HB := n0_; have HQ := n1_; clear n0_ n1_ hg hbox hb; have z0 : w5.cell? ⟨gx, 0, none⟩ = some (.int .i64 f0) := (blk_cell BX.out 0).trans rfl; have z1 : w5.cell? ⟨gx, 1, none⟩ = some (.int .i64 f1) := (blk_cell BX.out 1).trans rfl; have z2 : w5.cell? ⟨gx, 2, none⟩ = some (.int .i64 f2) := (blk_cell BX.out 2).trans rfl; have z3 : w5.cell? ⟨gx, 3, none⟩ = some (.int .i64 0) := (blk_cell BX.out 3).trans rfl; have z4 : w5.cell? ⟨gx, 4, none⟩ = some (.int .i64 f4) := (blk_cell BX.out 4).trans rfl; have z5 : w5.cell? ⟨gx, 5, none⟩ = some (.bool f5) := (blk_cell BX.out 5).trans rfl; have z6 : w5.cell? ⟨gx, 6, none⟩ = some (.bool false) := (blk_cell BX.out 6).trans rfl) | (go_at_call 51; (with_reducible refine (nx_outside (⟨f0, f1, f2, 0, f4, f5, false⟩ : S35) HQ.out).mono ?_); rintro e w6 ⟨rfl, hb⟩; have n0_ := Aside0.mk (below_step HB.out hb); have n1_ := Aside0.mk (QS.below HQ.out hb); have n2_ := Aside0.mk (blk_below BX.out hb); clear HB HQ BX z0 z1 z2 z3 z4 z5 z6; have HB := n0_; have HQ := n1_; have BX := n2_; clear n0_ n1_ n2_ hb; have z0 : w6.cell? ⟨gx, 0, none⟩ = some (.int .i64 f0) := (blk_cell BX.out 0).trans rfl; have z1 : w6.cell? ⟨gx, 1, none⟩ = some (.int .i64 f1) := (blk_cell BX.out 1).trans rfl; have z2 : w6.cell? ⟨gx, 2, none⟩ = some (.int .i64 f2) := (blk_cell BX.out 2).trans rfl; have z3 : w6.cell? ⟨gx, 3, none⟩ = some (.int .i64 0) := (blk_cell BX.out 3).trans rfl; have z4 : w6.cell? ⟨gx, 4, none⟩ = some (.int .i64 f4) := (blk_cell BX.out 4).trans rfl; have z5 : w6.cell? ⟨gx, 5, none⟩ = some (.bool f5) := (blk_cell BX.out 5).trans rfl; have z6 : w6.cell? ⟨gx, 6, none⟩ = some (.bool false) := (blk_cell BX.out 6).trans rfl; have zk := QS.kern HQ.out) | (go_at_call 52; (with_reducible refine (HG.out _ HQ.out).mono ?_); rintro e w7 ⟨rfl, hb⟩; have n0_ := Aside0.mk (below_step HB.out hb); have n2_ := Aside0.mk (blk_below BX.out hb); clear HB HQ BX zk z0 z1 z2 z3 z4 z5 z6; have HB := n0_; have BX := n2_; clear n0_ n2_ hb; have z3 : w7.cell? ⟨gx, 3, none⟩ = some (.int .i64 0) := (blk_cell BX.out 3).trans rfl))
     go_ret
     exact ⟨rfl, HB.out⟩
   ·have b0 : (f3 == 0) = false := beq_eq_false_iff_ne.mpr h0
    have b1 : (f3 != 0) = true := bne_iff_ne.mpr h0
    by_cases h8 : f3 = 8
    ·subst h8
     cases gb with
     | true =>
      refine calls_val (v := .int .i64 11) (by simp [*]) ?_
      go_enter Try.func28, Try.ntmps28
      go_wp2_with (first | ((with_reducible refine gate_dst (N := 3) rfl ?_); refine box_event ?hg (N := 3) ?hd (cs := #[.int .i64 f0, .int .i64 f1, .int .i64 f2, .int .i64 8, .int .i64 f4, .bool f5, .bool false]) (t := 35) ?hr ?_; (case hd => rfl); (case hg => rfl); (case hr => first | (go_simp; done) | (go_simp; rfl)); intro gx hg w5 hbox hb; have n0_ := Aside0.mk (below_step HB.out hb); have n1_ := Aside0.mk (QS.below HQ.out hb); have BX := Aside0.mk hbox; clear HB HQ; have HB := n0_; have HQ := n1_; clear n0_ n1_ hg hbox hb; have z0 : w5.cell? ⟨gx, 0, none⟩ = some (.int .i64 f0) := (blk_cell BX.out 0).trans rfl; have z1 : w5.cell? ⟨gx, 1, none⟩ = some (.int .i64 f1) := (blk_cell BX.out 1).trans rfl; have z2 : w5.cell? ⟨gx, 2, none⟩ = some (.int .i64 f2) := (blk_cell BX.out 2).trans rfl; have z3 : w5.cell? ⟨gx, 3, none⟩ = some (.int .i64 8) := (blk_cell BX.out 3).trans rfl; have z4 : w5.cell? ⟨gx, 4, none⟩ = some (.int .i64 f4) := (blk_cell BX.out 4).trans rfl; have z5 : w5.cell? ⟨gx, 5, none⟩ = some (.bool f5) := (blk_cell BX.out 5).trans rfl; have z6 : w5.cell? ⟨gx, 6, none⟩ = some (.bool false) := (blk_cell BX.out 6).trans rfl) | (go_at_call 51; (with_reducible refine (nx_outside (⟨f0, f1, f2, 8, f4, f5, false⟩ : S35) HQ.out).mono ?_); rintro e w6 ⟨rfl, hb⟩; have n0_ := Aside0.mk (below_step HB.out hb); have n1_ := Aside0.mk (QS.below HQ.out hb); have n2_ := Aside0.mk (blk_below BX.out hb); clear HB HQ BX z0 z1 z2 z3 z4 z5 z6; have HB := n0_; have HQ := n1_; have BX := n2_; clear n0_ n1_ n2_ hb; have z0 : w6.cell? ⟨gx, 0, none⟩ = some (.int .i64 f0) := (blk_cell BX.out 0).trans rfl; have z1 : w6.cell? ⟨gx, 1, none⟩ = some (.int .i64 f1) := (blk_cell BX.out 1).trans rfl; have z2 : w6.cell? ⟨gx, 2, none⟩ = some (.int .i64 f2) := (blk_cell BX.out 2).trans rfl; have z3 : w6.cell? ⟨gx, 3, none⟩ = some (.int .i64 8) := (blk_cell BX.out 3).trans rfl; have z4 : w6.cell? ⟨gx, 4, none⟩ = some (.int .i64 f4) := (blk_cell BX.out 4).trans rfl; have z5 : w6.cell? ⟨gx, 5, none⟩ = some (.bool f5) := (blk_cell BX.out 5).trans rfl; have z6 : w6.cell? ⟨gx, 6, none⟩ = some (.bool false) := (blk_cell BX.out 6).trans rfl; have zk := QS.kern HQ.out) | (go_at_call 52; (with_reducible refine (HG.out _ HQ.out).mono ?_); rintro e w7 ⟨rfl, hb⟩; have n0_ := Aside0.mk (below_step HB.out hb); have n2_ := Aside0.mk (blk_below BX.out hb); clear HB HQ BX zk z0 z1 z2 z3 z4 z5 z6; have HB := n0_; have BX := n2_; clear n0_ n2_ hb; have z3 : w7.cell? ⟨gx, 3, none⟩ = some (.int .i64 8) := (blk_cell BX.out 3).trans rfl))
      go_ret
      exact ⟨rfl, HB.out⟩
     | false =>
      refine calls_val (v := .int .i64 8) (by simp [*]) ?_
      go_enter Try.func28, Try.ntmps28
      go_wp2_with (first | ((with_reducible refine gate_dst (N := 3) rfl ?_); refine box_event ?hg (N := 3) ?hd (cs := #[.int .i64 f0, .int .i64 f1, .int .i64 f2, .int .i64 8, .int .i64 f4, .bool f5, .bool false]) (t := 35) ?hr ?_; (case hd => rfl); (case hg => rfl); (case hr => first | (go_simp; done) | (go_simp; rfl)); intro gx hg w5 hbox hb; have n0_ := Aside0.mk (below_step HB.out hb); have n1_ := Aside0.mk (QS.below HQ.out hb); have BX := Aside0.mk hbox; clear HB HQ; have HB := n0_; have HQ := n1_; clear n0_ n1_ hg hbox hb; have z0 : w5.cell? ⟨gx, 0, none⟩ = some (.int .i64 f0) := (blk_cell BX.out 0).trans rfl; have z1 : w5.cell? ⟨gx, 1, none⟩ = some (.int .i64 f1) := (blk_cell BX.out 1).trans rfl; have z2 : w5.cell? ⟨gx, 2, none⟩ = some (.int .i64 f2) := (blk_cell BX.out 2).trans rfl; have z3 : w5.cell? ⟨gx, 3, none⟩ = some (.int .i64 8) := (blk_cell BX.out 3).trans rfl; have z4 : w5.cell? ⟨gx, 4, none⟩ = some (.int .i64 f4) := (blk_cell BX.out 4).trans rfl; have z5 : w5.cell? ⟨gx, 5, none⟩ = some (.bool f5) := (blk_cell BX.out 5).trans rfl; have z6 : w5.cell? ⟨gx, 6, none⟩ = some (.bool false) := (blk_cell BX.out 6).trans rfl) | (go_at_call 51; (with_reducible refine (nx_outside (⟨f0, f1, f2, 8, f4, f5, false⟩ : S35) HQ.out).mono ?_); rintro e w6 ⟨rfl, hb⟩; have n0_ := Aside0.mk (below_step HB.out hb); have n1_ := Aside0.mk (QS.below HQ.out hb); have n2_ := Aside0.mk (blk_below BX.out hb); clear HB HQ BX z0 z1 z2 z3 z4 z5 z6; have HB := n0_; have HQ := n1_; have BX := n2_; clear n0_ n1_ n2_ hb; have z0 : w6.cell? ⟨gx, 0, none⟩ = some (.int .i64 f0) := (blk_cell BX.out 0).trans rfl; have z1 : w6.cell? ⟨gx, 1, none⟩ = some (.int .i64 f1) := (blk_cell BX.out 1).trans rfl; have z2 : w6.cell? ⟨gx, 2, none⟩ = some (.int .i64 f2) := (blk_cell BX.out 2).trans rfl; have z3 : w6.cell? ⟨gx, 3, none⟩ = some (.int .i64 8) := (blk_cell BX.out 3).trans rfl; have z4 : w6.cell? ⟨gx, 4, none⟩ = some (.int .i64 f4) := (blk_cell BX.out 4).trans rfl; have z5 : w6.cell? ⟨gx, 5, none⟩ = some (.bool f5) := (blk_cell BX.out 5).trans rfl; have z6 : w6.cell? ⟨gx, 6, none⟩ = some (.bool false) := (blk_cell BX.out 6).trans rfl; have zk := QS.kern HQ.out) | (go_at_call 52; (with_reducible refine (HG.out _ HQ.out).mono ?_); rintro e w7 ⟨rfl, hb⟩; have n0_ := Aside0.mk (below_step HB.out hb); have n2_ := Aside0.mk (blk_below BX.out hb); clear HB HQ BX zk z0 z1 z2 z3 z4 z5 z6; have HB := n0_; have BX := n2_; clear n0_ n2_ hb; have z3 : w7.cell? ⟨gx, 3, none⟩ = some (.int .i64 8) := (blk_cell BX.out 3).trans rfl))
      go_ret
      exact ⟨rfl, HB.out⟩
    ·have b2 : (f3 == 8) = false := beq_eq_false_iff_ne.mpr h8
     have b3 : (f3 != 8) = true := bne_iff_ne.mpr h8
     refine calls_val (v := .int .i64 f3) (by simp [*]) ?_
     go_enter Try.func28, Try.ntmps28
     go_wp2_with (first | ((with_reducible refine gate_dst (N := 3) rfl ?_); refine box_event ?hg (N := 3) ?hd (cs := #[.int .i64 f0, .int .i64 f1, .int .i64 f2, .int .i64 f3, .int .i64 f4, .bool f5, .bool false]) (t := 35) ?hr ?_; (case hd => rfl); (case hg => rfl); (case hr => first | (go_simp; done) | (go_simp; rfl)); intro gx hg w5 hbox hb; have n0_ := Aside0.mk (below_step HB.out hb); have n1_ := Aside0.mk (QS.below HQ.out hb); have BX := Aside0.mk hbox; clear HB HQ; have HB := n0_; have HQ := n1_; clear n0_ n1_ hg hbox hb; have z0 : w5.cell? ⟨gx, 0, none⟩ = some (.int .i64 f0) := (blk_cell BX.out 0).trans rfl; have z1 : w5.cell? ⟨gx, 1, none⟩ = some (.int .i64 f1) := (blk_cell BX.out 1).trans rfl; have z2 : w5.cell? ⟨gx, 2, none⟩ = some (.int .i64 f2) := (blk_cell BX.out 2).trans rfl; have z3 : w5.cell? ⟨gx, 3, none⟩ = some (.int .i64 f3) := (blk_cell BX.out 3).trans rfl; have z4 : w5.cell? ⟨gx, 4, none⟩ = some (.int .i64 f4) := (blk_cell BX.out 4).trans rfl; have z5 : w5.cell? ⟨gx, 5, none⟩ = some (.bool f5) := (blk_cell BX.out 5).trans rfl; have z6 : w5.cell? ⟨gx, 6, none⟩ = some (.bool false) := (blk_cell BX.out 6).trans rfl) | (go_at_call 51; (with_reducible refine (nx_outside (⟨f0, f1, f2, f3, f4, f5, false⟩ : S35) HQ.out).mono ?_); rintro e w6 ⟨rfl, hb⟩; have n0_ := Aside0.mk (below_step HB.out hb); have n1_ := Aside0.mk (QS.below HQ.out hb); have n2_ := Aside0.mk (blk_below BX.out hb); clear HB HQ BX z0 z1 z2 z3 z4 z5 z6; have HB := n0_; have HQ := n1_; have BX := n2_; clear n0_ n1_ n2_ hb; have z0 : w6.cell? ⟨gx, 0, none⟩ = some (.int .i64 f0) := (blk_cell BX.out 0).trans rfl; have z1 : w6.cell? ⟨gx, 1, none⟩ = some (.int .i64 f1) := (blk_cell BX.out 1).trans rfl; have z2 : w6.cell? ⟨gx, 2, none⟩ = some (.int .i64 f2) := (blk_cell BX.out 2).trans rfl; have z3 : w6.cell? ⟨gx, 3, none⟩ = some (.int .i64 f3) := (blk_cell BX.out 3).trans rfl; have z4 : w6.cell? ⟨gx, 4, none⟩ = some (.int .i64 f4) := (blk_cell BX.out 4).trans rfl; have z5 : w6.cell? ⟨gx, 5, none⟩ = some (.bool f5) := (blk_cell BX.out 5).trans rfl; have z6 : w6.cell? ⟨gx, 6, none⟩ = some (.bool false) := (blk_cell BX.out 6).trans rfl; have zk := QS.kern HQ.out))
     go_ret
     exact ⟨rfl, HB.out⟩
abbrev RB (W : World) (base : Nat) (v : Value) (l : List Bool) : Prop := Kd.R Kd.bool 4 W base (fun _ => True) v l
/-- The question under way: its block and its three lists, each in its own block. -/
def QI (W : World) (base g : Nat) (A0 : Option Addr) (n0 c0 : Nat) (a2 : Int) (kern : Bool) (v1 v2 v3 : Value) (l1 l2 l3 : List Bool) : Prop :=
 base ≤ g ∧ W.heap[g]? = some (.cells #[.slice A0 n0 c0, .int .i64 a2, .bool kern, v1, v2, v3] 71 (0, 0)) ∧ (RB W base v1 l1 ∧ RB W base v2 l2 ∧ RB W base v3 l3) ∧
  (∀ k, v1.ownBlock = some k → v2.ownBlock ≠ some k) ∧ (∀ k, v1.ownBlock = some k → v3.ownBlock ≠ some k) ∧ (∀ k, v2.ownBlock = some k → v3.ownBlock ≠ some k)
theorem QI.below {W W1 : World} {base g : Nat} {A0 : Option Addr} {n0 c0 : Nat} {a2 : Int} {kern : Bool} {v1 v2 v3 : Value} {l1 l2 l3 : List Bool} (h : QI W base g A0 n0 c0 a2 kern v1 v2 v3 l1 l2 l3) (hb : Below W.heap.size W W1) : QI W1 base g A0 n0 c0 a2 kern v1 v2 v3 l1 l2 l3 :=
 ⟨h.1, blk_below h.2.1 hb, ⟨Kd.R_below h.2.2.1.1 hb, Kd.R_below h.2.2.1.2.1 hb, Kd.R_below h.2.2.1.2.2 hb⟩, h.2.2.2⟩
theorem rb_neq {W W1 : World} {base : Nat} {u v v' : Value} {l : List Bool} (hu : RB W base u l) (hat : v'.ownBlock = v.ownBlock ∨ ∃ b, v'.ownBlock = some b ∧ W.heap.size ≤ b) (h : ∀ k, v.ownBlock = some k → u.ownBlock ≠ some k) : ∀ k, v'.ownBlock = some k → u.ownBlock ≠ some k := by
 intro k hk he
 rcases hat with e | ⟨b, e, hb⟩
 ·exact h k (e.symm.trans hk) he
 ·have h1 := Kd.R_lt hu k he
  rw [e] at hk
  injection hk with hk
  omega
theorem rb_grow {W W1 : World} {base : Nat} {u v : Value} {l : List Bool} (hu : RB W base u l) (hg : W.grownBy W1 v.ownBlock) (h : ∀ k, v.ownBlock = some k → u.ownBlock ≠ some k) : RB W1 base u l :=
 Kd.R_grown2 hu rfl hg (fun k hk e => h k hk e.symm)
theorem bool_ne71 : ∀ q, q ∈ 4 :: Kd.bool.E → q ≠ 71 := by decide
theorem QI.app1 {W W1 : World} {base g : Nat} {A0 : Option Addr} {n0 c0 : Nat} {a2 : Int} {kern : Bool} {v1 v2 v3 v' : Value} {l1 l2 l3 l' : List Bool} (h : QI W base g A0 n0 c0 a2 kern v1 v2 v3 l1 l2 l3) (hr : RB W1 base v' l') (hg : W.grownBy W1 v1.ownBlock) (hat : v'.ownBlock = v1.ownBlock ∨ ∃ b, v'.ownBlock = some b ∧ W.heap.size ≤ b) :
  W1.heap[g]? = some (.cells #[.slice A0 n0 c0, .int .i64 a2, .bool kern, v1, v2, v3] 71 (0, 0)) ∧ QI (W1.setCell ⟨g, 3, none⟩ v') base g A0 n0 c0 a2 kern v' v2 v3 l' l2 l3 := by
 have hb := (hg.block g (blk_lt h.2.1) (Kd.R_ne h.2.2.1.1 h.2.1 (by decide))).trans h.2.1
 have r2 := Kd.R_set (rb_grow h.2.2.1.2.1 hg h.2.2.2.1) hb bool_ne71 3 v'
 have r3 := Kd.R_set (rb_grow h.2.2.1.2.2 hg h.2.2.2.2.1) hb bool_ne71 3 v'
 have r1 := Kd.R_set hr hb bool_ne71 3 v'
 exact ⟨hb, h.1, blk_put hb 3 v' rfl, ⟨r1, r2, r3⟩, rb_neq (W1 := W1) h.2.2.1.2.1 hat h.2.2.2.1, rb_neq (W1 := W1) h.2.2.1.2.2 hat h.2.2.2.2.1, h.2.2.2.2.2⟩
theorem QI.app2 {W W1 : World} {base g : Nat} {A0 : Option Addr} {n0 c0 : Nat} {a2 : Int} {kern : Bool} {v1 v2 v3 v' : Value} {l1 l2 l3 l' : List Bool} (h : QI W base g A0 n0 c0 a2 kern v1 v2 v3 l1 l2 l3) (hr : RB W1 base v' l') (hg : W.grownBy W1 v2.ownBlock) (hat : v'.ownBlock = v2.ownBlock ∨ ∃ b, v'.ownBlock = some b ∧ W.heap.size ≤ b) :
  W1.heap[g]? = some (.cells #[.slice A0 n0 c0, .int .i64 a2, .bool kern, v1, v2, v3] 71 (0, 0)) ∧ QI (W1.setCell ⟨g, 4, none⟩ v') base g A0 n0 c0 a2 kern v1 v' v3 l1 l' l3 := by
 have hb := (hg.block g (blk_lt h.2.1) (Kd.R_ne h.2.2.1.2.1 h.2.1 (by decide))).trans h.2.1
 have r1 := Kd.R_set (rb_grow h.2.2.1.1 hg (fun k hk he => h.2.2.2.1 k he hk)) hb bool_ne71 4 v'
 have r3 := Kd.R_set (rb_grow h.2.2.1.2.2 hg h.2.2.2.2.2) hb bool_ne71 4 v'
 have r2 := Kd.R_set hr hb bool_ne71 4 v'
 exact ⟨hb, h.1, blk_put hb 4 v' rfl, ⟨r1, r2, r3⟩, (fun k hk he => rb_neq (W1 := W1) h.2.2.1.1 hat (fun k hk he => h.2.2.2.1 k he hk) k he hk), h.2.2.2.2.1, rb_neq (W1 := W1) h.2.2.1.2.2 hat h.2.2.2.2.2⟩
theorem QI.app3 {W W1 : World} {base g : Nat} {A0 : Option Addr} {n0 c0 : Nat} {a2 : Int} {kern : Bool} {v1 v2 v3 v' : Value} {l1 l2 l3 l' : List Bool} (h : QI W base g A0 n0 c0 a2 kern v1 v2 v3 l1 l2 l3) (hr : RB W1 base v' l') (hg : W.grownBy W1 v3.ownBlock) (hat : v'.ownBlock = v3.ownBlock ∨ ∃ b, v'.ownBlock = some b ∧ W.heap.size ≤ b) :
  W1.heap[g]? = some (.cells #[.slice A0 n0 c0, .int .i64 a2, .bool kern, v1, v2, v3] 71 (0, 0)) ∧ QI (W1.setCell ⟨g, 5, none⟩ v') base g A0 n0 c0 a2 kern v1 v2 v' l1 l2 l' := by
 have hb := (hg.block g (blk_lt h.2.1) (Kd.R_ne h.2.2.1.2.2 h.2.1 (by decide))).trans h.2.1
 have r1 := Kd.R_set (rb_grow h.2.2.1.1 hg (fun k hk he => h.2.2.2.2.1 k he hk)) hb bool_ne71 5 v'
 have r2 := Kd.R_set (rb_grow h.2.2.1.2.1 hg (fun k hk he => h.2.2.2.2.2 k he hk)) hb bool_ne71 5 v'
 have r3 := Kd.R_set hr hb bool_ne71 5 v'
 exact ⟨hb, h.1, blk_put hb 5 v' rfl, ⟨r1, r2, r3⟩, h.2.2.2.1, (fun k hk he => rb_neq (W1 := W1) h.2.2.1.1 hat (fun k hk he => h.2.2.2.2.1 k he hk) k he hk), (fun k hk he => rb_neq (W1 := W1) h.2.2.1.2.1 hat (fun k hk he => h.2.2.2.2.2 k he hk) k he hk)⟩
theorem ask_reps (W : World) (b : Bool) (okp : Nat → Prop) (base : Nat) : Kd.M Kd.bool W base okp b [.bool b] := rfl
theorem QI.qs {W : World} {base g : Nat} {A0 : Option Addr} {n0 c0 : Nat} {kern : Bool} {v1 v2 v3 : Value} {l1 l2 l3 : List Bool} (h : QI W base g A0 n0 c0 (-1) kern v1 v2 v3 l1 l2 l3) : QS W g A0 n0 c0 kern l2 l3 := by
 obtain ⟨_, hb, ⟨_, h2, h3⟩, _⟩ := h
 obtain ⟨A2, c2, e2, _, r2⟩ := Kd.R_reads h2
 obtain ⟨A3, c3, e3, _, r3⟩ := Kd.R_reads h3
 subst e2 e3
 exact ⟨v1, A2, c2, A3, c3, hb, r2, r3⟩
mutual
def reclaimplan_ask.j0 : Nat → List (S35) → List (S53) → Int → List (Bool × Bool) → Bool → Option (List (Bool × Bool) × Int)
 | 0, _, _, _, _, _ => none
 | k + 1, x0, x1, x2, x8, x29 => if x29 = true then (some (([] : List (Bool × Bool)), 2)) else (if 0 ≤ (x1.length : Int) then (if ((x1.length : Int) : Int).toNat ≤ 35184372088832 then (reclaimplan_ask.l0 k x1 x2 x8 (List.replicate ((x1.length : Int) : Int).toNat 0) x0 (x0.length : Int) 0) else (none)) else (none))
def reclaimplan_ask.l0 : Nat → List (S53) → Int → List (Bool × Bool) → List Int → List (S35) → Int → Int → Option (List (Bool × Bool) × Int)
 | 0, _, _, _, _, _, _, _ => none
 | k + 1, x1, x2, x8, x11, x33, x34, x35 => if x35 < x34 then (if 0 ≤ x35 then (if x35 < (x33.length : Int) then (if (rd_T35 x33 x35).f6 = true then (if ((rd_T35 x33 x35).f1) ≥ 0 then (if 0 ≤ ((rd_T35 x33 x35).f1) then (if ((rd_T35 x33 x35).f1) < (x11.length : Int) then (reclaimplan_ask.l0 k x1 x2 x8 (x11.set (((rd_T35 x33 x35).f1) : Int).toNat (wrap64 ((rd x11 ((rd_T35 x33 x35).f1)) + 1))) x33 x34 (wrap64 (x35 + 1))) else (none)) else (none)) else (reclaimplan_ask.l0 k x1 x2 x8 x11 x33 x34 (wrap64 (x35 + 1)))) else (reclaimplan_ask.l0 k x1 x2 x8 x11 x33 x34 (wrap64 (x35 + 1)))) else (none)) else (none)) else (reclaimplan_ask.l1 k x1 x2 x8 x11 (x1.length : Int) 0)
def reclaimplan_ask.l1 : Nat → List (S53) → Int → List (Bool × Bool) → List Int → Int → Int → Option (List (Bool × Bool) × Int)
 | 0, _, _, _, _, _, _ => none
 | k + 1, x1, x2, x8, x11, x60, x61 => if x61 < x60 then ((accounts_Inside.f k x1 x61 x2).bind fun t203 => ((protection_Guarded.f k x1 x11 x61 x2 false).bind fun t204 => ((protection_Guarded.f k x1 x11 x61 x2 true).bind fun t205 => (if x8.length < 140737488355328 then (reclaimplan_ask.l1 k x1 x2 (x8 ++ [(t204, t205)]) x11 x60 (wrap64 (x61 + 1))) else (none))))) else (some (x8, 0))
end
def reclaimplan_ask.f (k : Nat) (l0 : List (S35)) (l1 : List (S53)) (a2 : Int) (a3 : Bool) : Option (List (Bool × Bool) × Int) := (reclaimplan_Check.f k l0 l1).bind fun t197 => (if t197 = 0 then (if a2 < (-1) then (reclaimplan_ask.j0 k l0 l1 a2 ([] : List (Bool × Bool)) true) else (reclaimplan_ask.j0 k l0 l1 a2 ([] : List (Bool × Bool)) (decide (a2 ≥ (l1.length : Int))))) else (some (([] : List (Bool × Bool)), t197)))
theorem reclaimplan_ask.mono_l : ∀ k, (∀ y0 y1 y2 y3 y4, LeO (reclaimplan_ask.j0 k y0 y1 y2 y3 y4) (reclaimplan_ask.j0 (k + 1) y0 y1 y2 y3 y4)) ∧ (∀ y0 y1 y2 y3 y4 y5 y6, LeO (reclaimplan_ask.l0 k y0 y1 y2 y3 y4 y5 y6) (reclaimplan_ask.l0 (k + 1) y0 y1 y2 y3 y4 y5 y6)) ∧ (∀ y0 y1 y2 y3 y4 y5, LeO (reclaimplan_ask.l1 k y0 y1 y2 y3 y4 y5) (reclaimplan_ask.l1 (k + 1) y0 y1 y2 y3 y4 y5))
 | 0 => ⟨fun _ _ _ _ _ r h => by simp [reclaimplan_ask.j0] at h, fun _ _ _ _ _ _ _ r h => by simp [reclaimplan_ask.l0] at h, fun _ _ _ _ _ _ r h => by simp [reclaimplan_ask.l1] at h⟩
 | k + 1 => by
  obtain ⟨ih0, ih1, ih2⟩ := reclaimplan_ask.mono_l k
  refine ⟨?_, ?_, ?_⟩
  ·intro y0 y1 y2 y3 y4
   unfold reclaimplan_ask.j0
   repeat' first
   | (with_reducible exact ih0 _ _ _ _ _)
   | (with_reducible exact ih1 _ _ _ _ _ _ _)
   | (with_reducible exact ih2 _ _ _ _ _ _)
   | (with_reducible exact protection_Guarded.mono _ _ _ _ _ _)
   | (with_reducible exact reclaimplan_Check.mono _ _ _)
   | (with_reducible exact LeO.refl _)
   | (with_reducible exact LeO.none _)
   | (with_reducible refine LeO.ite ?_ ?_)
   | (with_reducible refine LeO.bind ?_ (fun _ => ?_))
   | exact ih0 _ _ _ _ _
   | exact ih1 _ _ _ _ _ _ _
   | exact ih2 _ _ _ _ _ _
   | exact protection_Guarded.mono _ _ _ _ _ _
   | exact accounts_Inside.mono _ _ _ _
   | exact reclaimplan_Check.mono _ _ _
   | exact LeO.none _
   | refine LeO.ite ?_ ?_
   | refine LeO.bind ?_ (fun _ => ?_)
  ·intro y0 y1 y2 y3 y4 y5 y6
   unfold reclaimplan_ask.l0
   repeat' first
   | (with_reducible exact ih0 _ _ _ _ _)
   | (with_reducible exact ih1 _ _ _ _ _ _ _)
   | (with_reducible exact ih2 _ _ _ _ _ _)
   | (with_reducible exact protection_Guarded.mono _ _ _ _ _ _)
   | (with_reducible exact reclaimplan_Check.mono _ _ _)
   | (with_reducible exact LeO.refl _)
   | (with_reducible exact LeO.none _)
   | (with_reducible refine LeO.ite ?_ ?_)
   | (with_reducible refine LeO.bind ?_ (fun _ => ?_))
   | exact ih0 _ _ _ _ _
   | exact ih1 _ _ _ _ _ _ _
   | exact ih2 _ _ _ _ _ _
   | exact protection_Guarded.mono _ _ _ _ _ _
   | exact accounts_Inside.mono _ _ _ _
   | exact reclaimplan_Check.mono _ _ _
   | exact LeO.none _
   | refine LeO.ite ?_ ?_
   | refine LeO.bind ?_ (fun _ => ?_)
  ·intro y0 y1 y2 y3 y4 y5
   unfold reclaimplan_ask.l1
   repeat' first
   | (with_reducible exact ih0 _ _ _ _ _)
   | (with_reducible exact ih1 _ _ _ _ _ _ _)
   | (with_reducible exact ih2 _ _ _ _ _ _)
   | (with_reducible exact protection_Guarded.mono _ _ _ _ _ _)
   | (with_reducible exact reclaimplan_Check.mono _ _ _)
   | (with_reducible exact LeO.refl _)
   | (with_reducible exact LeO.none _)
   | (with_reducible refine LeO.ite ?_ ?_)
   | (with_reducible refine LeO.bind ?_ (fun _ => ?_))
   | exact ih0 _ _ _ _ _
   | exact ih1 _ _ _ _ _ _ _
   | exact ih2 _ _ _ _ _ _
   | exact protection_Guarded.mono _ _ _ _ _ _
   | exact accounts_Inside.mono _ _ _ _
   | exact reclaimplan_Check.mono _ _ _
   | exact LeO.none _
   | refine LeO.ite ?_ ?_
   | refine LeO.bind ?_ (fun _ => ?_)
theorem reclaimplan_ask.mono : ∀ a0 a1 a2 a3 k, LeO (reclaimplan_ask.f k a0 a1 a2 a3) (reclaimplan_ask.f (k + 1) a0 a1 a2 a3) := by
 intro a0 a1 a2 a3 k
 obtain ⟨ih0, ih1, ih2⟩ := reclaimplan_ask.mono_l k
 unfold reclaimplan_ask.f
 repeat' first
   | (with_reducible exact ih0 _ _ _ _ _)
   | (with_reducible exact ih1 _ _ _ _ _ _ _)
   | (with_reducible exact ih2 _ _ _ _ _ _)
   | (with_reducible exact protection_Guarded.mono _ _ _ _ _ _)
   | (with_reducible exact reclaimplan_Check.mono _ _ _)
   | (with_reducible exact LeO.refl _)
   | (with_reducible exact LeO.none _)
   | (with_reducible refine LeO.ite ?_ ?_)
   | (with_reducible refine LeO.bind ?_ (fun _ => ?_))
   | exact ih0 _ _ _ _ _
   | exact ih1 _ _ _ _ _ _ _
   | exact ih2 _ _ _ _ _ _
   | exact protection_Guarded.mono _ _ _ _ _ _
   | exact accounts_Inside.mono _ _ _ _
   | exact reclaimplan_Check.mono _ _ _
   | exact LeO.none _
   | refine LeO.ite ?_ ?_
   | refine LeO.bind ?_ (fun _ => ?_)
set_option maxHeartbeats 8000000 in
set_option maxRecDepth 100000 in
theorem reclaimplan_ask.calls (k : Nat) (A0 : Option Addr) (c0 : Nat) (l0 : List (S35)) (A1 : Option Addr) (c1 : Nat) (l1 : List (S53)) (a2 : Int) (a3 : Bool) (r1 : List (Bool × Bool)) (r2 : Int) (ha2 : a2 = -1) (w : World) (hr0 : Kd.C k35 w A0 l0.length l0) (hc0 : l0.length ≤ c0) (hr1 : Kd.C k53 w A1 l1.length l1) (hc1 : l1.length ≤ c1) (h : reclaimplan_ask.f k l0 l1 a2 a3 = some (r1, r2)) :
  Calls Try.prog 27 #[.slice A0 l0.length c0, .slice A1 l1.length c1, .int .i64 a2, .bool a3] w fun e w' => ∃ v0_ : Value, e = .returned (.tuple #[v0_, .int .i64 r2]) ∧ (r2 = 0 → ∃ g, v0_ = .pointer (some ⟨g, 0, none⟩) ∧ QS w' g A0 l0.length c0 a3 (r1.map (·.1)) (r1.map (·.2))) ∧ Below w.heap.size w w' := by
 have HA2 := Aside0.mk ha2
 clear ha2
 have hu35 := Try.underlying35
 have HR0 := Aside0.mk hr0
 have HC0 := Aside0.mk hc0
 clear hr0 hc0
 have HR1 := Aside0.mk hr1
 have HC1 := Aside0.mk hc1
 clear hr1 hc1
 have HB := Aside0.mk (Below.refl w.heap.size w)
 have H : ((reclaimplan_Check.f k l0 l1).bind fun t197 => (if t197 = 0 then (if a2 < (-1) then (reclaimplan_ask.j0 k l0 l1 a2 ([] : List (Bool × Bool)) true) else (reclaimplan_ask.j0 k l0 l1 a2 ([] : List (Bool × Bool)) (decide (a2 ≥ (l1.length : Int))))) else (some (([] : List (Bool × Bool)), t197)))) = some (r1, r2) := h
 clear h
 replace H := Option.bind_eq_some_iff.mp H
 obtain ⟨t197, A50, H⟩ := H
 replace H : (if t197 = 0 then (if a2 < (-1) then (reclaimplan_ask.j0 k l0 l1 a2 ([] : List (Bool × Bool)) true) else (reclaimplan_ask.j0 k l0 l1 a2 ([] : List (Bool × Bool)) (decide (a2 ≥ (l1.length : Int))))) else (some (([] : List (Bool × Bool)), t197))) = some (r1, r2) := H
 have A5 := Aside0.mk A50
 clear A50
 by_cases c6 : t197 = 0
 ·rw [if_pos c6] at H
  have c6b0 : (t197 == 0) = true := beq_iff_eq.mpr c6
  have c6b1 : (t197 != 0) = false := bne_eq_false_iff_eq.mpr c6
  clear c6
  have HC7 := Aside0.mk H
  clear H
  go_enter Try.func27, Try.ntmps27
  go_upto_region 4 with (first | ((with_reducible refine gate_callee (f := 7) rfl ?_); refine goesL_ (some 18) rfl rfl Try.func7 (by kernel_rfl) rfl #[.slice A0 l0.length c0, .slice A1 l1.length c1] rfl (by (try simp only [List.map_toArray, List.map_cons, List.map_nil]); first | done | rfl | (simp only [List.length_drop, List.length_take]; rfl)) ?_; (with_reducible refine (reclaimplan_Check.calls k _ _ l0 _ _ l1 t197 _ ?side1 ?side2 ?side3 ?side4 A5.out).mono ?_); (case side1 => repeat (first | exact HR0.out | (with_reducible refine Kd.C_alloc ?_ _) | (with_reducible refine Kd.C_drewN ?_ _) | (with_reducible refine Kd.C_drew ?_))); (case side2 => exact HC0.out); (case side3 => repeat (first | exact HR1.out | (with_reducible refine Kd.C_alloc ?_ _) | (with_reducible refine Kd.C_drewN ?_ _) | (with_reducible refine Kd.C_drew ?_))); (case side4 => exact HC1.out); rintro e w8 ⟨rfl, hb⟩; refine ⟨_, rfl, ?_⟩; have n0_ := Aside0.mk (below_step (by repeat (first | (with_reducible first | exact HB.out | apply below_alloc | apply pw_below_drewN | apply below_drew1) | exact HB.out)) hb); clear HB; have HB := n0_; clear n0_; (try clear hb); (try clear hb2); (try clear hk); (try clear hi)))
  (try simp only [Act.put, List.setIfInBounds_toArray, List.set_cons_zero, List.set_cons_succ])
  go_cut [29] (fun v29 wc => ∃ (kq : Nat) (x29_6 : Bool), v29 = .bool x29_6 ∧ Aside0 (reclaimplan_ask.j0 kq l0 l1 a2 ([] : List (Bool × Bool)) x29_6 = some (r1, r2)) ∧ Aside0 (kq ≤ k) ∧ Aside0 (Kd.R Kd.bool 4 wc w.heap.size (fun _ => True) (.slice none 0 0) ([] : List Bool)) ∧ Aside0 (Below w.heap.size w wc))
  case first =>
   have H := HC7.out
   clear HC7
   by_cases c9 : a2 < (-1)
   ·rw [if_pos c9] at H
    have c9b0 : decide (a2 < (-1)) = true := decide_eq_true c9
    clear c9
    (first | rw [c9b0] | (simp only [i64_w, i32_w]; rw [c9b0]) | skip)
    have H' := Aside0.mk H
    clear H
    go_wp2
    go_meet
    case rel => exact ⟨_, (true), (by first | rfl | (simp; done) | (simp [*]; done)), H', ⟨by first | omega | exact Nat.le_refl _⟩, ⟨by first | exact Kd.R_nil _ _ _ _ _ | exact Kd.N_nil _ _ _ _ _ | exact Kd.V_nil _ _ _ _ _ | exact Kd.Q_nil _ _ _ _ _ | exact Kd.S_nil _ _ _ _ _⟩, ⟨by repeat (first | (with_reducible first | exact HB.out | apply below_alloc | apply pw_below_drewN | apply below_drew1) | exact HB.out)⟩⟩
   ·rw [if_neg c9] at H
    have c9b0 : decide (a2 < (-1)) = false := decide_eq_false c9
    clear c9
    (first | rw [c9b0] | (simp only [i64_w, i32_w]; rw [c9b0]) | skip)
    have H' := Aside0.mk H
    clear H
    go_wp2
    go_meet
    case rel => exact ⟨_, (decide (a2 ≥ (l1.length : Int))), (by first | rfl | (simp; done) | (simp [*]; done)), H', ⟨by first | omega | exact Nat.le_refl _⟩, ⟨by first | exact Kd.R_nil _ _ _ _ _ | exact Kd.N_nil _ _ _ _ _ | exact Kd.V_nil _ _ _ _ _ | exact Kd.Q_nil _ _ _ _ _ | exact Kd.S_nil _ _ _ _ _⟩, ⟨by repeat (first | (with_reducible first | exact HB.out | apply below_alloc | apply pw_below_drewN | apply below_drew1) | exact HB.out)⟩⟩
  case rest =>
   clear HC7
   try clear c1
   try clear c2
   try clear p2
   try clear c6
   try clear c6b0
   try clear c6b1
   try clear c7
   try clear c9
   try clear c9b0
   obtain ⟨kq, x29_6, rfl, HA, HJ6, HO_8, HB⟩ := hcut
   cases kq with
   | zero => exact absurd HA.out (by simp [reclaimplan_ask.j0])
   | succ kj6 =>
    have H := HA.out
    clear HA
    simp only [reclaimplan_ask.j0] at H
    by_cases c10 : x29_6 = true
    ·subst c10
     have H1 : (some (([] : List (Bool × Bool)), 2)) = some (r1, r2) := by rw [if_pos rfl] at H; exact H
     clear H
     have H := H1
     clear H1
     simp only [Option.some.injEq, Prod.mk.injEq] at H
     obtain ⟨rfl, rfl⟩ := H
     go_wp2
     go_ret2
     exact ⟨_, by first | rfl | (simp [*]; done), fun h0_ => absurd h0_ (by first | assumption | decide), by repeat (first | (with_reducible first | exact HB.out | apply below_alloc | apply pw_below_drewN | apply below_drew1) | exact HB.out)⟩
    ·replace c10 := Bool.eq_false_iff.mpr c10
     subst c10
     have H1 : (if 0 ≤ (l1.length : Int) then (if ((l1.length : Int) : Int).toNat ≤ 35184372088832 then (reclaimplan_ask.l0 kj6 l1 a2 ([] : List (Bool × Bool)) (List.replicate ((l1.length : Int) : Int).toNat 0) l0 (l0.length : Int) 0) else (none)) else (none)) = some (r1, r2) := by rw [if_neg (show ¬ (false = true) by decide)] at H; exact H
     clear H
     have H := H1
     clear H1
     by_cases c11 : 0 ≤ (l1.length : Int)
     ·rw [if_pos c11] at H
      have c11b0 := eq_true c11
      have c11b1 : decide (0 ≤ (l1.length : Int)) = true := decide_eq_true c11
      clear c11
      by_cases c12 : ((l1.length : Int) : Int).toNat ≤ 35184372088832
      ·rw [if_pos c12] at H
       have c12b0 := eq_true c12
       have c12b1 : decide (((l1.length : Int) : Int).toNat ≤ 35184372088832) = true := decide_eq_true c12
       clear c12
       obtain ⟨y198, hy198⟩ : ∃ y_ : List Int, y_ = (List.replicate ((l1.length : Int) : Int).toNat 0) := ⟨_, rfl⟩
       replace H : (reclaimplan_ask.l0 kj6 l1 a2 ([] : List (Bool × Bool)) y198 l0 (l0.length : Int) 0) = some (r1, r2) := by first | (rw [hy198]; with_reducible exact H) | (have H2_ := (Option.bind_some _ _).symm.trans H; rw [hy198]; with_reducible exact H2_) | (have H2_ := (Option.bind_some _ _).symm.trans H; with_reducible exact H2_) | with_reducible exact H | (rw [hy198]; exact H) | exact H
       have Ny198 := Aside0.mk hy198
       clear hy198
       have H' := Aside0.mk H
       clear H
       go_wp2_with (first | ((with_reducible refine gate_dst (N := 32) rfl ?_); (try (refine gate_guard (by rfl) ?_; dsimp only)); refine Kd.R_make (Kd.int .i64) _ 3 rfl (N := 32) rfl 30 _ _ rfl (l1.length : Int) rfl rfl Try.underlying30 (.int .i64 0) 8 info3 rfl (by decide) (by omega) 0 (ok := fun _ => True) (okp := fun _ => True) rfl (fun _ hk => hk) trivial (of_decide_eq_true (by first | (with_reducible assumption) | assumption)) (Nat.le_trans (Nat.mul_le_mul_right _ (of_decide_eq_true (by first | (with_reducible assumption) | assumption) : (l1.length : Int).toNat ≤ 35184372088832)) (by omega)) (Below.refl _ _) (Nat.le_refl _) ?_; intro v199 w13 ho14 hb hg_ hnew_; clear hg_ hnew_; (first | rw [← Ny198.out] at ho14 | (simp only [Int.reduceToNat] at ho14; rw [← Ny198.out] at ho14)); have n0_ := Aside0.mk (Kd.R_below (by (with_reducible repeat (first | apply Kd.R_alloc | apply Kd.R_drewN | apply Kd.R_drew)); exact HO_8.out) hb); have n1_ := Aside0.mk (Kd.R_lower ho14 (below_size (by repeat (first | (with_reducible first | exact HB.out | apply below_alloc | apply pw_below_drewN | apply below_drew1) | exact HB.out)))); have n2_ := Aside0.mk (below_step (by repeat (first | (with_reducible first | exact HB.out | apply below_alloc | apply pw_below_drewN | apply below_drew1) | exact HB.out)) hb); clear HO_8; clear HB; have HO_8 := n0_; have HO200 := n1_; have HB := n2_; clear n0_ n1_ n2_; clear hb ho14))
       go_loopg [35] kj6 (fun kq v35 w' => ∃ (x11_2 : List Int) (x35_2 : Int), v35 = .int .i64 x35_2 ∧ Aside0 (reclaimplan_ask.l0 kq l1 a2 ([] : List (Bool × Bool)) x11_2 l0 (l0.length : Int) x35_2 = some (r1, r2)) ∧ Aside0 (kq ≤ kj6) ∧ Aside0 (Kd.R Kd.bool 4 w' w.heap.size (fun _ => True) (.slice none 0 0) ([] : List Bool)) ∧ Aside0 (Kd.R (Kd.int .i64) 3 w' w.heap.size (fun _ => True) v199 x11_2) ∧ Aside0 (Below w.heap.size w w'))
       case atStart => exact ⟨(y198), (0), (by first | rfl | (simp; done) | (simp [*]; done)), H', ⟨Nat.le_refl _⟩, ⟨by (with_reducible repeat (first | apply Kd.R_alloc | apply Kd.R_drewN | apply Kd.R_drew)); exact HO_8.out⟩, ⟨by (with_reducible repeat (first | apply Kd.R_alloc | apply Kd.R_drewN | apply Kd.R_drew)); exact HO200.out⟩, ⟨by repeat (first | (with_reducible first | exact HB.out | apply below_alloc | apply pw_below_drewN | apply below_drew1) | exact HB.out)⟩⟩
       case round =>
        clear H'
        try clear c1
        try clear c2
        try clear p2
        try clear c6
        try clear c6b0
        try clear c6b1
        try clear c7
        try clear c9
        try clear c9b0
        try clear c10
        try clear c11
        try clear c11b0
        try clear c11b1
        try clear c12
        try clear c12b0
        try clear c12b1
        try clear p2
        obtain ⟨x11_2, x35_2, rfl, HA, HK2, HO_8, HO_11, HB⟩ := hrel
        cases gk with
        | zero => exact absurd HA.out (by simp [reclaimplan_ask.l0])
        | succ k2 =>
         have H := HA.out
         clear HA
         simp only [reclaimplan_ask.l0] at H
         by_cases c15 : x35_2 < (l0.length : Int)
         ·rw [if_pos c15] at H
          have c15b0 : decide (x35_2 < (l0.length : Int)) = true := decide_eq_true c15
          clear c15
          by_cases c16 : 0 ≤ x35_2
          ·rw [if_pos c16] at H
           have c16b0 : decide (0 ≤ x35_2) = true := decide_eq_true c16
           clear c16
           by_cases c17 : x35_2 < (l0.length : Int)
           ·rw [if_pos c17] at H
            have c17b0 : decide (x35_2 < (l0.length : Int)) = true := decide_eq_true c17
            clear c17
            obtain ⟨bq18, hbq18⟩ : ∃ b_ : Bool, b_ = ((rd_T35 l0 x35_2).f6) := ⟨_, rfl⟩
            replace H : (if bq18 = true then (if ((rd_T35 l0 x35_2).f1) ≥ 0 then (if 0 ≤ ((rd_T35 l0 x35_2).f1) then (if ((rd_T35 l0 x35_2).f1) < (x11_2.length : Int) then (reclaimplan_ask.l0 k2 l1 a2 ([] : List (Bool × Bool)) (x11_2.set (((rd_T35 l0 x35_2).f1) : Int).toNat (wrap64 ((rd x11_2 ((rd_T35 l0 x35_2).f1)) + 1))) l0 (l0.length : Int) (wrap64 (x35_2 + 1))) else (none)) else (none)) else (reclaimplan_ask.l0 k2 l1 a2 ([] : List (Bool × Bool)) x11_2 l0 (l0.length : Int) (wrap64 (x35_2 + 1)))) else (reclaimplan_ask.l0 k2 l1 a2 ([] : List (Bool × Bool)) x11_2 l0 (l0.length : Int) (wrap64 (x35_2 + 1)))) = some (r1, r2) := by rw [← hbq18] at H; exact H
            have Nbq18 := Aside0.mk hbq18
            clear hbq18
            by_cases c19 : bq18 = true
            ·subst c19
             have H1 : (if ((rd_T35 l0 x35_2).f1) ≥ 0 then (if 0 ≤ ((rd_T35 l0 x35_2).f1) then (if ((rd_T35 l0 x35_2).f1) < (x11_2.length : Int) then (reclaimplan_ask.l0 k2 l1 a2 ([] : List (Bool × Bool)) (x11_2.set (((rd_T35 l0 x35_2).f1) : Int).toNat (wrap64 ((rd x11_2 ((rd_T35 l0 x35_2).f1)) + 1))) l0 (l0.length : Int) (wrap64 (x35_2 + 1))) else (none)) else (none)) else (reclaimplan_ask.l0 k2 l1 a2 ([] : List (Bool × Bool)) x11_2 l0 (l0.length : Int) (wrap64 (x35_2 + 1)))) = some (r1, r2) := by rw [if_pos rfl] at H; exact H
             clear H
             have H := H1
             clear H1
             by_cases c20 : ((rd_T35 l0 x35_2).f1) ≥ 0
             ·rw [if_pos c20] at H
              have c20b0 : decide (0 ≤ ((rd_T35 l0 x35_2).f1)) = true := decide_eq_true c20
              clear c20
              by_cases c21 : 0 ≤ ((rd_T35 l0 x35_2).f1)
              ·rw [if_pos c21] at H
               have c21b0 : decide (0 ≤ ((rd_T35 l0 x35_2).f1)) = true := decide_eq_true c21
               clear c21
               by_cases c22 : ((rd_T35 l0 x35_2).f1) < (x11_2.length : Int)
               ·rw [if_pos c22] at H
                have c22b0 : decide (((rd_T35 l0 x35_2).f1) < (x11_2.length : Int)) = true := decide_eq_true c22
                clear c22
                obtain ⟨y204, hy204⟩ : ∃ y_ : List Int, y_ = (x11_2.set (((rd_T35 l0 x35_2).f1) : Int).toNat (wrap64 ((rd x11_2 ((rd_T35 l0 x35_2).f1)) + 1))) := ⟨_, rfl⟩
                replace H : (reclaimplan_ask.l0 k2 l1 a2 ([] : List (Bool × Bool)) y204 l0 (l0.length : Int) (wrap64 (x35_2 + 1))) = some (r1, r2) := by first | (rw [hy204]; with_reducible exact H) | (have H2_ := (Option.bind_some _ _).symm.trans H; rw [hy204]; with_reducible exact H2_) | (have H2_ := (Option.bind_some _ _).symm.trans H; with_reducible exact H2_) | with_reducible exact H | (rw [hy204]; exact H) | exact H
                have Ny204 := Aside0.mk hy204
                clear hy204
                have H' := Aside0.mk H
                clear H
                have p201 : 0 ≤ (x35_2 : Int) := of_decide_eq_true (by first | (with_reducible assumption) | assumption)
                have q201 : x35_2 < (l0.length : Int) := of_decide_eq_true (by first | (with_reducible assumption) | assumption)
                obtain ⟨ad201, e201, hx201_0, hx201_1, hx201_2, hx201_3, hx201_4, hx201_5, hx201_6⟩ := at_T35 HR0.out x35_2 p201 q201
                (try rw [← Nbq18.out] at hx201_5)
                (try rw [← Nbq18.out] at hx201_6)
                cases e201
                replace hx201_0 := (HB.out.cell (World.block_lt_of_cell? w _ hx201_0)).trans hx201_0
                replace hx201_1 := (HB.out.cell (World.block_lt_of_cell? w _ hx201_1)).trans hx201_1
                replace hx201_2 := (HB.out.cell (World.block_lt_of_cell? w _ hx201_2)).trans hx201_2
                replace hx201_3 := (HB.out.cell (World.block_lt_of_cell? w _ hx201_3)).trans hx201_3
                replace hx201_4 := (HB.out.cell (World.block_lt_of_cell? w _ hx201_4)).trans hx201_4
                replace hx201_5 := (HB.out.cell (World.block_lt_of_cell? w _ hx201_5)).trans hx201_5
                replace hx201_6 := (HB.out.cell (World.block_lt_of_cell? w _ hx201_6)).trans hx201_6
                replace p201 := eq_true p201
                replace q201 := eq_true q201
                (try rw [← Nbq18.out])
                (try rw [← Nbq18.out] at BK202)
                go_wp2_with (first | ((with_reducible refine gate_dst (N := 13) rfl ?_); (try (refine gate_guard (by rfl) ?_; dsimp only)); refine box_event ?hg (N := 13) ?hd (cs := #[.int .i64 0, .int .i64 0, .int .i64 0, .int .i64 0, .int .i64 0, .bool false, .bool false]) (t := 35) ?hr ?_; (case hd => rfl); (case hg => rfl); (case hr => first | (go_simp; done) | (go_simp; rfl)); intro gb202 hg w24 hbox hb; have n0_ := Aside0.mk (Kd.R_below (by (with_reducible repeat (first | apply Kd.R_alloc | apply Kd.R_drewN | apply Kd.R_drew)); exact HO_8.out) hb); have n1_ := Aside0.mk (Kd.R_below (by (with_reducible repeat (first | apply Kd.R_alloc | apply Kd.R_drewN | apply Kd.R_drew)); exact HO_11.out) hb); have n2_ := Aside0.mk (below_step (by repeat (first | (with_reducible first | exact HB.out | apply below_alloc | apply pw_below_drewN | apply below_drew1) | exact HB.out)) hb); have n3_ := Aside0.mk (hbox); have n4_ := Aside0.mk ((by rw [hg]; exact (below_size (by repeat (first | (with_reducible first | exact HB.out | apply below_alloc | apply pw_below_drewN | apply below_drew1) | exact HB.out))) : w.heap.size ≤ gb202)); have n5_ := Aside0.mk ((by rw [hg]; exact (below_size (by repeat (first | (with_reducible first | exact HB.out | apply below_alloc | apply pw_below_drewN | apply below_drew1) | exact HB.out))) : w.heap.size ≤ gb202)); clear HO_8; clear HO_11; clear HB; have HO_8 := n0_; have HO_11 := n1_; have HB := n2_; have BK202 := n3_; have GW202 := n4_; have GE202 := n5_; clear n0_ n1_ n2_ n3_ n4_ n5_; clear hb hbox hg; have hcz25_0 : w24.cell? ⟨gb202, 0, none⟩ = some (.int .i64 0) := (blk_cell BK202.out 0).trans rfl; have hcz25_1 : w24.cell? ⟨gb202, 1, none⟩ = some (.int .i64 0) := (blk_cell BK202.out 1).trans rfl; have hcz25_2 : w24.cell? ⟨gb202, 2, none⟩ = some (.int .i64 0) := (blk_cell BK202.out 2).trans rfl; have hcz25_3 : w24.cell? ⟨gb202, 3, none⟩ = some (.int .i64 0) := (blk_cell BK202.out 3).trans rfl; have hcz25_4 : w24.cell? ⟨gb202, 4, none⟩ = some (.int .i64 0) := (blk_cell BK202.out 4).trans rfl; have hcz25_5 : w24.cell? ⟨gb202, 5, none⟩ = some (.bool false) := (blk_cell BK202.out 5).trans rfl; have hcz25_6 : w24.cell? ⟨gb202, 6, none⟩ = some (.bool false) := (blk_cell BK202.out 6).trans rfl; have hfz25_0 := blk_frozen BK202.out 0; have hfz25_1 := blk_frozen BK202.out 1; have hfz25_2 := blk_frozen BK202.out 2; have hfz25_3 := blk_frozen BK202.out 3; have hfz25_4 := blk_frozen BK202.out 4; have hfz25_5 := blk_frozen BK202.out 5; have hfz25_6 := blk_frozen BK202.out 6) | ((with_reducible refine gate_store (t := 35) (p := 13) rfl ?_); refine store_event (t := 35) (p := 13) (v := ?vo_w26) (w1 := (((((((w24.setCell ⟨gb202, 0, none⟩ (.int .i64 ((rd_T35 l0 x35_2).f0))).setCell ⟨gb202, 1, none⟩ (.int .i64 ((rd_T35 l0 x35_2).f1))).setCell ⟨gb202, 2, none⟩ (.int .i64 ((rd_T35 l0 x35_2).f2))).setCell ⟨gb202, 3, none⟩ (.int .i64 ((rd_T35 l0 x35_2).f3))).setCell ⟨gb202, 4, none⟩ (.int .i64 ((rd_T35 l0 x35_2).f4))).setCell ⟨gb202, 5, none⟩ (.bool ((rd_T35 l0 x35_2).f5))).setCell ⟨gb202, 6, none⟩ (.bool true))) ?hg ?ho ?hn ?hr ?_; (case ho => rfl); (case hg => rfl); (case hn => rfl); (case hr => first | (go_simp; done) | (go_simp; rfl)); intro w26 hw; have n0_ : Aside0 (Kd.R Kd.bool 4 w26 w.heap.size (fun _ => True) (.slice none 0 0) ([] : List Bool)) := ⟨(by rw [hw]; exact (by (with_reducible repeat (first | apply Kd.R_alloc | apply Kd.R_drewN | apply Kd.R_drew)); exact Kd.R_mono (Kd.R_far (p := ⟨gb202, 6, none⟩) (Kd.R_far (p := ⟨gb202, 5, none⟩) (Kd.R_far (p := ⟨gb202, 4, none⟩) (Kd.R_far (p := ⟨gb202, 3, none⟩) (Kd.R_far (p := ⟨gb202, 2, none⟩) (Kd.R_far (p := ⟨gb202, 1, none⟩) (Kd.R_far (p := ⟨gb202, 0, none⟩) (Kd.R_types HO_8.out BK202.out (by decide)) (fun _ hk => hk.2) (.int .i64 ((rd_T35 l0 x35_2).f0))) (fun _ hk => hk.2) (.int .i64 ((rd_T35 l0 x35_2).f1))) (fun _ hk => hk.2) (.int .i64 ((rd_T35 l0 x35_2).f2))) (fun _ hk => hk.2) (.int .i64 ((rd_T35 l0 x35_2).f3))) (fun _ hk => hk.2) (.int .i64 ((rd_T35 l0 x35_2).f4))) (fun _ hk => hk.2) (.bool ((rd_T35 l0 x35_2).f5))) (fun _ hk => hk.2) (.bool true)) (fun _ hk => trivial)))⟩; have n1_ : Aside0 (Kd.R (Kd.int .i64) 3 w26 w.heap.size (fun _ => True) v199 x11_2) := ⟨(by rw [hw]; exact (by (with_reducible repeat (first | apply Kd.R_alloc | apply Kd.R_drewN | apply Kd.R_drew)); exact Kd.R_mono (Kd.R_far (p := ⟨gb202, 6, none⟩) (Kd.R_far (p := ⟨gb202, 5, none⟩) (Kd.R_far (p := ⟨gb202, 4, none⟩) (Kd.R_far (p := ⟨gb202, 3, none⟩) (Kd.R_far (p := ⟨gb202, 2, none⟩) (Kd.R_far (p := ⟨gb202, 1, none⟩) (Kd.R_far (p := ⟨gb202, 0, none⟩) (Kd.R_types HO_11.out BK202.out (by decide)) (fun _ hk => hk.2) (.int .i64 ((rd_T35 l0 x35_2).f0))) (fun _ hk => hk.2) (.int .i64 ((rd_T35 l0 x35_2).f1))) (fun _ hk => hk.2) (.int .i64 ((rd_T35 l0 x35_2).f2))) (fun _ hk => hk.2) (.int .i64 ((rd_T35 l0 x35_2).f3))) (fun _ hk => hk.2) (.int .i64 ((rd_T35 l0 x35_2).f4))) (fun _ hk => hk.2) (.bool ((rd_T35 l0 x35_2).f5))) (fun _ hk => hk.2) (.bool true)) (fun _ hk => trivial)))⟩; have n2_ : Aside0 (w26.heap[gb202]? = some (.cells #[.int .i64 ((rd_T35 l0 x35_2).f0), .int .i64 ((rd_T35 l0 x35_2).f1), .int .i64 ((rd_T35 l0 x35_2).f2), .int .i64 ((rd_T35 l0 x35_2).f3), .int .i64 ((rd_T35 l0 x35_2).f4), .bool ((rd_T35 l0 x35_2).f5), .bool true] 35 (0, 0))) := ⟨(by rw [hw]; exact (by (with_reducible repeat (first | refine blk_drewN ?_ _ | refine blk_drew ?_ | refine blk_alloc ?_ _)); refine blk_put (cs := #[.int .i64 ((rd_T35 l0 x35_2).f0), .int .i64 ((rd_T35 l0 x35_2).f1), .int .i64 ((rd_T35 l0 x35_2).f2), .int .i64 ((rd_T35 l0 x35_2).f3), .int .i64 ((rd_T35 l0 x35_2).f4), .bool ((rd_T35 l0 x35_2).f5), .bool false]) ?_ 6 _ rfl; (with_reducible repeat (first | refine blk_drewN ?_ _ | refine blk_drew ?_ | refine blk_alloc ?_ _)); refine blk_put (cs := #[.int .i64 ((rd_T35 l0 x35_2).f0), .int .i64 ((rd_T35 l0 x35_2).f1), .int .i64 ((rd_T35 l0 x35_2).f2), .int .i64 ((rd_T35 l0 x35_2).f3), .int .i64 ((rd_T35 l0 x35_2).f4), .bool false, .bool false]) ?_ 5 _ rfl; (with_reducible repeat (first | refine blk_drewN ?_ _ | refine blk_drew ?_ | refine blk_alloc ?_ _)); refine blk_put (cs := #[.int .i64 ((rd_T35 l0 x35_2).f0), .int .i64 ((rd_T35 l0 x35_2).f1), .int .i64 ((rd_T35 l0 x35_2).f2), .int .i64 ((rd_T35 l0 x35_2).f3), .int .i64 0, .bool false, .bool false]) ?_ 4 _ rfl; (with_reducible repeat (first | refine blk_drewN ?_ _ | refine blk_drew ?_ | refine blk_alloc ?_ _)); refine blk_put (cs := #[.int .i64 ((rd_T35 l0 x35_2).f0), .int .i64 ((rd_T35 l0 x35_2).f1), .int .i64 ((rd_T35 l0 x35_2).f2), .int .i64 0, .int .i64 0, .bool false, .bool false]) ?_ 3 _ rfl; (with_reducible repeat (first | refine blk_drewN ?_ _ | refine blk_drew ?_ | refine blk_alloc ?_ _)); refine blk_put (cs := #[.int .i64 ((rd_T35 l0 x35_2).f0), .int .i64 ((rd_T35 l0 x35_2).f1), .int .i64 0, .int .i64 0, .int .i64 0, .bool false, .bool false]) ?_ 2 _ rfl; (with_reducible repeat (first | refine blk_drewN ?_ _ | refine blk_drew ?_ | refine blk_alloc ?_ _)); refine blk_put (cs := #[.int .i64 ((rd_T35 l0 x35_2).f0), .int .i64 0, .int .i64 0, .int .i64 0, .int .i64 0, .bool false, .bool false]) ?_ 1 _ rfl; (with_reducible repeat (first | refine blk_drewN ?_ _ | refine blk_drew ?_ | refine blk_alloc ?_ _)); refine blk_put (cs := #[.int .i64 0, .int .i64 0, .int .i64 0, .int .i64 0, .int .i64 0, .bool false, .bool false]) ?_ 0 _ rfl; (with_reducible repeat (first | refine blk_drewN ?_ _ | refine blk_drew ?_ | refine blk_alloc ?_ _)); exact BK202.out))⟩; have n3_ : Aside0 (Below w.heap.size w w26) := ⟨(by rw [hw]; exact (by repeat (first | (with_reducible first | exact HB.out | apply below_alloc | apply pw_below_drewN | apply below_drew1 | refine below_set ?_ GE202.out) | exact HB.out)))⟩; clear hw; clear HO_8; clear HO_11; clear BK202; clear HB; have HO_8 := n0_; have HO_11 := n1_; have BK202 := n2_; have HB := n3_; clear n0_ n1_ n2_ n3_; have hcz27_0 : w26.cell? ⟨gb202, 0, none⟩ = some (.int .i64 ((rd_T35 l0 x35_2).f0)) := (blk_cell BK202.out 0).trans rfl; have hcz27_1 : w26.cell? ⟨gb202, 1, none⟩ = some (.int .i64 ((rd_T35 l0 x35_2).f1)) := (blk_cell BK202.out 1).trans rfl; have hcz27_2 : w26.cell? ⟨gb202, 2, none⟩ = some (.int .i64 ((rd_T35 l0 x35_2).f2)) := (blk_cell BK202.out 2).trans rfl; have hcz27_3 : w26.cell? ⟨gb202, 3, none⟩ = some (.int .i64 ((rd_T35 l0 x35_2).f3)) := (blk_cell BK202.out 3).trans rfl; have hcz27_4 : w26.cell? ⟨gb202, 4, none⟩ = some (.int .i64 ((rd_T35 l0 x35_2).f4)) := (blk_cell BK202.out 4).trans rfl; have hcz27_5 : w26.cell? ⟨gb202, 5, none⟩ = some (.bool ((rd_T35 l0 x35_2).f5)) := (blk_cell BK202.out 5).trans rfl; have hcz27_6 : w26.cell? ⟨gb202, 6, none⟩ = some (.bool true) := (blk_cell BK202.out 6).trans rfl; have hfz27_0 := blk_frozen BK202.out 0; have hfz27_1 := blk_frozen BK202.out 1; have hfz27_2 := blk_frozen BK202.out 2; have hfz27_3 := blk_frozen BK202.out 3; have hfz27_4 := blk_frozen BK202.out 4; have hfz27_5 := blk_frozen BK202.out 5; have hfz27_6 := blk_frozen BK202.out 6; obtain ⟨Ao28, co28, eo28⟩ := Kd.R_slice HO_11.out; subst eo28; have p203 : 0 ≤ (((rd_T35 l0 x35_2).f1) : Int) := of_decide_eq_true (by first | (with_reducible assumption) | assumption); have q203 : ((rd_T35 l0 x35_2).f1) < (x11_2.length : Int) := of_decide_eq_true (by first | (with_reducible assumption) | assumption); obtain ⟨ad203, e203, hx203_0⟩ := Kd.at_int (Kd.R_reads' HO_11.out).2.2 ((rd_T35 l0 x35_2).f1) p203 q203; cases e203; replace p203 := eq_true p203; replace q203 := eq_true q203; have p23 : 0 ≤ (((rd_T35 l0 x35_2).f1) : Int) := of_decide_eq_true (by first | (with_reducible assumption) | assumption); have q23 : (((rd_T35 l0 x35_2).f1) : Int) < ((x11_2.length : Int) : Int) := of_decide_eq_true (by first | (with_reducible assumption) | assumption); obtain ⟨go23, co23, eo23, gb23, gl23, cl23, HG23⟩ := Kd.R_form HO_11.out (by omega); (first | cases eo23 | (injection eo23 with ea_ en_ ec_; (first | subst ea_ | (injection ea_ with ea_; subst ea_)); subst ec_; clear en_)); have GB23 := Aside0.mk gb23; have GG23 := Aside0.mk HG23; clear gb23 gl23 HG23; (first | simp only [add_plain] at hx203_0 | skip); obtain ⟨hx23_0, hf23_0⟩ := Kd.R_celln 0 HO_11.out (((rd_T35 l0 x35_2).f1) : Int) p23 q23; replace p23 := eq_true p23; replace q23 := eq_true q23; obtain ⟨hy29_, hz29_⟩ := Kd.R_celln 0 HO_11.out (((rd_T35 l0 x35_2).f1) : Int) (of_decide_eq_true (by first | (with_reducible assumption) | assumption)) (of_decide_eq_true (by first | (with_reducible assumption) | assumption)); have HP29 := Kd.R_putg HO_11.out (((rd_T35 l0 x35_2).f1) : Int) (wrap64 ((rd x11_2 ((rd_T35 l0 x35_2).f1)) + 1))) | ((with_reducible refine gate_store (t := 3) (p := 52) rfl ?_); refine store_event (t := 3) (p := 52) (v := ?vo_w30) (w1 := (w26.setCell ⟨go23, (((rd_T35 l0 x35_2).f1) : Int).toNat, none⟩ (.int .i64 (wrap64 ((rd x11_2 ((rd_T35 l0 x35_2).f1)) + 1))))) ?hg ?ho ?hn ?hr ?_; (case ho => rfl); (case hg => rfl); (case hn => rfl); (case hr => first | (go_simp; done) | (go_simp; rfl)); intro w30 hw; have hg : w26.grownBy w30 (some go23) := (by rw [hw]; exact HP29.2); have hp_ : Kd.R (Kd.int .i64) 3 w30 w.heap.size (fun _ => True) (.slice (some ⟨go23, 0, none⟩) x11_2.length co28) y204 := (by rw [hw, Ny204.out]; exact HP29.1); clear HP29; have n0_ := Aside0.mk (Kd.R_over' (v := (.slice (some ⟨go23, 0, none⟩) x11_2.length co28)) (by (with_reducible repeat (first | apply Kd.R_alloc | apply Kd.R_drewN | apply Kd.R_drew)); exact HO_8.out) (Kd.R_typed HO_11.out) (by decide) hg); have n1_ := Aside0.mk (hp_); have n2_ := Aside0.mk (blk_grown (g := gb202) (o := .cells #[.int .i64 ((rd_T35 l0 x35_2).f0), .int .i64 ((rd_T35 l0 x35_2).f1), .int .i64 ((rd_T35 l0 x35_2).f2), .int .i64 ((rd_T35 l0 x35_2).f3), .int .i64 ((rd_T35 l0 x35_2).f4), .bool ((rd_T35 l0 x35_2).f5), .bool true] 35 (0, 0)) (by (with_reducible repeat (first | refine blk_drewN ?_ _ | refine blk_drew ?_ | refine blk_alloc ?_ _)); exact BK202.out) hg (Kd.R_ne HO_11.out BK202.out (by decide))); have n3_ := Aside0.mk ((by rw [hw]; exact below_set (HB.out) GB23.out : Below w.heap.size w w30)); clear HO_8; clear HO_11; clear BK202; clear HB; have HO_8 := n0_; have HO_11 := n1_; have BK202 := n2_; have HB := n3_; clear n0_ n1_ n2_ n3_; clear hg hw hp_))
                go_roundg k2
                case measure => have := HJ6.out; have := HK2.out; omega
                case rel => (try rw [← Nbq18.out]); exact ⟨(y204), (wrap64 (x35_2 + 1)), (by first | rfl | (simp; done) | (simp [*]; done)), H', ⟨by have := HJ6.out; have := HK2.out; omega⟩, ⟨by (with_reducible repeat (first | apply Kd.R_alloc | apply Kd.R_drewN | apply Kd.R_drew)); exact HO_8.out⟩, ⟨by (with_reducible repeat (first | apply Kd.R_alloc | apply Kd.R_drewN | apply Kd.R_drew)); exact HO_11.out⟩, ⟨by repeat (first | (with_reducible first | exact HB.out | apply below_alloc | apply pw_below_drewN | apply below_drew1 | refine below_set ?_ GE202.out) | exact HB.out)⟩⟩
               ·rw [if_neg c22] at H
                exact absurd H (by simp)
              ·rw [if_neg c21] at H
               exact absurd H (by simp)
             ·rw [if_neg c20] at H
              have c20b0 : decide (0 ≤ ((rd_T35 l0 x35_2).f1)) = false := decide_eq_false c20
              clear c20
              have H' := Aside0.mk H
              clear H
              have p201 : 0 ≤ (x35_2 : Int) := of_decide_eq_true (by first | (with_reducible assumption) | assumption)
              have q201 : x35_2 < (l0.length : Int) := of_decide_eq_true (by first | (with_reducible assumption) | assumption)
              obtain ⟨ad201, e201, hx201_0, hx201_1, hx201_2, hx201_3, hx201_4, hx201_5, hx201_6⟩ := at_T35 HR0.out x35_2 p201 q201
              (try rw [← Nbq18.out] at hx201_5)
              (try rw [← Nbq18.out] at hx201_6)
              cases e201
              replace hx201_0 := (HB.out.cell (World.block_lt_of_cell? w _ hx201_0)).trans hx201_0
              replace hx201_1 := (HB.out.cell (World.block_lt_of_cell? w _ hx201_1)).trans hx201_1
              replace hx201_2 := (HB.out.cell (World.block_lt_of_cell? w _ hx201_2)).trans hx201_2
              replace hx201_3 := (HB.out.cell (World.block_lt_of_cell? w _ hx201_3)).trans hx201_3
              replace hx201_4 := (HB.out.cell (World.block_lt_of_cell? w _ hx201_4)).trans hx201_4
              replace hx201_5 := (HB.out.cell (World.block_lt_of_cell? w _ hx201_5)).trans hx201_5
              replace hx201_6 := (HB.out.cell (World.block_lt_of_cell? w _ hx201_6)).trans hx201_6
              replace p201 := eq_true p201
              replace q201 := eq_true q201
              (try rw [← Nbq18.out])
              (try rw [← Nbq18.out] at BK202)
              go_wp2_with (first | ((with_reducible refine gate_dst (N := 13) rfl ?_); (try (refine gate_guard (by rfl) ?_; dsimp only)); refine box_event ?hg (N := 13) ?hd (cs := #[.int .i64 0, .int .i64 0, .int .i64 0, .int .i64 0, .int .i64 0, .bool false, .bool false]) (t := 35) ?hr ?_; (case hd => rfl); (case hg => rfl); (case hr => first | (go_simp; done) | (go_simp; rfl)); intro gb202 hg w31 hbox hb; have n0_ := Aside0.mk (Kd.R_below (by (with_reducible repeat (first | apply Kd.R_alloc | apply Kd.R_drewN | apply Kd.R_drew)); exact HO_8.out) hb); have n1_ := Aside0.mk (Kd.R_below (by (with_reducible repeat (first | apply Kd.R_alloc | apply Kd.R_drewN | apply Kd.R_drew)); exact HO_11.out) hb); have n2_ := Aside0.mk (below_step (by repeat (first | (with_reducible first | exact HB.out | apply below_alloc | apply pw_below_drewN | apply below_drew1) | exact HB.out)) hb); have n3_ := Aside0.mk (hbox); have n4_ := Aside0.mk ((by rw [hg]; exact (below_size (by repeat (first | (with_reducible first | exact HB.out | apply below_alloc | apply pw_below_drewN | apply below_drew1) | exact HB.out))) : w.heap.size ≤ gb202)); have n5_ := Aside0.mk ((by rw [hg]; exact (below_size (by repeat (first | (with_reducible first | exact HB.out | apply below_alloc | apply pw_below_drewN | apply below_drew1) | exact HB.out))) : w.heap.size ≤ gb202)); clear HO_8; clear HO_11; clear HB; have HO_8 := n0_; have HO_11 := n1_; have HB := n2_; have BK202 := n3_; have GW202 := n4_; have GE202 := n5_; clear n0_ n1_ n2_ n3_ n4_ n5_; clear hb hbox hg; have hcz32_0 : w31.cell? ⟨gb202, 0, none⟩ = some (.int .i64 0) := (blk_cell BK202.out 0).trans rfl; have hcz32_1 : w31.cell? ⟨gb202, 1, none⟩ = some (.int .i64 0) := (blk_cell BK202.out 1).trans rfl; have hcz32_2 : w31.cell? ⟨gb202, 2, none⟩ = some (.int .i64 0) := (blk_cell BK202.out 2).trans rfl; have hcz32_3 : w31.cell? ⟨gb202, 3, none⟩ = some (.int .i64 0) := (blk_cell BK202.out 3).trans rfl; have hcz32_4 : w31.cell? ⟨gb202, 4, none⟩ = some (.int .i64 0) := (blk_cell BK202.out 4).trans rfl; have hcz32_5 : w31.cell? ⟨gb202, 5, none⟩ = some (.bool false) := (blk_cell BK202.out 5).trans rfl; have hcz32_6 : w31.cell? ⟨gb202, 6, none⟩ = some (.bool false) := (blk_cell BK202.out 6).trans rfl; have hfz32_0 := blk_frozen BK202.out 0; have hfz32_1 := blk_frozen BK202.out 1; have hfz32_2 := blk_frozen BK202.out 2; have hfz32_3 := blk_frozen BK202.out 3; have hfz32_4 := blk_frozen BK202.out 4; have hfz32_5 := blk_frozen BK202.out 5; have hfz32_6 := blk_frozen BK202.out 6))
              go_roundg k2
              case measure => have := HJ6.out; have := HK2.out; omega
              case rel => (try rw [← Nbq18.out]); exact ⟨(x11_2), (wrap64 (x35_2 + 1)), (by first | rfl | (simp; done) | (simp [*]; done)), H', ⟨by have := HJ6.out; have := HK2.out; omega⟩, ⟨by (with_reducible repeat (first | apply Kd.R_alloc | apply Kd.R_drewN | apply Kd.R_drew)); exact Kd.R_mono (Kd.R_far (p := ⟨gb202, 6, none⟩) (Kd.R_far (p := ⟨gb202, 5, none⟩) (Kd.R_far (p := ⟨gb202, 4, none⟩) (Kd.R_far (p := ⟨gb202, 3, none⟩) (Kd.R_far (p := ⟨gb202, 2, none⟩) (Kd.R_far (p := ⟨gb202, 1, none⟩) (Kd.R_far (p := ⟨gb202, 0, none⟩) (Kd.R_types HO_8.out BK202.out (by decide)) (fun _ hk => hk.2) (.int .i64 ((rd_T35 l0 x35_2).f0))) (fun _ hk => hk.2) (.int .i64 ((rd_T35 l0 x35_2).f1))) (fun _ hk => hk.2) (.int .i64 ((rd_T35 l0 x35_2).f2))) (fun _ hk => hk.2) (.int .i64 ((rd_T35 l0 x35_2).f3))) (fun _ hk => hk.2) (.int .i64 ((rd_T35 l0 x35_2).f4))) (fun _ hk => hk.2) (.bool ((rd_T35 l0 x35_2).f5))) (fun _ hk => hk.2) (.bool true)) (fun _ hk => trivial)⟩, ⟨by (with_reducible repeat (first | apply Kd.R_alloc | apply Kd.R_drewN | apply Kd.R_drew)); exact Kd.R_mono (Kd.R_far (p := ⟨gb202, 6, none⟩) (Kd.R_far (p := ⟨gb202, 5, none⟩) (Kd.R_far (p := ⟨gb202, 4, none⟩) (Kd.R_far (p := ⟨gb202, 3, none⟩) (Kd.R_far (p := ⟨gb202, 2, none⟩) (Kd.R_far (p := ⟨gb202, 1, none⟩) (Kd.R_far (p := ⟨gb202, 0, none⟩) (Kd.R_types HO_11.out BK202.out (by decide)) (fun _ hk => hk.2) (.int .i64 ((rd_T35 l0 x35_2).f0))) (fun _ hk => hk.2) (.int .i64 ((rd_T35 l0 x35_2).f1))) (fun _ hk => hk.2) (.int .i64 ((rd_T35 l0 x35_2).f2))) (fun _ hk => hk.2) (.int .i64 ((rd_T35 l0 x35_2).f3))) (fun _ hk => hk.2) (.int .i64 ((rd_T35 l0 x35_2).f4))) (fun _ hk => hk.2) (.bool ((rd_T35 l0 x35_2).f5))) (fun _ hk => hk.2) (.bool true)) (fun _ hk => trivial)⟩, ⟨by repeat (first | (with_reducible first | exact HB.out | apply below_alloc | apply pw_below_drewN | apply below_drew1 | refine below_set ?_ GE202.out) | exact HB.out)⟩⟩
            ·replace c19 := Bool.eq_false_iff.mpr c19
             subst c19
             have H1 : (reclaimplan_ask.l0 k2 l1 a2 ([] : List (Bool × Bool)) x11_2 l0 (l0.length : Int) (wrap64 (x35_2 + 1))) = some (r1, r2) := by rw [if_neg (show ¬ (false = true) by decide)] at H; exact H
             clear H
             have H := H1
             clear H1
             have H' := Aside0.mk H
             clear H
             have p201 : 0 ≤ (x35_2 : Int) := of_decide_eq_true (by first | (with_reducible assumption) | assumption)
             have q201 : x35_2 < (l0.length : Int) := of_decide_eq_true (by first | (with_reducible assumption) | assumption)
             obtain ⟨ad201, e201, hx201_0, hx201_1, hx201_2, hx201_3, hx201_4, hx201_5, hx201_6⟩ := at_T35 HR0.out x35_2 p201 q201
             (try rw [← Nbq18.out] at hx201_5)
             (try rw [← Nbq18.out] at hx201_6)
             cases e201
             replace hx201_0 := (HB.out.cell (World.block_lt_of_cell? w _ hx201_0)).trans hx201_0
             replace hx201_1 := (HB.out.cell (World.block_lt_of_cell? w _ hx201_1)).trans hx201_1
             replace hx201_2 := (HB.out.cell (World.block_lt_of_cell? w _ hx201_2)).trans hx201_2
             replace hx201_3 := (HB.out.cell (World.block_lt_of_cell? w _ hx201_3)).trans hx201_3
             replace hx201_4 := (HB.out.cell (World.block_lt_of_cell? w _ hx201_4)).trans hx201_4
             replace hx201_5 := (HB.out.cell (World.block_lt_of_cell? w _ hx201_5)).trans hx201_5
             replace hx201_6 := (HB.out.cell (World.block_lt_of_cell? w _ hx201_6)).trans hx201_6
             replace p201 := eq_true p201
             replace q201 := eq_true q201
             (try rw [← Nbq18.out])
             (try rw [← Nbq18.out] at BK202)
             go_wp2_with (first | ((with_reducible refine gate_dst (N := 13) rfl ?_); (try (refine gate_guard (by rfl) ?_; dsimp only)); refine box_event ?hg (N := 13) ?hd (cs := #[.int .i64 0, .int .i64 0, .int .i64 0, .int .i64 0, .int .i64 0, .bool false, .bool false]) (t := 35) ?hr ?_; (case hd => rfl); (case hg => rfl); (case hr => first | (go_simp; done) | (go_simp; rfl)); intro gb202 hg w33 hbox hb; have n0_ := Aside0.mk (Kd.R_below (by (with_reducible repeat (first | apply Kd.R_alloc | apply Kd.R_drewN | apply Kd.R_drew)); exact HO_8.out) hb); have n1_ := Aside0.mk (Kd.R_below (by (with_reducible repeat (first | apply Kd.R_alloc | apply Kd.R_drewN | apply Kd.R_drew)); exact HO_11.out) hb); have n2_ := Aside0.mk (below_step (by repeat (first | (with_reducible first | exact HB.out | apply below_alloc | apply pw_below_drewN | apply below_drew1) | exact HB.out)) hb); have n3_ := Aside0.mk (hbox); have n4_ := Aside0.mk ((by rw [hg]; exact (below_size (by repeat (first | (with_reducible first | exact HB.out | apply below_alloc | apply pw_below_drewN | apply below_drew1) | exact HB.out))) : w.heap.size ≤ gb202)); have n5_ := Aside0.mk ((by rw [hg]; exact (below_size (by repeat (first | (with_reducible first | exact HB.out | apply below_alloc | apply pw_below_drewN | apply below_drew1) | exact HB.out))) : w.heap.size ≤ gb202)); clear HO_8; clear HO_11; clear HB; have HO_8 := n0_; have HO_11 := n1_; have HB := n2_; have BK202 := n3_; have GW202 := n4_; have GE202 := n5_; clear n0_ n1_ n2_ n3_ n4_ n5_; clear hb hbox hg; have hcz34_0 : w33.cell? ⟨gb202, 0, none⟩ = some (.int .i64 0) := (blk_cell BK202.out 0).trans rfl; have hcz34_1 : w33.cell? ⟨gb202, 1, none⟩ = some (.int .i64 0) := (blk_cell BK202.out 1).trans rfl; have hcz34_2 : w33.cell? ⟨gb202, 2, none⟩ = some (.int .i64 0) := (blk_cell BK202.out 2).trans rfl; have hcz34_3 : w33.cell? ⟨gb202, 3, none⟩ = some (.int .i64 0) := (blk_cell BK202.out 3).trans rfl; have hcz34_4 : w33.cell? ⟨gb202, 4, none⟩ = some (.int .i64 0) := (blk_cell BK202.out 4).trans rfl; have hcz34_5 : w33.cell? ⟨gb202, 5, none⟩ = some (.bool false) := (blk_cell BK202.out 5).trans rfl; have hcz34_6 : w33.cell? ⟨gb202, 6, none⟩ = some (.bool false) := (blk_cell BK202.out 6).trans rfl; have hfz34_0 := blk_frozen BK202.out 0; have hfz34_1 := blk_frozen BK202.out 1; have hfz34_2 := blk_frozen BK202.out 2; have hfz34_3 := blk_frozen BK202.out 3; have hfz34_4 := blk_frozen BK202.out 4; have hfz34_5 := blk_frozen BK202.out 5; have hfz34_6 := blk_frozen BK202.out 6))
             go_roundg k2
             case measure => have := HJ6.out; have := HK2.out; omega
             case rel => (try rw [← Nbq18.out]); exact ⟨(x11_2), (wrap64 (x35_2 + 1)), (by first | rfl | (simp; done) | (simp [*]; done)), H', ⟨by have := HJ6.out; have := HK2.out; omega⟩, ⟨by (with_reducible repeat (first | apply Kd.R_alloc | apply Kd.R_drewN | apply Kd.R_drew)); exact Kd.R_mono (Kd.R_far (p := ⟨gb202, 6, none⟩) (Kd.R_far (p := ⟨gb202, 5, none⟩) (Kd.R_far (p := ⟨gb202, 4, none⟩) (Kd.R_far (p := ⟨gb202, 3, none⟩) (Kd.R_far (p := ⟨gb202, 2, none⟩) (Kd.R_far (p := ⟨gb202, 1, none⟩) (Kd.R_far (p := ⟨gb202, 0, none⟩) (Kd.R_types HO_8.out BK202.out (by decide)) (fun _ hk => hk.2) (.int .i64 ((rd_T35 l0 x35_2).f0))) (fun _ hk => hk.2) (.int .i64 ((rd_T35 l0 x35_2).f1))) (fun _ hk => hk.2) (.int .i64 ((rd_T35 l0 x35_2).f2))) (fun _ hk => hk.2) (.int .i64 ((rd_T35 l0 x35_2).f3))) (fun _ hk => hk.2) (.int .i64 ((rd_T35 l0 x35_2).f4))) (fun _ hk => hk.2) (.bool ((rd_T35 l0 x35_2).f5))) (fun _ hk => hk.2) (.bool false)) (fun _ hk => trivial)⟩, ⟨by (with_reducible repeat (first | apply Kd.R_alloc | apply Kd.R_drewN | apply Kd.R_drew)); exact Kd.R_mono (Kd.R_far (p := ⟨gb202, 6, none⟩) (Kd.R_far (p := ⟨gb202, 5, none⟩) (Kd.R_far (p := ⟨gb202, 4, none⟩) (Kd.R_far (p := ⟨gb202, 3, none⟩) (Kd.R_far (p := ⟨gb202, 2, none⟩) (Kd.R_far (p := ⟨gb202, 1, none⟩) (Kd.R_far (p := ⟨gb202, 0, none⟩) (Kd.R_types HO_11.out BK202.out (by decide)) (fun _ hk => hk.2) (.int .i64 ((rd_T35 l0 x35_2).f0))) (fun _ hk => hk.2) (.int .i64 ((rd_T35 l0 x35_2).f1))) (fun _ hk => hk.2) (.int .i64 ((rd_T35 l0 x35_2).f2))) (fun _ hk => hk.2) (.int .i64 ((rd_T35 l0 x35_2).f3))) (fun _ hk => hk.2) (.int .i64 ((rd_T35 l0 x35_2).f4))) (fun _ hk => hk.2) (.bool ((rd_T35 l0 x35_2).f5))) (fun _ hk => hk.2) (.bool false)) (fun _ hk => trivial)⟩, ⟨by repeat (first | (with_reducible first | exact HB.out | apply below_alloc | apply pw_below_drewN | apply below_drew1 | refine below_set ?_ GE202.out) | exact HB.out)⟩⟩
           ·rw [if_neg c17] at H
            exact absurd H (by simp)
          ·rw [if_neg c16] at H
           exact absurd H (by simp)
         ·rw [if_neg c15] at H
          have c15b0 : decide (x35_2 < (l0.length : Int)) = false := decide_eq_false c15
          clear c15
          have H' := Aside0.mk H
          clear H
          go_wp2_with (first | ((with_reducible refine gate_dst (N := 58) rfl ?_); refine box_event ?hg (N := 58) ?hd (cs := #[.slice A0 l0.length c0, .int .i64 a2, .bool a3, .slice none 0 0, .slice none 0 0, .slice none 0 0]) (t := 71) ?hr ?_; (case hd => rfl); (case hg => rfl); (case hr => first | (go_simp; done) | (go_simp; rfl)); intro g hg w50 hbox hb; have n1_ := Aside0.mk (Kd.R_below (by (with_reducible repeat (first | apply Kd.R_alloc | apply Kd.R_drewN | apply Kd.R_drew)); exact HO_11.out) hb); have n2_ := Aside0.mk (below_step (by repeat (first | (with_reducible first | exact HB.out | apply below_alloc | apply pw_below_drewN | apply below_drew1) | exact HB.out)) hb); have n4_ := Aside0.mk ((by rw [hg]; exact (below_size (by repeat (first | (with_reducible first | exact HB.out | apply below_alloc | apply pw_below_drewN | apply below_drew1) | exact HB.out))) : w.heap.size ≤ g)); have n5_ := Aside0.mk hbox; clear HO_8 HO_11 HB hbox hb hg; have HO_11 := n1_; have HB := n2_; have GQ := n4_; have BQ := n5_; clear n1_ n2_ n4_ n5_))
          go_loopg [61] k2 (fun kq v61 w' => ∃ (x8_3 : List (Bool × Bool)) (x61_3 : Int) (li : List Bool) (v1 v2 v3 : Value), v61 = .int .i64 x61_3 ∧ Aside0 (reclaimplan_ask.l1 kq l1 a2 x8_3 x11_2 (l1.length : Int) x61_3 = some (r1, r2)) ∧ Aside0 (kq ≤ k2) ∧ Aside0 (QI w' w.heap.size g A0 l0.length c0 a2 a3 v1 v2 v3 li (x8_3.map (·.1)) (x8_3.map (·.2))) ∧ Aside0 (li.length = x8_3.length) ∧ Aside0 (Kd.R (Kd.int .i64) 3 w' w.heap.size (fun _ => True) v199 x11_2) ∧ Aside0 (Below w.heap.size w w'))
          case atStart => exact ⟨[], (0), [], _, _, _, rfl, H', ⟨Nat.le_refl _⟩, ⟨GQ.out, BQ.out, ⟨Kd.R_nil _ _ _ _ _, Kd.R_nil _ _ _ _ _, Kd.R_nil _ _ _ _ _⟩, fun k hk => absurd hk (by simp [Value.ownBlock]), fun k hk => absurd hk (by simp [Value.ownBlock]), fun k hk => absurd hk (by simp [Value.ownBlock])⟩, ⟨rfl⟩, HO_11, HB⟩
          case round =>
           clear H' BQ HO_11 HB
           obtain ⟨x8_3, x61_3, li, v1, v2, v3, rfl, HA, HK3, HQ, HLI, HO_11, HB⟩ := hrel
           cases gk with
           | zero => exact absurd HA.out (by simp [reclaimplan_ask.l1])
           | succ k3 =>
            have H := HA.out
            clear HA
            simp only [reclaimplan_ask.l1] at H
            by_cases c35 : x61_3 < (l1.length : Int)
            ·rw [if_pos c35] at H
             have c35b0 : decide (x61_3 < (l1.length : Int)) = true := decide_eq_true c35
             clear c35
             obtain ⟨t203, A203, H⟩ := Option.bind_eq_some_iff.mp H
             obtain ⟨t204, A204, H⟩ := Option.bind_eq_some_iff.mp H
             obtain ⟨t205, A205, H⟩ := Option.bind_eq_some_iff.mp H
             have AI := Aside0.mk A203
             have AH := Aside0.mk A204
             have AS := Aside0.mk A205
             clear A203 A204 A205
             by_cases c37 : x8_3.length < 140737488355328
             ·rw [if_pos c37] at H
              have HLr : Aside0 (x8_3.length < 140737488355328 ∧ li.length = x8_3.length) := ⟨c37, HLI.out⟩
              clear c37 HLI
              have H' := Aside0.mk H
              clear H
              obtain ⟨Ao38, co38, eo38⟩ := Kd.R_slice HO_11.out
              subst eo38
              have HQr := HQ
              have HOr := HO_11
              have HBr := HB
              clear HQ HO_11 HB
              go_wp2
              have er : wr.cell? ⟨g, 3, none⟩ = some v1 := (blk_cell HQr.out.2.1 3).trans rfl
              refine start_ (n := 14) (S := fun w' => w'.cell? ⟨g, 3, none⟩ = some v1) (ds := [13]) #[false, false, false, false, false, false, false, false, false, false, false, false, false, false] (by kernel_rfl) rfl rfl er (fun hHeld => ?_)
              refine pure_ (i := 0) (N := some 64) (v := ?_) (a' := ?_) #[true, false, false, false, false, false, false, false, false, false, false, false, false, false] rfl rfl (by kernel_rfl) (fun _ _ _ h => h) (Or.inl ⟨by rfl, ?_⟩) ?_ ?_
              rotate_left
              ·intro w'
               go_simp
               with_reducible rfl
              rotate_left
              ·simp only [Act.put, List.setIfInBounds_toArray, List.set_cons_zero, List.set_cons_succ, i64_w, i32_w]
               rfl
              refine pure_ (i := 1) (N := some 65) (v := ?_) (a' := ?_) #[true, true, false, false, false, false, false, false, false, false, false, false, false, false] rfl rfl (by kernel_rfl) (fun _ _ _ h => h) (Or.inl ⟨by rfl, ?_⟩) ?_ ?_
              rotate_left
              ·intro w'
               go_simp
               with_reducible rfl
              rotate_left
              ·simp only [Act.put, List.setIfInBounds_toArray, List.set_cons_zero, List.set_cons_succ, i64_w, i32_w]
               rfl
              refine pure_ (i := 2) (N := some 66) (v := ?_) (a' := ?_) #[true, true, true, false, false, false, false, false, false, false, false, false, false, false] rfl rfl (by kernel_rfl) (fun _ _ _ h => h) (Or.inl ⟨by rfl, ?_⟩) ?_ ?_
              rotate_left
              ·intro w'
               go_simp
               with_reducible rfl
              rotate_left
              ·simp only [Act.put, List.setIfInBounds_toArray, List.set_cons_zero, List.set_cons_succ, i64_w, i32_w]
               rfl
              refine pure_ (i := 3) (N := some 67) (v := ?_) (a' := ?_) #[true, true, true, true, false, false, false, false, false, false, false, false, false, false] rfl rfl (by kernel_rfl) (fun _ _ _ h => h) (Or.inl ⟨by rfl, ?_⟩) ?_ ?_
              rotate_left
              ·intro w'
               go_simp
               with_reducible rfl
              rotate_left
              ·simp only [Act.put, List.setIfInBounds_toArray, List.set_cons_zero, List.set_cons_succ, i64_w, i32_w]
               rfl
              refine take_ (i := 4) (N := some 68) (v := ?_) (a' := ?_) #[true, true, true, true, true, false, false, false, false, false, false, false, false, false] rfl rfl (by kernel_rfl) (fun _ _ _ h => h) (Or.inl ⟨by rfl, ?_⟩) hHeld ?_ ?_
              rotate_left
              ·intro w' s0
               go_simp
               with_reducible rfl
              rotate_left
              ·simp only [Act.put, List.setIfInBounds_toArray, List.set_cons_zero, List.set_cons_succ, i64_w, i32_w]
               rfl
              refine pure_ (i := 5) (N := some 69) (v := ?_) (a' := ?_) #[true, true, true, true, true, true, false, false, false, false, false, false, false, false] rfl rfl (by kernel_rfl) (fun _ _ _ h => h) (Or.inl ⟨by rfl, ?_⟩) ?_ ?_
              rotate_left
              ·intro w'
               go_simp
               with_reducible rfl
              rotate_left
              ·simp only [Act.put, List.setIfInBounds_toArray, List.set_cons_zero, List.set_cons_succ, i64_w, i32_w]
               rfl
              refine pure_ (i := 6) (N := some 70) (v := ?_) (a' := ?_) #[true, true, true, true, true, true, true, false, false, false, false, false, false, false] rfl rfl (by kernel_rfl) (fun _ _ _ h => h) (Or.inl ⟨by rfl, ?_⟩) ?_ ?_
              rotate_left
              ·intro w'
               go_simp
               with_reducible rfl
              rotate_left
              ·simp only [Act.put, List.setIfInBounds_toArray, List.set_cons_zero, List.set_cons_succ, i64_w, i32_w]
               rfl
              refine pure_ (i := 7) (N := some 71) (v := ?_) (a' := ?_) #[true, true, true, true, true, true, true, true, false, false, false, false, false, false] rfl rfl (by kernel_rfl) (fun _ _ _ h => h) (Or.inl ⟨by rfl, ?_⟩) ?_ ?_
              rotate_left
              ·intro w'
               go_simp
               with_reducible rfl
              rotate_left
              ·simp only [Act.put, List.setIfInBounds_toArray, List.set_cons_zero, List.set_cons_succ, i64_w, i32_w]
               rfl
              refine one_ (i := 8) (N := some 72) #[true, true, true, true, true, true, true, true, true, false, false, false, false, false] rfl rfl (by kernel_rfl) (by decide) (fun K hK => ?_)
              refine goes_ Try.func50 (by kernel_rfl) rfl #[.slice A1 l1.length c1, .int .i64 x61_3, .int .i64 a2] (by rfl) rfl rfl (by (try simp only [List.map_toArray, List.map_cons, List.map_nil]); first | done | rfl) ?_
              with_reducible refine (accounts_Inside.calls k3 _ _ l1 x61_3 a2 t203 _ ?side1 ?side2 AI.out).mono ?_
              (case side1 => exact Kd.C_drew (Kd.C_below HR1.out HBr.out))
              (case side2 => exact HC1.out)
              rintro e w7 ⟨rfl, hb7⟩
              refine ⟨_, rfl, ?_⟩
              have HB7_ := Aside0.mk (below_step (below_drew (Below.refl wr.heap.size wr)) hb7)
              have HQ7 := Aside0.mk (QI.below HQr.out HB7_.out)
              have HO7 := Aside0.mk (Kd.R_below HOr.out HB7_.out)
              have HB7 := Aside0.mk (below_step HBr.out HB7_.out)
              have HL7 := HLr
              clear hb7 HB7_ HQr HOr HBr HLr er
              refine hK.out _ _ ((blk_cell HQ7.out.2.1 3).trans rfl) (fun hHeld => ?_)
              clear hK K
              refine norm_ (a' := ?_) ?_ ?_
              rotate_left
              ·show Act.put _ (some 72) _ = _
               simp only [Act.put, List.setIfInBounds_toArray, List.set_cons_zero, List.set_cons_succ, i64_w, i32_w]
               rfl
              refine one_ (i := 9) (N := some 73) #[true, true, true, true, true, true, true, true, true, true, false, false, false, false] rfl rfl (by kernel_rfl) (by decide) (fun K hK => ?_)
              refine value_ (v := .slice (some ⟨w7.heap.size, 0, none⟩) 1 1) (w1 := w7.alloc (.cells [Value.bool t203].toArray 4)) (by rfl) rfl ?hr ?_
              (case hr => first | (go_simp; done) | (go_simp; rfl))
              refine hK.out _ _ ((blk_cell (blk_below HQ7.out.2.1 (below_alloc (Below.refl _ _) _)) 3).trans rfl) (fun hHeld => ?_)
              clear hK K
              refine norm_ (a' := ?_) ?_ ?_
              rotate_left
              ·show Act.put _ (some 73) _ = _
               simp only [Act.put, List.setIfInBounds_toArray, List.set_cons_zero, List.set_cons_succ, i64_w, i32_w]
               rfl
              refine one_ (i := 10) (N := some 74) #[true, true, true, true, true, true, true, true, true, true, true, false, false, false] rfl rfl (by kernel_rfl) (by decide) (fun K hK => ?_)
              refine Kd.R_append_step Kd.bool (w0 := w) w.heap.size (by first | rfl | kernel_rfl) (.tmp 68) (.tmp 73) 69 4 (.bool false) 1 rfl Try.underlying69 info4 rfl (by decide) (by omega) v1 li t203 [.bool t203] (fun _ => True) (fun _ => False) rfl rfl ?aP (fun _ hk => hk.elim) (fun _ _ => trivial) ?aO ?aB ?aS ?aL ?_
              (case aP => exact rfl)
              (case aO => exact HQ7.out.2.2.1.1)
              (case aB => exact HB7.out)
              (case aS => exact HB7.out.size)
              (case aL => have := HL7.out; (try simp only [List.length_map]); omega)
              intro v8 w8 ho8 hb8 hg8 hat8
              obtain ⟨hb9, hq9⟩ := QI.app1 HQ7.out ho8 hg8 hat8
              have ho9 := Kd.R_over' HO7.out (Kd.R_typed HQ7.out.2.2.1.1) (by decide) hg8
              obtain ⟨A8, c8_, e8⟩ := Kd.R_slice ho8
              generalize hn8 : (li ++ [t203]).length = n8_ at e8
              subst e8
              have HQ9 := Aside0.mk hq9
              have HO9 := Aside0.mk (Kd.R_set ho9 hb9 (by decide) 3 (.slice A8 n8_ c8_))
              have HB9 := Aside0.mk (below_set (g := g) (j := 3) (v := .slice A8 n8_ c8_) hb8 HQ7.out.1)
              have HL9 := HL7
              have c8 : w8.cell? ⟨g, 3, none⟩ = some v1 := (blk_cell hb9 3).trans rfl
              have y8 := blk_frozen hb9 3
              clear ho8 hb8 hg8 hat8 hq9 ho9 HQ7 HO7 HB7 HL7 hb9
              refine hK.out _ _ c8 (fun hHeld => ?_)
              clear hK K
              refine norm_ (a' := ?_) ?_ ?_
              rotate_left
              ·show Act.put _ (some 74) _ = _
               simp only [Act.put, List.setIfInBounds_toArray, List.set_cons_zero, List.set_cons_succ, i64_w, i32_w]
               rfl
              refine pure_ (i := 11) (N := some 75) (v := ?_) (a' := ?_) #[true, true, true, true, true, true, true, true, true, true, true, true, false, false] rfl rfl (by kernel_rfl) (fun _ _ _ h => h) (Or.inl ⟨by rfl, ?_⟩) ?_ ?_
              rotate_left
              ·intro w'
               go_simp
               with_reducible rfl
              rotate_left
              ·simp only [Act.put, List.setIfInBounds_toArray, List.set_cons_zero, List.set_cons_succ, i64_w, i32_w]
               rfl
              refine pure_ (i := 12) (N := some 76) (v := ?_) (a' := ?_) #[true, true, true, true, true, true, true, true, true, true, true, true, true, false] rfl rfl (by kernel_rfl) (fun _ _ _ h => h) (Or.inl ⟨by rfl, ?_⟩) ?_ ?_
              rotate_left
              ·intro w'
               go_simp
               with_reducible rfl
              rotate_left
              ·simp only [Act.put, List.setIfInBounds_toArray, List.set_cons_zero, List.set_cons_succ, i64_w, i32_w]
               rfl
              refine last_ (i := 13) (N := none) #[true, true, true, true, true, true, true, true, true, true, true, true, true, true] rfl rfl (by kernel_rfl) (by decide) (fun K hK => ?_)
              refine skip_ (w1 := ?_) (by rfl) rfl ?_ ?_
              rotate_left
              ·go_simp
               rfl
              refine hK.out _ _ ?_
              clear hK K
              refine done_ (by kernel_rfl) ?_
              clear c8 y8 hn8 hHeld
              generalize hw9 : w8.setCell ⟨g, 3, none⟩ (.slice A8 n8_ c8_) = w17 at *
              clear hw9
              have HQ17 := HQ9
              have HO17 := HO9
              have HB17 := HB9
              have HL17 := HL9
              clear HQ9 HO9 HB9 HL9
              go_wp2
              have e17 : w17.cell? ⟨g, 4, none⟩ = some v2 := (blk_cell HQ17.out.2.1 4).trans rfl
              refine start_ (n := 15) (S := fun w' => w'.cell? ⟨g, 4, none⟩ = some v2) (ds := [14]) #[false, false, false, false, false, false, false, false, false, false, false, false, false, false, false] (by kernel_rfl) rfl rfl e17 (fun hHeld => ?_)
              refine pure_ (i := 0) (N := some 77) (v := ?_) (a' := ?_) #[true, false, false, false, false, false, false, false, false, false, false, false, false, false, false] rfl rfl (by kernel_rfl) (fun _ _ _ h => h) (Or.inl ⟨by rfl, ?_⟩) ?_ ?_
              rotate_left
              ·intro w'
               go_simp
               with_reducible rfl
              rotate_left
              ·simp only [Act.put, List.setIfInBounds_toArray, List.set_cons_zero, List.set_cons_succ, i64_w, i32_w]
               rfl
              refine pure_ (i := 1) (N := some 78) (v := ?_) (a' := ?_) #[true, true, false, false, false, false, false, false, false, false, false, false, false, false, false] rfl rfl (by kernel_rfl) (fun _ _ _ h => h) (Or.inl ⟨by rfl, ?_⟩) ?_ ?_
              rotate_left
              ·intro w'
               go_simp
               with_reducible rfl
              rotate_left
              ·simp only [Act.put, List.setIfInBounds_toArray, List.set_cons_zero, List.set_cons_succ, i64_w, i32_w]
               rfl
              refine pure_ (i := 2) (N := some 79) (v := ?_) (a' := ?_) #[true, true, true, false, false, false, false, false, false, false, false, false, false, false, false] rfl rfl (by kernel_rfl) (fun _ _ _ h => h) (Or.inl ⟨by rfl, ?_⟩) ?_ ?_
              rotate_left
              ·intro w'
               go_simp
               with_reducible rfl
              rotate_left
              ·simp only [Act.put, List.setIfInBounds_toArray, List.set_cons_zero, List.set_cons_succ, i64_w, i32_w]
               rfl
              refine pure_ (i := 3) (N := some 80) (v := ?_) (a' := ?_) #[true, true, true, true, false, false, false, false, false, false, false, false, false, false, false] rfl rfl (by kernel_rfl) (fun _ _ _ h => h) (Or.inl ⟨by rfl, ?_⟩) ?_ ?_
              rotate_left
              ·intro w'
               go_simp
               with_reducible rfl
              rotate_left
              ·simp only [Act.put, List.setIfInBounds_toArray, List.set_cons_zero, List.set_cons_succ, i64_w, i32_w]
               rfl
              refine take_ (i := 4) (N := some 81) (v := ?_) (a' := ?_) #[true, true, true, true, true, false, false, false, false, false, false, false, false, false, false] rfl rfl (by kernel_rfl) (fun _ _ _ h => h) (Or.inl ⟨by rfl, ?_⟩) hHeld ?_ ?_
              rotate_left
              ·intro w' s0
               go_simp
               with_reducible rfl
              rotate_left
              ·simp only [Act.put, List.setIfInBounds_toArray, List.set_cons_zero, List.set_cons_succ, i64_w, i32_w]
               rfl
              refine pure_ (i := 5) (N := some 82) (v := ?_) (a' := ?_) #[true, true, true, true, true, true, false, false, false, false, false, false, false, false, false] rfl rfl (by kernel_rfl) (fun _ _ _ h => h) (Or.inl ⟨by rfl, ?_⟩) ?_ ?_
              rotate_left
              ·intro w'
               go_simp
               with_reducible rfl
              rotate_left
              ·simp only [Act.put, List.setIfInBounds_toArray, List.set_cons_zero, List.set_cons_succ, i64_w, i32_w]
               rfl
              refine pure_ (i := 6) (N := some 83) (v := ?_) (a' := ?_) #[true, true, true, true, true, true, true, false, false, false, false, false, false, false, false] rfl rfl (by kernel_rfl) (fun _ _ _ h => h) (Or.inl ⟨by rfl, ?_⟩) ?_ ?_
              rotate_left
              ·intro w'
               go_simp
               with_reducible rfl
              rotate_left
              ·simp only [Act.put, List.setIfInBounds_toArray, List.set_cons_zero, List.set_cons_succ, i64_w, i32_w]
               rfl
              refine pure_ (i := 7) (N := some 84) (v := ?_) (a' := ?_) #[true, true, true, true, true, true, true, true, false, false, false, false, false, false, false] rfl rfl (by kernel_rfl) (fun _ _ _ h => h) (Or.inl ⟨by rfl, ?_⟩) ?_ ?_
              rotate_left
              ·intro w'
               go_simp
               with_reducible rfl
              rotate_left
              ·simp only [Act.put, List.setIfInBounds_toArray, List.set_cons_zero, List.set_cons_succ, i64_w, i32_w]
               rfl
              refine pure_ (i := 8) (N := some 85) (v := ?_) (a' := ?_) #[true, true, true, true, true, true, true, true, true, false, false, false, false, false, false] rfl rfl (by kernel_rfl) (fun _ _ _ h => h) (Or.inl ⟨by rfl, ?_⟩) ?_ ?_
              rotate_left
              ·intro w'
               go_simp
               with_reducible rfl
              rotate_left
              ·simp only [Act.put, List.setIfInBounds_toArray, List.set_cons_zero, List.set_cons_succ, i64_w, i32_w]
               rfl
              refine one_ (i := 9) (N := some 86) #[true, true, true, true, true, true, true, true, true, true, false, false, false, false, false] rfl rfl (by kernel_rfl) (by decide) (fun K hK => ?_)
              refine goes_ Try.func43 (by kernel_rfl) rfl #[.slice A1 l1.length c1, .slice Ao38 x11_2.length co38, .int .i64 x61_3, .int .i64 a2, .bool false] (by rfl) rfl rfl (by (try simp only [List.map_toArray, List.map_cons, List.map_nil]); first | done | rfl) ?_
              with_reducible refine (protection_Guarded.calls k3 _ _ l1 _ _ x11_2 x61_3 a2 false t204 _ ?side1 ?side2 ?side3 ?side4 AH.out).mono ?_
              (case side1 => exact Kd.C_drew (Kd.C_below HR1.out HB17.out))
              (case side2 => exact HC1.out)
              (case side3 => exact Kd.C_drew (Kd.R_reads' HO17.out).2.2)
              (case side4 => exact (Kd.R_reads' HO17.out).2.1)
              rintro e w7 ⟨rfl, hb7⟩
              refine ⟨_, rfl, ?_⟩
              have HB7_ := Aside0.mk (below_step (below_drew (Below.refl w17.heap.size w17)) hb7)
              have HQ7 := Aside0.mk (QI.below HQ17.out HB7_.out)
              have HO7 := Aside0.mk (Kd.R_below HO17.out HB7_.out)
              have HB7 := Aside0.mk (below_step HB17.out HB7_.out)
              have HL7 := HL17
              clear hb7 HB7_ HQ17 HO17 HB17 HL17 e17
              refine hK.out _ _ ((blk_cell HQ7.out.2.1 4).trans rfl) (fun hHeld => ?_)
              clear hK K
              refine norm_ (a' := ?_) ?_ ?_
              rotate_left
              ·show Act.put _ (some 86) _ = _
               simp only [Act.put, List.setIfInBounds_toArray, List.set_cons_zero, List.set_cons_succ, i64_w, i32_w]
               rfl
              refine one_ (i := 10) (N := some 87) #[true, true, true, true, true, true, true, true, true, true, true, false, false, false, false] rfl rfl (by kernel_rfl) (by decide) (fun K hK => ?_)
              refine value_ (v := .slice (some ⟨w7.heap.size, 0, none⟩) 1 1) (w1 := w7.alloc (.cells [Value.bool t204].toArray 4)) (by rfl) rfl ?hr ?_
              (case hr => first | (go_simp; done) | (go_simp; rfl))
              refine hK.out _ _ ((blk_cell (blk_below HQ7.out.2.1 (below_alloc (Below.refl _ _) _)) 4).trans rfl) (fun hHeld => ?_)
              clear hK K
              refine norm_ (a' := ?_) ?_ ?_
              rotate_left
              ·show Act.put _ (some 87) _ = _
               simp only [Act.put, List.setIfInBounds_toArray, List.set_cons_zero, List.set_cons_succ, i64_w, i32_w]
               rfl
              refine one_ (i := 11) (N := some 88) #[true, true, true, true, true, true, true, true, true, true, true, true, false, false, false] rfl rfl (by kernel_rfl) (by decide) (fun K hK => ?_)
              refine Kd.R_append_step Kd.bool (w0 := w) w.heap.size (by first | rfl | kernel_rfl) (.tmp 81) (.tmp 87) 69 4 (.bool false) 1 rfl Try.underlying69 info4 rfl (by decide) (by omega) v2 (x8_3.map (·.1)) t204 [.bool t204] (fun _ => True) (fun _ => False) rfl rfl ?aP (fun _ hk => hk.elim) (fun _ _ => trivial) ?aO ?aB ?aS ?aL ?_
              (case aP => exact rfl)
              (case aO => exact HQ7.out.2.2.1.2.1)
              (case aB => exact HB7.out)
              (case aS => exact HB7.out.size)
              (case aL => have := HL7.out; (try simp only [List.length_map]); omega)
              intro v8 w8 ho8 hb8 hg8 hat8
              obtain ⟨hb9, hq9⟩ := QI.app2 HQ7.out ho8 hg8 hat8
              have ho9 := Kd.R_over' HO7.out (Kd.R_typed HQ7.out.2.2.1.2.1) (by decide) hg8
              obtain ⟨A8, c8_, e8⟩ := Kd.R_slice ho8
              generalize hn8 : ((x8_3.map (·.1)) ++ [t204]).length = n8_ at e8
              subst e8
              have HQ9 := Aside0.mk hq9
              have HO9 := Aside0.mk (Kd.R_set ho9 hb9 (by decide) 4 (.slice A8 n8_ c8_))
              have HB9 := Aside0.mk (below_set (g := g) (j := 4) (v := .slice A8 n8_ c8_) hb8 HQ7.out.1)
              have HL9 := HL7
              have c8 : w8.cell? ⟨g, 4, none⟩ = some v2 := (blk_cell hb9 4).trans rfl
              have y8 := blk_frozen hb9 4
              clear ho8 hb8 hg8 hat8 hq9 ho9 HQ7 HO7 HB7 HL7 hb9
              refine hK.out _ _ c8 (fun hHeld => ?_)
              clear hK K
              refine norm_ (a' := ?_) ?_ ?_
              rotate_left
              ·show Act.put _ (some 88) _ = _
               simp only [Act.put, List.setIfInBounds_toArray, List.set_cons_zero, List.set_cons_succ, i64_w, i32_w]
               rfl
              refine pure_ (i := 12) (N := some 89) (v := ?_) (a' := ?_) #[true, true, true, true, true, true, true, true, true, true, true, true, true, false, false] rfl rfl (by kernel_rfl) (fun _ _ _ h => h) (Or.inl ⟨by rfl, ?_⟩) ?_ ?_
              rotate_left
              ·intro w'
               go_simp
               with_reducible rfl
              rotate_left
              ·simp only [Act.put, List.setIfInBounds_toArray, List.set_cons_zero, List.set_cons_succ, i64_w, i32_w]
               rfl
              refine pure_ (i := 13) (N := some 90) (v := ?_) (a' := ?_) #[true, true, true, true, true, true, true, true, true, true, true, true, true, true, false] rfl rfl (by kernel_rfl) (fun _ _ _ h => h) (Or.inl ⟨by rfl, ?_⟩) ?_ ?_
              rotate_left
              ·intro w'
               go_simp
               with_reducible rfl
              rotate_left
              ·simp only [Act.put, List.setIfInBounds_toArray, List.set_cons_zero, List.set_cons_succ, i64_w, i32_w]
               rfl
              refine last_ (i := 14) (N := none) #[true, true, true, true, true, true, true, true, true, true, true, true, true, true, true] rfl rfl (by kernel_rfl) (by decide) (fun K hK => ?_)
              refine skip_ (w1 := ?_) (by rfl) rfl ?_ ?_
              rotate_left
              ·go_simp
               rfl
              refine hK.out _ _ ?_
              clear hK K
              refine done_ (by kernel_rfl) ?_
              clear c8 y8 hn8 hHeld
              generalize hw9 : w8.setCell ⟨g, 4, none⟩ (.slice A8 n8_ c8_) = w18 at *
              clear hw9
              have HQ18 := HQ9
              have HO18 := HO9
              have HB18 := HB9
              have HL18 := HL9
              clear HQ9 HO9 HB9 HL9
              go_wp2
              have e18 : w18.cell? ⟨g, 5, none⟩ = some v3 := (blk_cell HQ18.out.2.1 5).trans rfl
              refine start_ (n := 15) (S := fun w' => w'.cell? ⟨g, 5, none⟩ = some v3) (ds := [14]) #[false, false, false, false, false, false, false, false, false, false, false, false, false, false, false] (by kernel_rfl) rfl rfl e18 (fun hHeld => ?_)
              refine pure_ (i := 0) (N := some 91) (v := ?_) (a' := ?_) #[true, false, false, false, false, false, false, false, false, false, false, false, false, false, false] rfl rfl (by kernel_rfl) (fun _ _ _ h => h) (Or.inl ⟨by rfl, ?_⟩) ?_ ?_
              rotate_left
              ·intro w'
               go_simp
               with_reducible rfl
              rotate_left
              ·simp only [Act.put, List.setIfInBounds_toArray, List.set_cons_zero, List.set_cons_succ, i64_w, i32_w]
               rfl
              refine pure_ (i := 1) (N := some 92) (v := ?_) (a' := ?_) #[true, true, false, false, false, false, false, false, false, false, false, false, false, false, false] rfl rfl (by kernel_rfl) (fun _ _ _ h => h) (Or.inl ⟨by rfl, ?_⟩) ?_ ?_
              rotate_left
              ·intro w'
               go_simp
               with_reducible rfl
              rotate_left
              ·simp only [Act.put, List.setIfInBounds_toArray, List.set_cons_zero, List.set_cons_succ, i64_w, i32_w]
               rfl
              refine pure_ (i := 2) (N := some 93) (v := ?_) (a' := ?_) #[true, true, true, false, false, false, false, false, false, false, false, false, false, false, false] rfl rfl (by kernel_rfl) (fun _ _ _ h => h) (Or.inl ⟨by rfl, ?_⟩) ?_ ?_
              rotate_left
              ·intro w'
               go_simp
               with_reducible rfl
              rotate_left
              ·simp only [Act.put, List.setIfInBounds_toArray, List.set_cons_zero, List.set_cons_succ, i64_w, i32_w]
               rfl
              refine pure_ (i := 3) (N := some 94) (v := ?_) (a' := ?_) #[true, true, true, true, false, false, false, false, false, false, false, false, false, false, false] rfl rfl (by kernel_rfl) (fun _ _ _ h => h) (Or.inl ⟨by rfl, ?_⟩) ?_ ?_
              rotate_left
              ·intro w'
               go_simp
               with_reducible rfl
              rotate_left
              ·simp only [Act.put, List.setIfInBounds_toArray, List.set_cons_zero, List.set_cons_succ, i64_w, i32_w]
               rfl
              refine take_ (i := 4) (N := some 95) (v := ?_) (a' := ?_) #[true, true, true, true, true, false, false, false, false, false, false, false, false, false, false] rfl rfl (by kernel_rfl) (fun _ _ _ h => h) (Or.inl ⟨by rfl, ?_⟩) hHeld ?_ ?_
              rotate_left
              ·intro w' s0
               go_simp
               with_reducible rfl
              rotate_left
              ·simp only [Act.put, List.setIfInBounds_toArray, List.set_cons_zero, List.set_cons_succ, i64_w, i32_w]
               rfl
              refine pure_ (i := 5) (N := some 96) (v := ?_) (a' := ?_) #[true, true, true, true, true, true, false, false, false, false, false, false, false, false, false] rfl rfl (by kernel_rfl) (fun _ _ _ h => h) (Or.inl ⟨by rfl, ?_⟩) ?_ ?_
              rotate_left
              ·intro w'
               go_simp
               with_reducible rfl
              rotate_left
              ·simp only [Act.put, List.setIfInBounds_toArray, List.set_cons_zero, List.set_cons_succ, i64_w, i32_w]
               rfl
              refine pure_ (i := 6) (N := some 97) (v := ?_) (a' := ?_) #[true, true, true, true, true, true, true, false, false, false, false, false, false, false, false] rfl rfl (by kernel_rfl) (fun _ _ _ h => h) (Or.inl ⟨by rfl, ?_⟩) ?_ ?_
              rotate_left
              ·intro w'
               go_simp
               with_reducible rfl
              rotate_left
              ·simp only [Act.put, List.setIfInBounds_toArray, List.set_cons_zero, List.set_cons_succ, i64_w, i32_w]
               rfl
              refine pure_ (i := 7) (N := some 98) (v := ?_) (a' := ?_) #[true, true, true, true, true, true, true, true, false, false, false, false, false, false, false] rfl rfl (by kernel_rfl) (fun _ _ _ h => h) (Or.inl ⟨by rfl, ?_⟩) ?_ ?_
              rotate_left
              ·intro w'
               go_simp
               with_reducible rfl
              rotate_left
              ·simp only [Act.put, List.setIfInBounds_toArray, List.set_cons_zero, List.set_cons_succ, i64_w, i32_w]
               rfl
              refine pure_ (i := 8) (N := some 99) (v := ?_) (a' := ?_) #[true, true, true, true, true, true, true, true, true, false, false, false, false, false, false] rfl rfl (by kernel_rfl) (fun _ _ _ h => h) (Or.inl ⟨by rfl, ?_⟩) ?_ ?_
              rotate_left
              ·intro w'
               go_simp
               with_reducible rfl
              rotate_left
              ·simp only [Act.put, List.setIfInBounds_toArray, List.set_cons_zero, List.set_cons_succ, i64_w, i32_w]
               rfl
              refine one_ (i := 9) (N := some 100) #[true, true, true, true, true, true, true, true, true, true, false, false, false, false, false] rfl rfl (by kernel_rfl) (by decide) (fun K hK => ?_)
              refine goes_ Try.func43 (by kernel_rfl) rfl #[.slice A1 l1.length c1, .slice Ao38 x11_2.length co38, .int .i64 x61_3, .int .i64 a2, .bool true] (by rfl) rfl rfl (by (try simp only [List.map_toArray, List.map_cons, List.map_nil]); first | done | rfl) ?_
              with_reducible refine (protection_Guarded.calls k3 _ _ l1 _ _ x11_2 x61_3 a2 true t205 _ ?side1 ?side2 ?side3 ?side4 AS.out).mono ?_
              (case side1 => exact Kd.C_drew (Kd.C_below HR1.out HB18.out))
              (case side2 => exact HC1.out)
              (case side3 => exact Kd.C_drew (Kd.R_reads' HO18.out).2.2)
              (case side4 => exact (Kd.R_reads' HO18.out).2.1)
              rintro e w7 ⟨rfl, hb7⟩
              refine ⟨_, rfl, ?_⟩
              have HB7_ := Aside0.mk (below_step (below_drew (Below.refl w18.heap.size w18)) hb7)
              have HQ7 := Aside0.mk (QI.below HQ18.out HB7_.out)
              have HO7 := Aside0.mk (Kd.R_below HO18.out HB7_.out)
              have HB7 := Aside0.mk (below_step HB18.out HB7_.out)
              have HL7 := HL18
              clear hb7 HB7_ HQ18 HO18 HB18 HL18 e18
              refine hK.out _ _ ((blk_cell HQ7.out.2.1 5).trans rfl) (fun hHeld => ?_)
              clear hK K
              refine norm_ (a' := ?_) ?_ ?_
              rotate_left
              ·show Act.put _ (some 100) _ = _
               simp only [Act.put, List.setIfInBounds_toArray, List.set_cons_zero, List.set_cons_succ, i64_w, i32_w]
               rfl
              refine one_ (i := 10) (N := some 101) #[true, true, true, true, true, true, true, true, true, true, true, false, false, false, false] rfl rfl (by kernel_rfl) (by decide) (fun K hK => ?_)
              refine value_ (v := .slice (some ⟨w7.heap.size, 0, none⟩) 1 1) (w1 := w7.alloc (.cells [Value.bool t205].toArray 4)) (by rfl) rfl ?hr ?_
              (case hr => first | (go_simp; done) | (go_simp; rfl))
              refine hK.out _ _ ((blk_cell (blk_below HQ7.out.2.1 (below_alloc (Below.refl _ _) _)) 5).trans rfl) (fun hHeld => ?_)
              clear hK K
              refine norm_ (a' := ?_) ?_ ?_
              rotate_left
              ·show Act.put _ (some 101) _ = _
               simp only [Act.put, List.setIfInBounds_toArray, List.set_cons_zero, List.set_cons_succ, i64_w, i32_w]
               rfl
              refine one_ (i := 11) (N := some 102) #[true, true, true, true, true, true, true, true, true, true, true, true, false, false, false] rfl rfl (by kernel_rfl) (by decide) (fun K hK => ?_)
              refine Kd.R_append_step Kd.bool (w0 := w) w.heap.size (by first | rfl | kernel_rfl) (.tmp 95) (.tmp 101) 69 4 (.bool false) 1 rfl Try.underlying69 info4 rfl (by decide) (by omega) v3 (x8_3.map (·.2)) t205 [.bool t205] (fun _ => True) (fun _ => False) rfl rfl ?aP (fun _ hk => hk.elim) (fun _ _ => trivial) ?aO ?aB ?aS ?aL ?_
              (case aP => exact rfl)
              (case aO => exact HQ7.out.2.2.1.2.2)
              (case aB => exact HB7.out)
              (case aS => exact HB7.out.size)
              (case aL => have := HL7.out; (try simp only [List.length_map]); omega)
              intro v8 w8 ho8 hb8 hg8 hat8
              obtain ⟨hb9, hq9⟩ := QI.app3 HQ7.out ho8 hg8 hat8
              have ho9 := Kd.R_over' HO7.out (Kd.R_typed HQ7.out.2.2.1.2.2) (by decide) hg8
              obtain ⟨A8, c8_, e8⟩ := Kd.R_slice ho8
              generalize hn8 : ((x8_3.map (·.2)) ++ [t205]).length = n8_ at e8
              subst e8
              have HQ9 := Aside0.mk hq9
              have HO9 := Aside0.mk (Kd.R_set ho9 hb9 (by decide) 5 (.slice A8 n8_ c8_))
              have HB9 := Aside0.mk (below_set (g := g) (j := 5) (v := .slice A8 n8_ c8_) hb8 HQ7.out.1)
              have HL9 := HL7
              have c8 : w8.cell? ⟨g, 5, none⟩ = some v3 := (blk_cell hb9 5).trans rfl
              have y8 := blk_frozen hb9 5
              clear ho8 hb8 hg8 hat8 hq9 ho9 HQ7 HO7 HB7 HL7 hb9
              refine hK.out _ _ c8 (fun hHeld => ?_)
              clear hK K
              refine norm_ (a' := ?_) ?_ ?_
              rotate_left
              ·show Act.put _ (some 102) _ = _
               simp only [Act.put, List.setIfInBounds_toArray, List.set_cons_zero, List.set_cons_succ, i64_w, i32_w]
               rfl
              refine pure_ (i := 12) (N := some 103) (v := ?_) (a' := ?_) #[true, true, true, true, true, true, true, true, true, true, true, true, true, false, false] rfl rfl (by kernel_rfl) (fun _ _ _ h => h) (Or.inl ⟨by rfl, ?_⟩) ?_ ?_
              rotate_left
              ·intro w'
               go_simp
               with_reducible rfl
              rotate_left
              ·simp only [Act.put, List.setIfInBounds_toArray, List.set_cons_zero, List.set_cons_succ, i64_w, i32_w]
               rfl
              refine pure_ (i := 13) (N := some 104) (v := ?_) (a' := ?_) #[true, true, true, true, true, true, true, true, true, true, true, true, true, true, false] rfl rfl (by kernel_rfl) (fun _ _ _ h => h) (Or.inl ⟨by rfl, ?_⟩) ?_ ?_
              rotate_left
              ·intro w'
               go_simp
               with_reducible rfl
              rotate_left
              ·simp only [Act.put, List.setIfInBounds_toArray, List.set_cons_zero, List.set_cons_succ, i64_w, i32_w]
               rfl
              refine last_ (i := 14) (N := none) #[true, true, true, true, true, true, true, true, true, true, true, true, true, true, true] rfl rfl (by kernel_rfl) (by decide) (fun K hK => ?_)
              refine skip_ (w1 := ?_) (by rfl) rfl ?_ ?_
              rotate_left
              ·go_simp
               rfl
              refine hK.out _ _ ?_
              clear hK K
              refine done_ (by kernel_rfl) ?_
              clear c8 y8 hn8 hHeld
              generalize hw9 : w8.setCell ⟨g, 5, none⟩ (.slice A8 n8_ c8_) = w19 at *
              clear hw9
              have HQ19 := HQ9
              have HO19 := HO9
              have HB19 := HB9
              have HL19 := HL9
              clear HQ9 HO9 HB9 HL9
              go_wp2
              go_roundg k3
              case measure => have := HJ6.out; have := HK2.out; have := HK3.out; omega
              case rel => exact ⟨(x8_3 ++ [(t204, t205)]), (wrap64 (x61_3 + 1)), (li ++ [t203]), _, _, _, (by first | rfl | (simp; done) | (simp [*]; done)), H', ⟨by have := HJ6.out; have := HK2.out; have := HK3.out; omega⟩, ⟨by rw [List.map_append, List.map_append]; exact HQ19.out⟩, ⟨by rw [List.length_append, List.length_append, HL19.out.2]; rfl⟩, HO19, HB19⟩
             ·rw [if_neg c37] at H
              exact absurd H (by simp)
            ·rw [if_neg c35] at H
             have c35b0 : decide (x61_3 < (l1.length : Int)) = false := decide_eq_false c35
             clear c35
             simp only [Option.some.injEq, Prod.mk.injEq] at H
             obtain ⟨rfl, rfl⟩ := H
             go_wp2
             go_ret2
             exact ⟨_, rfl, ⟨g, rfl, by have h := HQ.out; rw [HA2.out] at h; exact h.qs⟩, HB.out⟩
      ·rw [if_neg c12] at H
       exact absurd H (by simp)
     ·rw [if_neg c11] at H
      exact absurd H (by simp)
 ·rw [if_neg c6] at H
  have c6b0 : (t197 == 0) = false := beq_eq_false_iff_ne.mpr c6
  have c6b1 : (t197 != 0) = true := bne_iff_ne.mpr c6
  simp only [Option.some.injEq, Prod.mk.injEq] at H
  obtain ⟨rfl, rfl⟩ := H
  go_enter Try.func27, Try.ntmps27
  go_wp2_with (first | ((with_reducible refine gate_callee (f := 7) rfl ?_); refine goesL_ (some 18) rfl rfl Try.func7 (by kernel_rfl) rfl #[.slice A0 l0.length c0, .slice A1 l1.length c1] rfl (by (try simp only [List.map_toArray, List.map_cons, List.map_nil]); first | done | rfl | (simp only [List.length_drop, List.length_take]; rfl)) ?_; (with_reducible refine (reclaimplan_Check.calls k _ _ l0 _ _ l1 t197 _ ?side1 ?side2 ?side3 ?side4 A5.out).mono ?_); (case side1 => repeat (first | exact HR0.out | (with_reducible refine Kd.C_alloc ?_ _) | (with_reducible refine Kd.C_drewN ?_ _) | (with_reducible refine Kd.C_drew ?_))); (case side2 => exact HC0.out); (case side3 => repeat (first | exact HR1.out | (with_reducible refine Kd.C_alloc ?_ _) | (with_reducible refine Kd.C_drewN ?_ _) | (with_reducible refine Kd.C_drew ?_))); (case side4 => exact HC1.out); rintro e w41 ⟨rfl, hb⟩; refine ⟨_, rfl, ?_⟩; have n0_ := Aside0.mk (below_step (by repeat (first | (with_reducible first | exact HB.out | apply below_alloc | apply pw_below_drewN | apply below_drew1) | exact HB.out)) hb); clear HB; have HB := n0_; clear n0_; (try clear hb); (try clear hb2); (try clear hk); (try clear hi)))
  go_ret2
  exact ⟨_, by first | rfl | (simp [*]; done), fun h0_ => absurd h0_ (by first | assumption | decide), by repeat (first | (with_reducible first | exact HB.out | apply below_alloc | apply pw_below_drewN | apply below_drew1) | exact HB.out)⟩
def nxOpen (soft : List Bool) (p : S35) : Bool := decide (p.f1 < 0) || !(bget soft p.f1)
def nxTake (l0 : List S35) (best : Int) (pref opn : Bool) (p : S35) : Bool := decide (best < 0) || (opn && !pref) || (opn == pref && decide (p.f2 < (rd_T35 l0 best).f2))
def nxF (l0 : List S35) (hard soft : List Bool) (kern : Bool) : List S35 → Int → Int → Bool → Int
 | [], _, best, _ => best
 | p :: ps, i, best, pref => if rsn hard kern p = 0 ∧ nxTake l0 best pref (nxOpen soft p) p = true then nxF l0 hard soft kern ps (i + 1) i (nxOpen soft p) else nxF l0 hard soft kern ps (i + 1) best pref
theorem nxF_take {l0 : List S35} {hard soft : List Bool} {kern : Bool} {p : S35} {ps : List S35} {i best r : Int} {pref : Bool} (o : Bool) (ho : nxOpen soft p = o) (hr : rsn hard kern p = 0) (ht : nxTake l0 best pref o p = true) (h : nxF l0 hard soft kern (p :: ps) i best pref = r) : nxF l0 hard soft kern ps (i + 1) i o = r := by
 subst ho
 rw [nxF, if_pos ⟨hr, ht⟩] at h
 exact h
theorem nxF_skip {l0 : List S35} {hard soft : List Bool} {kern : Bool} {p : S35} {ps : List S35} {i best r : Int} {pref : Bool} (hr : rsn hard kern p ≠ 0 ∨ nxTake l0 best pref (nxOpen soft p) p = false) (h : nxF l0 hard soft kern (p :: ps) i best pref = r) : nxF l0 hard soft kern ps (i + 1) best pref = r := by
 rw [nxF, if_neg (fun hc => by rcases hr with h1 | h1; exact h1 hc.1; rw [h1] at hc; exact absurd hc.2 (by decide))] at h
 exact h
theorem nx_drop {l0 : List S35} {i : Int} (h0 : 0 ≤ i) (h1 : i < (l0.length : Int)) : l0.drop i.toNat = rd_T35 l0 i :: l0.drop (i + 1).toNat := by
 have hn : i.toNat < l0.length := by omega
 rw [show (i + 1).toNat = i.toNat + 1 by omega, List.drop_eq_getElem_cons hn]
 unfold rd_T35
 rw [List.getD_eq_getElem?_getD, List.getElem?_eq_getElem hn]
 rfl
theorem nx_mem {l0 : List S35} {i : Int} (h0 : 0 ≤ i) (h1 : i < (l0.length : Int)) : rd_T35 l0 i ∈ l0 := by
 have hn : i.toNat < l0.length := by omega
 unfold rd_T35
 rw [List.getD_eq_getElem?_getD, List.getElem?_eq_getElem hn]
 exact List.getElem_mem _
theorem store7 {w5 : World} {gx t : Nat} (v0 v1 v2 v3 v4 v5 v6 : Value) {c0 c1 c2 c3 c4 c5 c6 : Value} (hx : w5.heap[gx]? = some (.cells #[c0, c1, c2, c3, c4, c5, c6] t (0, 0))) :
  ∃ w6, w6 = ((((((w5.setCell ⟨gx, 0, none⟩ v0).setCell ⟨gx, 1, none⟩ v1).setCell ⟨gx, 2, none⟩ v2).setCell ⟨gx, 3, none⟩ v3).setCell ⟨gx, 4, none⟩ v4).setCell ⟨gx, 5, none⟩ v5).setCell ⟨gx, 6, none⟩ v6 ∧
   w6.heap[gx]? = some (.cells #[v0, v1, v2, v3, v4, v5, v6] t (0, 0)) ∧ ∀ w : World, w.heap.size ≤ gx → Below w.heap.size w w5 → Below w.heap.size w w6 := by
 have h0 := blk_put (cs' := #[v0, c1, c2, c3, c4, c5, c6]) hx 0 v0 rfl
 have h1 := blk_put (cs' := #[v0, v1, c2, c3, c4, c5, c6]) h0 1 v1 rfl
 have h2 := blk_put (cs' := #[v0, v1, v2, c3, c4, c5, c6]) h1 2 v2 rfl
 have h3 := blk_put (cs' := #[v0, v1, v2, v3, c4, c5, c6]) h2 3 v3 rfl
 have h4 := blk_put (cs' := #[v0, v1, v2, v3, v4, c5, c6]) h3 4 v4 rfl
 have h5 := blk_put (cs' := #[v0, v1, v2, v3, v4, v5, c6]) h4 5 v5 rfl
 have h6 := blk_put (cs' := #[v0, v1, v2, v3, v4, v5, v6]) h5 6 v6 rfl
 exact ⟨_, rfl, h6, fun w hg hb => below_set (below_set (below_set (below_set (below_set (below_set (below_set hb hg) hg) hg) hg) hg) hg) hg⟩
def reclaimplan_Next.f (k : Nat) (l0 : List (S35)) (l1 : List (S53)) (a2 : Int) (a3 : Bool) : Option (Int) := if a2 = -1 ∧ l0.length ≤ 1000 then (reclaimplan_ask.f k l0 l1 a2 a3).bind fun hs => (if hs.2 = 0 then (if ∀ p ∈ l0, p.f1 < (hs.1.length : Int) then some (nxF l0 (hs.1.map (·.1)) (hs.1.map (·.2)) a3 l0 0 (-1) false) else none) else some (-1)) else none
theorem reclaimplan_Next.mono : ∀ a0 a1 a2 a3 k, LeO (reclaimplan_Next.f k a0 a1 a2 a3) (reclaimplan_Next.f (k + 1) a0 a1 a2 a3) := by
 intro a0 a1 a2 a3 k
 unfold reclaimplan_Next.f
 exact LeO.ite (LeO.bind (reclaimplan_ask.mono _ _ _ _ _) (fun _ => LeO.refl _)) (LeO.none _)
theorem QS.s5 {W : World} {g : Nat} {A0 : Option Addr} {n0 c0 : Nat} {kern : Bool} {hard soft : List Bool} (h : QS W g A0 n0 c0 kern hard soft) : ∃ As cs, W.cell? ⟨g, 5, none⟩ = some (.slice As soft.length cs) ∧ Kd.C Kd.bool W As soft.length soft := by
 obtain ⟨vi, Ah, ch, As, cs, h1, h2, h3⟩ := h
 exact ⟨As, cs, (blk_cell h1 5).trans rfl, h3⟩
set_option maxHeartbeats 8000000 in
set_option maxRecDepth 100000 in
theorem reclaimplan_Next.calls (k : Nat) (A0 : Option Addr) (c0 : Nat) (l0 : List (S35)) (A1 : Option Addr) (c1 : Nat) (l1 : List (S53)) (a2 : Int) (a3 : Bool) (r : Int) (w : World) (hr0 : Kd.C k35 w A0 l0.length l0) (hc0 : l0.length ≤ c0) (hr1 : Kd.C k53 w A1 l1.length l1) (hc1 : l1.length ≤ c1) (h : reclaimplan_Next.f k l0 l1 a2 a3 = some r) :
  Calls Try.prog 10 #[.slice A0 l0.length c0, .slice A1 l1.length c1, .int .i64 a2, .bool a3] w fun e w' => e = .returned (.int .i64 r) ∧ Below w.heap.size w w' := by
 have hu35 := Try.underlying35
 unfold reclaimplan_Next.f at h
 by_cases hok : a2 = -1 ∧ l0.length ≤ 1000
 case neg => rw [if_neg hok] at h; cases h
 rw [if_pos hok] at h
 obtain ⟨⟨hs, e_⟩, hask, h⟩ := Option.bind_eq_some_iff.mp h
 replace h : (if e_ = 0 then (if ∀ p ∈ l0, p.f1 < (hs.length : Int) then some (nxF l0 (hs.map (·.1)) (hs.map (·.2)) a3 l0 0 (-1) false) else none) else some (-1)) = some r := h
 have HC := Aside0.mk (reclaimplan_ask.calls k A0 c0 l0 A1 c1 l1 a2 a3 hs e_ hok.1 w hr0 hc0 hr1 hc1 hask)
 have HR0 := Aside0.mk hr0
 have HLN := Aside0.mk hok.2
 clear hr0 hc0 hr1 hc1 hask hok
 have HB := Aside0.mk (Below.refl w.heap.size w)
 by_cases he : e_ = 0
 case neg =>
  rw [if_neg he] at h
  have hb0 : (e_ == 0) = false := beq_eq_false_iff_ne.mpr he
  have hb1 : (e_ != 0) = true := bne_iff_ne.mpr he
  have h2 := Option.some.inj h
  subst h2
  go_enter Try.func10, Try.ntmps10
  go_wp2_with (first | (go_at_call 27; (with_reducible refine HC.out.mono ?_); rintro e w7 ⟨v0, rfl, hq, hb⟩; have n0_ := Aside0.mk (below_step HB.out hb); clear HB; have HB := n0_; clear n0_ hb))
  go_ret
  exact ⟨rfl, HB.out⟩
 rw [if_pos he] at h
 by_cases hp : ∀ p ∈ l0, p.f1 < (hs.length : Int)
 case neg => rw [if_neg hp] at h; cases h
 rw [if_pos hp] at h
 replace h := Option.some.inj h
 have HP : Aside0 (∀ p ∈ l0, p.f1 < ((hs.map (·.1)).length : Int)) := ⟨by rw [List.length_map]; exact hp⟩
 have HPS : Aside0 ((hs.map (·.2)).length = (hs.map (·.1)).length) := ⟨by rw [List.length_map, List.length_map]⟩
 clear hp
 generalize hs.map (·.1) = hard at *
 generalize hs.map (·.2) = soft at *
 have HN := Aside0.mk h
 clear h
 subst he
 go_enter Try.func10, Try.ntmps10
 go_wp2_with (first | (go_at_call 27; (with_reducible refine HC.out.mono ?_); rintro e w7 ⟨v0, rfl, hq, hb⟩; obtain ⟨g, rfl, hqs⟩ := hq rfl; have n0_ := Aside0.mk (below_step HB.out hb); have HQ := Aside0.mk hqs; clear HB hqs; have HB := n0_; clear n0_ hb))
 clear HC
 go_loopg [11, 12, 28] l0.length (fun kq v11 v12 v28 w' => ∃ (best : Int) (pref : Bool) (i : Int), v11 = .int .i64 best ∧ v12 = .bool pref ∧ v28 = .int .i64 i ∧ Aside0 (0 ≤ i ∧ i + kq = l0.length) ∧ Aside0 (nxF l0 hard soft a3 (l0.drop i.toNat) i best pref = r) ∧ Aside0 (best < 0 ∨ best < (l0.length : Int)) ∧ Aside0 (QS w' g A0 l0.length c0 a3 hard soft) ∧ Aside0 (Below w.heap.size w w'))
 case atStart => exact ⟨-1, false, 0, rfl, rfl, rfl, ⟨by omega⟩, HN, ⟨.inl (by decide)⟩, HQ, HB⟩
 case round =>
  clear HN HQ HB
  obtain ⟨best, pref, i, rfl, rfl, rfl, HI, HN, HBB, HQ, HB⟩ := hrel
  by_cases hi : i < (l0.length : Int)
  case neg =>
   have hib : decide (i < (l0.length : Int)) = false := decide_eq_false hi
   have hN := HN.out
   rw [show i.toNat = l0.length by have := HI.out; omega, List.drop_length] at hN
   replace hN : best = r := hN
   subst hN
   go_wp2
   go_ret
   exact ⟨rfl, HB.out⟩
  have hib : decide (i < (l0.length : Int)) = true := decide_eq_true hi
  obtain ⟨k0, rfl⟩ : ∃ k0, gk = k0 + 1 := ⟨gk - 1, by have := HI.out; omega⟩
  have p0 : 0 ≤ i := HI.out.1
  obtain ⟨ad, e0, x0, x1, x2, x3, x4, x5, x6⟩ := at_T35 HR0.out i p0 hi
  cases e0
  replace x0 := (HB.out.cell (World.block_lt_of_cell? w _ x0)).trans x0
  replace x1 := (HB.out.cell (World.block_lt_of_cell? w _ x1)).trans x1
  replace x2 := (HB.out.cell (World.block_lt_of_cell? w _ x2)).trans x2
  replace x3 := (HB.out.cell (World.block_lt_of_cell? w _ x3)).trans x3
  replace x4 := (HB.out.cell (World.block_lt_of_cell? w _ x4)).trans x4
  replace x5 := (HB.out.cell (World.block_lt_of_cell? w _ x5)).trans x5
  replace x6 := (HB.out.cell (World.block_lt_of_cell? w _ x6)).trans x6
  have hw1 : IntKind.i64.wrap (i + 1) = i + 1 := by rw [IntKind.wrap_i64]; have := HLN.out; omega
  have hN := HN.out
  rw [nx_drop p0 hi] at hN
  have hHP := HP.out _ (nx_mem p0 hi)
  have HIL := Aside0.mk hi
  have p0t := eq_true p0
  have hi1 := eq_true hi
  clear p0 hi HN
  generalize rd_T35 l0 i = p at *
  have HPH := Aside0.mk hHP
  have HN := Aside0.mk hN
  clear hHP hN
  obtain ⟨f0, f1, f2, f3, f4, f5, f6⟩ := p
  simp only at x0 x1 x2 x3 x4 x5 x6
  go_upto_region 8 with (first | ((with_reducible refine gate_dst (N := 14) rfl ?_); refine box_event ?hg (N := 14) ?hd (cs := #[.int .i64 0, .int .i64 0, .int .i64 0, .int .i64 0, .int .i64 0, .bool false, .bool false]) (t := 35) ?hr ?_; (case hd => rfl); (case hg => rfl); (case hr => first | (go_simp; done) | (go_simp; rfl)); intro gx hg w5 hbox hb; have n0_ := Aside0.mk (QS.below HQ.out hb); have n3_ := Aside0.mk (below_step HB.out hb); have n4_ := Aside0.mk hbox; have n5_ := Aside0.mk ((by rw [hg]; exact HB.out.size) : w.heap.size ≤ gx); have n6_ := Aside0.mk ((by rw [hg]; exact Nat.le_refl _) : wr.heap.size ≤ gx); have n7_ := Aside0.mk hb; have n8_ := HQ; clear HQ HB; have HQ := n0_; have HB := n3_; have BX := n4_; have GX := n5_; have GR := n6_; have HB5 := n7_; have HQ0 := n8_; clear n0_ n3_ n4_ n5_ n6_ n7_ n8_; clear hb hbox hg; have z0 : w5.cell? ⟨gx, 0, none⟩ = some (.int .i64 0) := (blk_cell BX.out 0).trans rfl; have z1 : w5.cell? ⟨gx, 1, none⟩ = some (.int .i64 0) := (blk_cell BX.out 1).trans rfl; have z2 : w5.cell? ⟨gx, 2, none⟩ = some (.int .i64 0) := (blk_cell BX.out 2).trans rfl; have z3 : w5.cell? ⟨gx, 3, none⟩ = some (.int .i64 0) := (blk_cell BX.out 3).trans rfl; have z4 : w5.cell? ⟨gx, 4, none⟩ = some (.int .i64 0) := (blk_cell BX.out 4).trans rfl; have z5 : w5.cell? ⟨gx, 5, none⟩ = some (.bool false) := (blk_cell BX.out 5).trans rfl; have z6 : w5.cell? ⟨gx, 6, none⟩ = some (.bool false) := (blk_cell BX.out 6).trans rfl; have y0 := blk_frozen BX.out 0; have y1 := blk_frozen BX.out 1; have y2 := blk_frozen BX.out 2; have y3 := blk_frozen BX.out 3; have y4 := blk_frozen BX.out 4; have y5 := blk_frozen BX.out 5; have y6 := blk_frozen BX.out 6))
  obtain ⟨w6, hw6, bx6, hb6⟩ := store7 (.int .i64 f0) (.int .i64 f1) (.int .i64 f2) (.int .i64 f3) (.int .i64 f4) (.bool f5) (.bool f6) BX.out
  rw [← hw6]
  have HQ6 := Aside0.mk (QS.below HQ0.out (hb6 _ GR.out HB5.out))
  have HB6 := Aside0.mk (hb6 _ GX.out HB.out)
  have BX6 := Aside0.mk bx6
  clear hw6 hb6 bx6 HQ HQ0 HB HB5 BX z0 z1 z2 z3 z4 z5 z6 y0 y1 y2 y3 y4 y5 y6 x0 x1 x2 x3 x4 x5 x6
  have HQ := HQ6
  have HB := HB6
  have BX := BX6
  clear HQ6 HB6 BX6
  have z0 : w6.cell? ⟨gx, 0, none⟩ = some (.int .i64 f0) := (blk_cell BX.out 0).trans rfl; have z1 : w6.cell? ⟨gx, 1, none⟩ = some (.int .i64 f1) := (blk_cell BX.out 1).trans rfl; have z2 : w6.cell? ⟨gx, 2, none⟩ = some (.int .i64 f2) := (blk_cell BX.out 2).trans rfl; have z3 : w6.cell? ⟨gx, 3, none⟩ = some (.int .i64 f3) := (blk_cell BX.out 3).trans rfl; have z4 : w6.cell? ⟨gx, 4, none⟩ = some (.int .i64 f4) := (blk_cell BX.out 4).trans rfl; have z5 : w6.cell? ⟨gx, 5, none⟩ = some (.bool f5) := (blk_cell BX.out 5).trans rfl; have z6 : w6.cell? ⟨gx, 6, none⟩ = some (.bool f6) := (blk_cell BX.out 6).trans rfl
  by_cases hr0 : rsn hard a3 (⟨f0, f1, f2, f3, f4, f5, f6⟩ : S35) = 0
  case neg =>
   have hrb0 : (rsn hard a3 (⟨f0, f1, f2, f3, f4, f5, f6⟩ : S35) == 0) = false := beq_eq_false_iff_ne.mpr hr0
   have hrb1 : (rsn hard a3 (⟨f0, f1, f2, f3, f4, f5, f6⟩ : S35) != 0) = true := bne_iff_ne.mpr hr0
   have HN2 := Aside0.mk (nxF_skip (.inl hr0) HN.out)
   clear HN hr0
   go_wp2_with (first | (go_at_call 28; (with_reducible refine (nx_reason (⟨f0, f1, f2, f3, f4, f5, f6⟩ : S35) HQ.out HPH.out).mono ?_); rintro e w7 ⟨rfl, hb⟩; have n0_ := Aside0.mk (below_step HB.out hb); have n1_ := Aside0.mk (QS.below HQ.out hb); have n2_ := Aside0.mk (blk_below BX.out hb); clear HB HQ BX z0 z1 z2 z3 z4 z5 z6; have HB := n0_; have HQ := n1_; have BX := n2_; clear n0_ n1_ n2_ hb))
   go_roundg k0
   case measure => have := HI.out; omega
   case rel => exact ⟨best, pref, i + 1, rfl, rfl, by simp [hw1], ⟨by have := HI.out; omega⟩, HN2, HBB, HQ, HB⟩
  have hrb0 : (rsn hard a3 (⟨f0, f1, f2, f3, f4, f5, f6⟩ : S35) == 0) = true := beq_iff_eq.mpr hr0
  have hrb1 : (rsn hard a3 (⟨f0, f1, f2, f3, f4, f5, f6⟩ : S35) != 0) = false := bne_eq_false_iff_eq.mpr hr0
  go_wp2_with (first | (go_at_call 28; (with_reducible refine (nx_reason (⟨f0, f1, f2, f3, f4, f5, f6⟩ : S35) HQ.out HPH.out).mono ?_); rintro e w7 ⟨rfl, hb⟩; have n0_ := Aside0.mk (below_step HB.out hb); have n1_ := Aside0.mk (QS.below HQ.out hb); have n2_ := Aside0.mk (blk_below BX.out hb); clear HB HQ BX z0 z1 z2 z3 z4 z5 z6; have HB := n0_; have HQ := n1_; have BX := n2_; clear n0_ n1_ n2_ hb))
  have z1 : ∀ n, (w7.drewN n).cell? ⟨gx, 1, none⟩ = some (.int .i64 f1) := fun _ => (blk_cell BX.out 1).trans rfl
  have z2 : ∀ n, (w7.drewN n).cell? ⟨gx, 2, none⟩ = some (.int .i64 f2) := fun _ => (blk_cell BX.out 2).trans rfl
  have HR_ := Aside0.mk hr0
  clear hr0 hrb0 hrb1
  by_cases hf : f1 < 0
  case pos =>
   have hfb := decide_eq_true hf
   have HO_ : Aside0 (nxOpen soft (⟨f0, f1, f2, f3, f4, f5, f6⟩ : S35) = true) := ⟨by unfold nxOpen; simp only; rw [hfb]; rfl⟩
   by_cases hb0 : best < 0
   case pos =>
    have hbb := decide_eq_true hb0
    repeat (go_quiet (fail); try go_wp2)
    have HN2 := Aside0.mk (nxF_take true HO_.out HR_.out (by unfold nxTake; rw [hbb]; rfl) HN.out)
    go_roundg k0
    case measure => have := HI.out; omega
    case rel => exact ⟨i, true, i + 1, rfl, rfl, by simp [hw1], ⟨by have := HI.out; omega⟩, HN2, ⟨.inr HIL.out⟩, ⟨QS.below HQ.out (pw_below_drewN (Below.refl _ _) _)⟩, ⟨pw_below_drewN HB.out _⟩⟩
   have hbb := decide_eq_false hb0
   have b1 : 0 ≤ best := by omega
   have b2 : best < (l0.length : Int) := by have := HBB.out; omega
   obtain ⟨ab, e1, _, _, v2, _, _, _, _⟩ := at_T35 HR0.out best b1 b2
   cases e1
   have V2 : ∀ n, (w7.drewN n).cell? _ = _ := fun n => (HB.out.cell (World.block_lt_of_cell? w _ v2)).trans v2
   clear v2
   have b1b := decide_eq_true b1
   have b2b := decide_eq_true b2
   replace b1 := eq_true b1
   replace b2 := eq_true b2
   cases pref with
   | true =>
    by_cases ha : f2 < (rd_T35 l0 best).f2
    ·have hab := decide_eq_true ha
     repeat (go_quiet (fail); try go_wp2)
     have HN2 := Aside0.mk (nxF_take true HO_.out HR_.out (by unfold nxTake; rw [hab]; cases decide (best < 0) <;> rfl) HN.out)
     go_roundg k0
     case measure => have := HI.out; omega
     case rel => exact ⟨i, true, i + 1, rfl, rfl, by simp [hw1], ⟨by have := HI.out; omega⟩, HN2, ⟨.inr HIL.out⟩, ⟨QS.below HQ.out (pw_below_drewN (Below.refl _ _) _)⟩, ⟨pw_below_drewN HB.out _⟩⟩
    ·have hab := decide_eq_false ha
     repeat (go_quiet (fail); try go_wp2)
     have HN2 := Aside0.mk (nxF_skip (.inr (by rw [HO_.out]; unfold nxTake; rw [hab, hbb]; rfl)) HN.out)
     go_roundg k0
     case measure => have := HI.out; omega
     case rel => exact ⟨best, true, i + 1, rfl, rfl, by simp [hw1], ⟨by have := HI.out; omega⟩, HN2, HBB, ⟨QS.below HQ.out (pw_below_drewN (Below.refl _ _) _)⟩, ⟨pw_below_drewN HB.out _⟩⟩
   | false =>
    repeat (go_quiet (fail); try go_wp2)
    have HN2 := Aside0.mk (nxF_take true HO_.out HR_.out (by unfold nxTake; rw [hbb]; rfl) HN.out)
    go_roundg k0
    case measure => have := HI.out; omega
    case rel => exact ⟨i, true, i + 1, rfl, rfl, by simp [hw1], ⟨by have := HI.out; omega⟩, HN2, ⟨.inr HIL.out⟩, ⟨QS.below HQ.out (pw_below_drewN (Below.refl _ _) _)⟩, ⟨pw_below_drewN HB.out _⟩⟩
  have hfb := decide_eq_false hf
  have hf0 : 0 ≤ f1 := by omega
  have hf1 : f1 < (soft.length : Int) := by have h1_ : f1 < (hard.length : Int) := HPH.out; have := HPS.out; omega
  obtain ⟨As, cs, c5, hsf⟩ := HQ.out.s5
  obtain ⟨ad5, e5, hx5⟩ := Kd.at_bool hsf f1 hf0 hf1
  cases e5
  have C5 : ∀ n, (w7.drewN n).cell? ⟨g, 5, none⟩ = some (.slice (some ad5) soft.length cs) := fun _ => c5
  have X5 : ∀ n, (w7.drewN n).cell? _ = _ := fun _ => hx5
  clear c5 hsf hx5
  have hfc := decide_eq_true hf0
  have hfd := decide_eq_true hf1
  have HO_ : Aside0 (nxOpen soft (⟨f0, f1, f2, f3, f4, f5, f6⟩ : S35) = !(bget soft f1)) := ⟨by unfold nxOpen; simp only; rw [hfb]; rfl⟩
  have hf0t := eq_true hf0
  have hf1t := eq_true hf1
  clear hf hf0 hf1
  have hbg : rdOf false soft f1 = bget soft f1 := rfl
  generalize hgb : bget soft f1 = b at *
  rw [hbg] at X5
  clear hbg hgb
  cases b with
  | false =>
   by_cases hb0 : best < 0
   case pos =>
    have hbb := decide_eq_true hb0
    repeat (go_quiet (fail); try go_wp2)
    have HN2 := Aside0.mk (nxF_take true HO_.out HR_.out (by unfold nxTake; rw [hbb]; rfl) HN.out)
    go_roundg k0
    case measure => have := HI.out; omega
    case rel => exact ⟨i, true, i + 1, rfl, rfl, by simp [hw1], ⟨by have := HI.out; omega⟩, HN2, ⟨.inr HIL.out⟩, ⟨QS.below HQ.out (pw_below_drewN (Below.refl _ _) _)⟩, ⟨pw_below_drewN HB.out _⟩⟩
   have hbb := decide_eq_false hb0
   have b1 : 0 ≤ best := by omega
   have b2 : best < (l0.length : Int) := by have := HBB.out; omega
   obtain ⟨ab, e1, _, _, v2, _, _, _, _⟩ := at_T35 HR0.out best b1 b2
   cases e1
   have V2 : ∀ n, (w7.drewN n).cell? _ = _ := fun n => (HB.out.cell (World.block_lt_of_cell? w _ v2)).trans v2
   clear v2
   have b1b := decide_eq_true b1
   have b2b := decide_eq_true b2
   replace b1 := eq_true b1
   replace b2 := eq_true b2
   cases pref with
   | true =>
    by_cases ha : f2 < (rd_T35 l0 best).f2
    ·have hab := decide_eq_true ha
     repeat (go_quiet (fail); try go_wp2)
     have HN2 := Aside0.mk (nxF_take true HO_.out HR_.out (by unfold nxTake; rw [hab]; cases decide (best < 0) <;> rfl) HN.out)
     go_roundg k0
     case measure => have := HI.out; omega
     case rel => exact ⟨i, true, i + 1, rfl, rfl, by simp [hw1], ⟨by have := HI.out; omega⟩, HN2, ⟨.inr HIL.out⟩, ⟨QS.below HQ.out (pw_below_drewN (Below.refl _ _) _)⟩, ⟨pw_below_drewN HB.out _⟩⟩
    ·have hab := decide_eq_false ha
     repeat (go_quiet (fail); try go_wp2)
     have HN2 := Aside0.mk (nxF_skip (.inr (by rw [HO_.out]; unfold nxTake; rw [hab, hbb]; rfl)) HN.out)
     go_roundg k0
     case measure => have := HI.out; omega
     case rel => exact ⟨best, true, i + 1, rfl, rfl, by simp [hw1], ⟨by have := HI.out; omega⟩, HN2, HBB, ⟨QS.below HQ.out (pw_below_drewN (Below.refl _ _) _)⟩, ⟨pw_below_drewN HB.out _⟩⟩
   | false =>
    repeat (go_quiet (fail); try go_wp2)
    have HN2 := Aside0.mk (nxF_take true HO_.out HR_.out (by unfold nxTake; rw [hbb]; rfl) HN.out)
    go_roundg k0
    case measure => have := HI.out; omega
    case rel => exact ⟨i, true, i + 1, rfl, rfl, by simp [hw1], ⟨by have := HI.out; omega⟩, HN2, ⟨.inr HIL.out⟩, ⟨QS.below HQ.out (pw_below_drewN (Below.refl _ _) _)⟩, ⟨pw_below_drewN HB.out _⟩⟩
  | true =>
   by_cases hb0 : best < 0
   case pos =>
    have hbb := decide_eq_true hb0
    repeat (go_quiet (fail); try go_wp2)
    have HN2 := Aside0.mk (nxF_take false HO_.out HR_.out (by unfold nxTake; rw [hbb]; rfl) HN.out)
    go_roundg k0
    case measure => have := HI.out; omega
    case rel => exact ⟨i, false, i + 1, rfl, rfl, by simp [hw1], ⟨by have := HI.out; omega⟩, HN2, ⟨.inr HIL.out⟩, ⟨QS.below HQ.out (pw_below_drewN (Below.refl _ _) _)⟩, ⟨pw_below_drewN HB.out _⟩⟩
   have hbb := decide_eq_false hb0
   have b1 : 0 ≤ best := by omega
   have b2 : best < (l0.length : Int) := by have := HBB.out; omega
   obtain ⟨ab, e1, _, _, v2, _, _, _, _⟩ := at_T35 HR0.out best b1 b2
   cases e1
   have V2 : ∀ n, (w7.drewN n).cell? _ = _ := fun n => (HB.out.cell (World.block_lt_of_cell? w _ v2)).trans v2
   clear v2
   have b1b := decide_eq_true b1
   have b2b := decide_eq_true b2
   replace b1 := eq_true b1
   replace b2 := eq_true b2
   cases pref with
   | true =>
    repeat (go_quiet (fail); try go_wp2)
    have HN2 := Aside0.mk (nxF_skip (.inr (by rw [HO_.out]; unfold nxTake; rw [hbb]; rfl)) HN.out)
    go_roundg k0
    case measure => have := HI.out; omega
    case rel => exact ⟨best, true, i + 1, rfl, rfl, by simp [hw1], ⟨by have := HI.out; omega⟩, HN2, HBB, ⟨QS.below HQ.out (pw_below_drewN (Below.refl _ _) _)⟩, ⟨pw_below_drewN HB.out _⟩⟩
   | false =>
    by_cases ha : f2 < (rd_T35 l0 best).f2
    ·have hab := decide_eq_true ha
     repeat (go_quiet (fail); try go_wp2)
     have HN2 := Aside0.mk (nxF_take false HO_.out HR_.out (by unfold nxTake; rw [hab]; cases decide (best < 0) <;> rfl) HN.out)
     go_roundg k0
     case measure => have := HI.out; omega
     case rel => exact ⟨i, false, i + 1, rfl, rfl, by simp [hw1], ⟨by have := HI.out; omega⟩, HN2, ⟨.inr HIL.out⟩, ⟨QS.below HQ.out (pw_below_drewN (Below.refl _ _) _)⟩, ⟨pw_below_drewN HB.out _⟩⟩
    ·have hab := decide_eq_false ha
     repeat (go_quiet (fail); try go_wp2)
     have HN2 := Aside0.mk (nxF_skip (.inr (by rw [HO_.out]; unfold nxTake; rw [hab, hbb]; rfl)) HN.out)
     go_roundg k0
     case measure => have := HI.out; omega
     case rel => exact ⟨best, false, i + 1, rfl, rfl, by simp [hw1], ⟨by have := HI.out; omega⟩, HN2, HBB, ⟨QS.below HQ.out (pw_below_drewN (Below.refl _ _) _)⟩, ⟨pw_below_drewN HB.out _⟩⟩
end Go.Proofs.Ytpccpkpljlafcaa.PTopSharesKept
