-- Printed by a copy of the kit's printer that this session has patched (wip/tools/patch_print.py): the session's own text. Lean checks it.
import Derived.Test.YtpccpkpljlafcaaPTopOldestFirstx0
import Derived.Test.YtpccpkpljlafcaaPTopOldestFirstx2
import Derived.Test.YtpccpkpljlafcaaPTopOldestFirstx3
import Derived.Test.YtpccpkpljlafcaaPTopOldestFirstx4
namespace Go.Proofs.Ytpccpkpljlafcaa.PTopOldestFirst
open Go.RowKit Go.Proofs.YtpccpkpljlafcaaW.PrintWords Go.Proofs.YtpccpkpljlafcaaW.PrintLast Go.Proofs.YtpccpkpljlafcaaW.PrintMore
attribute [local go_sem] max2_int min2_int max_two min_two max_three min_three max_four min_four   -- for this text's walks alone
set_option linter.unusedVariables false
set_option linter.unusedSimpArgs false

/-! ### api_DirtyPage_56: function 56 -/
def api_DirtyPage_56.l0 : Nat → List (S50) → Int → Int → Int → Int → Option (Int × Int × Int)
  | 0, _, _, _, _, _ => none
  | k + 1, x0, x6, x132000, x132001, x132002 => if x6 < (x0.length : Int) then (if 0 ≤ x6 then ((writeback_compare.f k ((rd_T50 x0 x6).f0) ((rd_T50 x0 x6).f1) ((rd_T50 x0 x6).f2) x132000 x132001 x132002).bind fun t133 => (if t133 < 0 then (api_DirtyPage_56.l0 k x0 (wrap64 (x6 + 1)) ((rd_T50 x0 x6).f0) ((rd_T50 x0 x6).f1) ((rd_T50 x0 x6).f2)) else (api_DirtyPage_56.l0 k x0 (wrap64 (x6 + 1)) x132000 x132001 x132002))) else (none)) else (some (x132000, x132001, x132002))
def api_DirtyPage_56.f (k : Nat) (l0 : List (S50))  : Option (Int × Int × Int) := if (l0.length : Int) < 1 then (none) else (if 0 < (l0.length : Int) then (api_DirtyPage_56.l0 k l0 1 ((rd_T50 l0 0).f0) ((rd_T50 l0 0).f1) ((rd_T50 l0 0).f2)) else (none))
theorem api_DirtyPage_56.mono_l : ∀ k, (∀ y0 y1 y2 y3 y4, LeO (api_DirtyPage_56.l0 k y0 y1 y2 y3 y4) (api_DirtyPage_56.l0 (k + 1) y0 y1 y2 y3 y4))
  | 0 => fun _ _ _ _ _ r h => by simp [api_DirtyPage_56.l0] at h
  | k + 1 => by
    have ih0 := api_DirtyPage_56.mono_l k
    · intro y0 y1 y2 y3 y4
      unfold api_DirtyPage_56.l0
      repeat' first
      | (with_reducible exact ih0 _ _ _ _ _)
      | (with_reducible exact writeback_compare.mono _ _ _ _ _ _ _)
      | (with_reducible exact LeO.refl _)
      | (with_reducible exact LeO.none _)
      | (with_reducible refine LeO.ite ?_ ?_)
      | (with_reducible refine LeO.bind ?_ (fun _ => ?_))
      | exact ih0 _ _ _ _ _
      | exact writeback_compare.mono _ _ _ _ _ _ _
      | exact LeO.none _
      | refine LeO.ite ?_ ?_
      | refine LeO.bind ?_ (fun _ => ?_)
theorem api_DirtyPage_56.mono : ∀ a0 k, LeO (api_DirtyPage_56.f k a0) (api_DirtyPage_56.f (k + 1) a0) := by
  intro a0 k
  have ih0 := api_DirtyPage_56.mono_l k
  unfold api_DirtyPage_56.f
  repeat' first
      | (with_reducible exact ih0 _ _ _ _ _)
      | (with_reducible exact writeback_compare.mono _ _ _ _ _ _ _)
      | (with_reducible exact LeO.refl _)
      | (with_reducible exact LeO.none _)
      | (with_reducible refine LeO.ite ?_ ?_)
      | (with_reducible refine LeO.bind ?_ (fun _ => ?_))
      | exact ih0 _ _ _ _ _
      | exact writeback_compare.mono _ _ _ _ _ _ _
      | exact LeO.none _
      | refine LeO.ite ?_ ?_
      | refine LeO.bind ?_ (fun _ => ?_)
def api_DirtyPage_56.T7 : Bool × List (List Nat × List Nat) := (true, [([], []), ([], []), ([], []), ([1, 2], [1, 2]), ([3], [3]), ([], []), ([0, 4, 5], [0, 4, 5]), ([6], [6])])
def api_DirtyPage_56.B7 : List Nat := [0, 0, 0, 6, 14, 0, 63, 127]
theorem api_DirtyPage_56.tab7 : rtab .any (opsOf Try.f56 7) = api_DirtyPage_56.T7 := by kernel_rfl
theorem api_DirtyPage_56.bits7 : waitsOk api_DirtyPage_56.T7.2 api_DirtyPage_56.B7 = true := by kernel_rfl
set_option maxHeartbeats 8000000 in
set_option maxRecDepth 100000 in
theorem api_DirtyPage_56.calls (k : Nat) (A0 : Option Addr) (c0 : Nat) (l0 : List (S50))  (r1 : Int) (r2 : Int) (r3 : Int) (w : World) (hr0 : Kd.C k50 w A0 l0.length l0) (hc0 : l0.length ≤ c0) (h : api_DirtyPage_56.f k l0 = some (r1, r2, r3)) :
    Calls Try.prog 56 #[.slice A0 l0.length c0, .func (.func 34) #[] #[]] w fun e w' => e = .returned (.agg #[.int .i64 r1, .int .i64 r2, .int .i64 r3]) ∧ Below w.heap.size w w' := by
  have hu50 := Try.underlying50
  have HR0 := Aside0.mk hr0
  have HC0 := Aside0.mk hc0
  clear hr0 hc0
  have HB := Aside0.mk (Below.refl w.heap.size w)
  have H : (if (l0.length : Int) < 1 then (none) else (if 0 < (l0.length : Int) then (api_DirtyPage_56.l0 k l0 1 ((rd_T50 l0 0).f0) ((rd_T50 l0 0).f1) ((rd_T50 l0 0).f2)) else (none))) = some (r1, r2, r3) := h
  clear h
  by_cases c3 : (l0.length : Int) < 1
  · rw [if_pos c3] at H
    exact absurd H (by simp)
  · rw [if_neg c3] at H
    have c3b0 : decide ((l0.length : Int) < 1) = false := decide_eq_false c3
    have c3b1 : decide (l0.length < 1) = false := decide_eq_false (by omega)
    clear c3
    by_cases c4 : 0 < (l0.length : Int)
    · rw [if_pos c4] at H
      have c4b0 : decide (0 < (l0.length : Int)) = true := decide_eq_true c4
      have c4b1 : decide (0 < l0.length) = true := decide_eq_true (by omega)
      clear c4
      have H' := Aside0.mk H
      clear H
      go_enter Try.func56, Try.ntmps56
      go_wp2_with (first | ((with_reducible refine gate_dst (N := 4) rfl ?_); refine box_event ?hg (N := 4) ?hd (cs := #[.int .i64 0, .int .i64 0, .int .i64 0]) (t := 50) ?hr ?_; (case hd => rfl); (case hg => rfl); (case hr => first | (go_simp; done) | (go_simp; rfl)); intro gb129 hg w5 hbox hb; have n0_ := Aside0.mk (below_step (by repeat (first | (with_reducible first | exact HB.out | apply below_alloc | apply pw_below_drewN | apply below_drew1) | exact HB.out)) hb); have n1_ := Aside0.mk (hbox); have n2_ := Aside0.mk ((by rw [hg]; exact (below_size (by repeat (first | (with_reducible first | exact HB.out | apply below_alloc | apply pw_below_drewN | apply below_drew1) | exact HB.out))) : w.heap.size ≤ gb129)); have n3_ := Aside0.mk ((by rw [hg]; exact (below_size (by repeat (first | (with_reducible first | exact HB.out | apply below_alloc | apply pw_below_drewN | apply below_drew1) | exact HB.out))) : w.heap.size ≤ gb129)); clear HB; have HB := n0_; have BK129 := n1_; have GW129 := n2_; have GE129 := n3_; clear n0_ n1_ n2_ n3_; clear hb hbox hg; have p130 : 0 ≤ (0 : Int) := (by omega); have q130 : 0 < (l0.length : Int) := of_decide_eq_true (by first | (with_reducible assumption) | assumption); obtain ⟨ad130, e130, hx130_0, hx130_1, hx130_2⟩ := at_T50 HR0.out 0 p130 q130; cases e130; have qi130 : (0 < l0.length) = True := eq_true (by omega); (try rw [show ((0 : Int)).toNat = 0 from rfl] at hx130_0); (try rw [show 0 * 3 = 0 from rfl] at hx130_0); (try rw [Addr.add_zero'] at hx130_0); (try rw [show ((0 : Int)).toNat = 0 from rfl] at hx130_1); (try rw [show 0 * 3 = 0 from rfl] at hx130_1); (try rw [Addr.add_zero'] at hx130_1); (try rw [show ((0 : Int)).toNat = 0 from rfl] at hx130_2); (try rw [show 0 * 3 = 0 from rfl] at hx130_2); (try rw [Addr.add_zero'] at hx130_2); replace hx130_0 := (HB.out.cell (World.block_lt_of_cell? w _ hx130_0)).trans hx130_0; replace hx130_1 := (HB.out.cell (World.block_lt_of_cell? w _ hx130_1)).trans hx130_1; replace hx130_2 := (HB.out.cell (World.block_lt_of_cell? w _ hx130_2)).trans hx130_2; replace p130 := eq_true p130; replace q130 := eq_true q130) | ((with_reducible refine gate_dst (N := 5) rfl ?_); refine box_event ?hg (N := 5) ?hd (cs := #[.int .i64 0, .int .i64 0, .int .i64 0]) (t := 50) ?hr ?_; (case hd => rfl); (case hg => rfl); (case hr => first | (go_simp; done) | (go_simp; rfl)); intro gb131 hg w6 hbox hb; have n0_ := Aside0.mk (blk_below (g := gb129) (o := .cells #[.int .i64 0, .int .i64 0, .int .i64 0] 50 (0, 0)) (by (with_reducible repeat (first | refine blk_drewN ?_ _ | refine blk_drew ?_ | refine blk_alloc ?_ _)); exact BK129.out) hb); have n1_ := Aside0.mk (below_step (by repeat (first | (with_reducible first | exact HB.out | apply below_alloc | apply pw_below_drewN | apply below_drew1 | refine below_set ?_ GE129.out) | exact HB.out)) hb); have n2_ := Aside0.mk (hbox); have n3_ := Aside0.mk ((by rw [hg]; exact (below_size (by repeat (first | (with_reducible first | exact HB.out | apply below_alloc | apply pw_below_drewN | apply below_drew1 | refine below_set ?_ GE129.out) | exact HB.out))) : w.heap.size ≤ gb131)); have n4_ := Aside0.mk ((by rw [hg]; exact (below_size (by repeat (first | (with_reducible first | exact HB.out | apply below_alloc | apply pw_below_drewN | apply below_drew1 | refine below_set ?_ GE129.out) | exact HB.out))) : w.heap.size ≤ gb131)); have n5_ := Aside0.mk ((by rw [hg]; exact Nat.ne_of_lt (blk_lt (g := gb129) (o := .cells #[.int .i64 0, .int .i64 0, .int .i64 0] 50 (0, 0)) (by (with_reducible repeat (first | refine blk_drewN ?_ _ | refine blk_drew ?_ | refine blk_alloc ?_ _)); exact BK129.out)) : gb129 ≠ gb131)); have n6_ := Aside0.mk ((by rw [hg]; exact Nat.ne_of_gt (blk_lt (g := gb129) (o := .cells #[.int .i64 0, .int .i64 0, .int .i64 0] 50 (0, 0)) (by (with_reducible repeat (first | refine blk_drewN ?_ _ | refine blk_drew ?_ | refine blk_alloc ?_ _)); exact BK129.out)) : gb131 ≠ gb129)); clear BK129; clear HB; have BK129 := n0_; have HB := n1_; have BK131 := n2_; have GW131 := n3_; have GE131 := n4_; have NB129_131 := n5_; have NB131_129 := n6_; clear n0_ n1_ n2_ n3_ n4_ n5_ n6_; clear hb hbox hg; have hnb7 := NB131_129.out; have hnc7 := NB129_131.out; have hcz8_0 : w6.cell? ⟨gb131, 0, none⟩ = some (.int .i64 0) := (blk_cell BK131.out 0).trans rfl; have hcz8_1 : w6.cell? ⟨gb131, 1, none⟩ = some (.int .i64 0) := (blk_cell BK131.out 1).trans rfl; have hcz8_2 : w6.cell? ⟨gb131, 2, none⟩ = some (.int .i64 0) := (blk_cell BK131.out 2).trans rfl; have hfz8_0 := blk_frozen BK131.out 0; have hfz8_1 := blk_frozen BK131.out 1; have hfz8_2 := blk_frozen BK131.out 2))
      go_loopg [6] k (fun kq v6 w' => ∃ (x6_1 : Int) (x132000_1 : Int) (x132001_1 : Int) (x132002_1 : Int), v6 = .int .i64 x6_1 ∧ Aside0 (api_DirtyPage_56.l0 kq l0 x6_1 x132000_1 x132001_1 x132002_1 = some (r1, r2, r3)) ∧ Aside0 (kq ≤ k) ∧ Aside0 (w'.heap[gb129]? = some (.cells #[.int .i64 0, .int .i64 0, .int .i64 0] 50 (0, 0))) ∧ Aside0 (w'.heap[gb131]? = some (.cells #[.int .i64 x132000_1, .int .i64 x132001_1, .int .i64 x132002_1] 50 (0, 0))) ∧ Aside0 (Below w.heap.size w w'))
      case atStart => exact ⟨(1), ((rd_T50 l0 0).f0), ((rd_T50 l0 0).f1), ((rd_T50 l0 0).f2), (by first | rfl | (simp; done) | (simp [*]; done)), H', ⟨Nat.le_refl _⟩, ⟨by (with_reducible repeat (first | refine blk_drewN ?_ _ | refine blk_drew ?_ | refine blk_alloc ?_ _)); refine blk_far ?_ NB129_131.out _; (with_reducible repeat (first | refine blk_drewN ?_ _ | refine blk_drew ?_ | refine blk_alloc ?_ _)); refine blk_far ?_ NB129_131.out _; (with_reducible repeat (first | refine blk_drewN ?_ _ | refine blk_drew ?_ | refine blk_alloc ?_ _)); refine blk_far ?_ NB129_131.out _; (with_reducible repeat (first | refine blk_drewN ?_ _ | refine blk_drew ?_ | refine blk_alloc ?_ _)); exact BK129.out⟩, ⟨by (with_reducible repeat (first | refine blk_drewN ?_ _ | refine blk_drew ?_ | refine blk_alloc ?_ _)); refine blk_put (cs := #[.int .i64 ((rd_T50 l0 0).f0), .int .i64 ((rd_T50 l0 0).f1), .int .i64 0]) ?_ 2 _ rfl; (with_reducible repeat (first | refine blk_drewN ?_ _ | refine blk_drew ?_ | refine blk_alloc ?_ _)); refine blk_put (cs := #[.int .i64 ((rd_T50 l0 0).f0), .int .i64 0, .int .i64 0]) ?_ 1 _ rfl; (with_reducible repeat (first | refine blk_drewN ?_ _ | refine blk_drew ?_ | refine blk_alloc ?_ _)); refine blk_put (cs := #[.int .i64 0, .int .i64 0, .int .i64 0]) ?_ 0 _ rfl; (with_reducible repeat (first | refine blk_drewN ?_ _ | refine blk_drew ?_ | refine blk_alloc ?_ _)); exact BK131.out⟩, ⟨by repeat (first | (with_reducible first | exact HB.out | apply below_alloc | apply pw_below_drewN | apply below_drew1 | refine below_set ?_ GE129.out | refine below_set ?_ GE131.out) | exact HB.out)⟩⟩
      case round =>
        clear H'
        try clear p1
        try clear q1
        try clear hx1
        try clear qi1
        try clear p2
        try clear c3
        try clear c3b0
        try clear c3b1
        try clear c4
        try clear c4b0
        try clear c4b1
        try clear c5
        try clear c7
        try clear hcz8_0
        try clear hcz8_1
        try clear hcz8_2
        try clear hfz8_0
        try clear hfz8_1
        try clear hfz8_2
        try clear hx130_0
        try clear hx130_1
        try clear hx130_2
        try clear p130
        try clear q130
        obtain ⟨x6_1, x132000_1, x132001_1, x132002_1, rfl, HA, HK1, BK129, BK131, HB⟩ := hrel
        cases gk with
        | zero => exact absurd HA.out (by simp [api_DirtyPage_56.l0])
        | succ k1 =>
          have H := HA.out
          clear HA
          simp only [api_DirtyPage_56.l0] at H
          by_cases c9 : x6_1 < (l0.length : Int)
          · rw [if_pos c9] at H
            have c9b0 : decide (x6_1 < (l0.length : Int)) = true := decide_eq_true c9
            clear c9
            by_cases c10 : 0 ≤ x6_1
            · rw [if_pos c10] at H
              have c10b0 : decide (0 ≤ x6_1) = true := decide_eq_true c10
              clear c10
              replace H := Option.bind_eq_some_iff.mp H
              obtain ⟨t133, A110, H⟩ := H
              replace H : (if t133 < 0 then (api_DirtyPage_56.l0 k1 l0 (wrap64 (x6_1 + 1)) ((rd_T50 l0 x6_1).f0) ((rd_T50 l0 x6_1).f1) ((rd_T50 l0 x6_1).f2)) else (api_DirtyPage_56.l0 k1 l0 (wrap64 (x6_1 + 1)) x132000_1 x132001_1 x132002_1)) = some (r1, r2, r3) := H
              have A11 := Aside0.mk A110
              clear A110
              by_cases c12 : t133 < 0
              · rw [if_pos c12] at H
                have c12b0 : decide (t133 < 0) = true := decide_eq_true c12
                clear c12
                have H' := Aside0.mk H
                clear H
                try go_wp2
                have n0_ := Aside0.mk (blk_drew BK129.out)
                have n1_ := Aside0.mk (blk_drew BK131.out)
                have n2_ := Aside0.mk (below_drew1 HB.out)
                clear BK129
                clear BK131
                clear HB
                have BK129 := n0_
                have BK131 := n1_
                have HB := n2_
                clear n0_ n1_ n2_
                have p132 : 0 ≤ (x6_1 : Int) := of_decide_eq_true (by first | (with_reducible assumption) | assumption)
                have q132 : x6_1 < (l0.length : Int) := of_decide_eq_true (by first | (with_reducible assumption) | assumption)
                obtain ⟨ad132, e132, hx132_0, hx132_1, hx132_2⟩ := at_T50 HR0.out x6_1 p132 q132
                have hw132_2 := hx132_2
                have hw132_1 := hx132_1
                have hw132_0 := hx132_0
                obtain rfl : ad130 = ad132 := (by injection e132)
                replace hx132_0 := (HB.out.cell (World.block_lt_of_cell? w _ hx132_0)).trans hx132_0
                replace hx132_1 := (HB.out.cell (World.block_lt_of_cell? w _ hx132_1)).trans hx132_1
                replace hx132_2 := (HB.out.cell (World.block_lt_of_cell? w _ hx132_2)).trans hx132_2
                replace p132 := eq_true p132
                replace q132 := eq_true q132
                refine start_ (n := 8) (S := fun w' => w'.cell? ⟨gb131, 0, none⟩ = some (.int .i64 x132000_1) ∧ w'.cell? ⟨gb131, 1, none⟩ = some (.int .i64 x132001_1) ∧ w'.cell? ⟨gb131, 2, none⟩ = some (.int .i64 x132002_1) ∧ w'.cell? (ad130.add ((x6_1).toNat * 3)) = some (.int .i64 ((rd_T50 l0 x6_1).f0)) ∧ w'.cell? ⟨(ad130.add ((x6_1).toNat * 3)).block, (ad130.add ((x6_1).toNat * 3)).off + 1, none⟩ = some (.int .i64 ((rd_T50 l0 x6_1).f1)) ∧ w'.cell? ⟨(ad130.add ((x6_1).toNat * 3)).block, (ad130.add ((x6_1).toNat * 3)).off + 2, none⟩ = some (.int .i64 ((rd_T50 l0 x6_1).f2))) (ds := []) #[false, false, false, false, false, false, false, false] (by kernel_rfl) rfl rfl ⟨(blk_cell BK131.out 0).trans rfl, (blk_cell BK131.out 1).trans rfl, (blk_cell BK131.out 2).trans rfl, ((HB.out.cell (World.block_lt_of_cell? w _ hw132_0)).trans hw132_0), ((HB.out.cell (World.block_lt_of_cell? w _ hw132_1)).trans hw132_1), ((HB.out.cell (World.block_lt_of_cell? w _ hw132_2)).trans hw132_2)⟩ (fun hHeld => ?_); refine with_tabW api_DirtyPage_56.tab7 api_DirtyPage_56.bits7 (fun HT_ HW_ => ?_)
                generalize wr.drew = w13 at BK129 BK131 HB hx132_0 hx132_1 hx132_2 hHeld ⊢
                refine pure_ (i := 0) (N := some 20) (v := ?_) (a' := ?_) #[true, false, false, false, false, false, false, false] rfl rfl (any_of HT_.out (by kernel_rfl)) (fun _ _ _ h => h) (Or.inl ⟨by rfl, ?_⟩) ?_ ?_
                rotate_left
                · intro w'
                  go_simp
                  with_reducible rfl
                rotate_left
                · simp only [Act.put, List.setIfInBounds_toArray, List.set_cons_zero, List.set_cons_succ, i64_w, i32_w]
                  rfl
                refine pure_ (i := 1) (N := some 21) (v := ?_) (a' := ?_) #[true, true, false, false, false, false, false, false] rfl rfl (any_of HT_.out (by kernel_rfl)) (fun _ _ _ h => h) (Or.inl ⟨by rfl, ?_⟩) ?_ ?_
                rotate_left
                · intro w'
                  go_simp
                  with_reducible rfl
                rotate_left
                · simp only [Act.put, List.setIfInBounds_toArray, List.set_cons_zero, List.set_cons_succ, i64_w, i32_w]
                  rfl
                refine pure_ (i := 2) (N := some 22) (v := ?_) (a' := ?_) #[true, true, true, false, false, false, false, false] rfl rfl (any_of HT_.out (by kernel_rfl)) (fun _ _ _ h => h) (Or.inl ⟨by rfl, ?_⟩) ?_ ?_
                rotate_left
                · intro w'
                  go_simp
                  with_reducible rfl
                rotate_left
                · simp only [Act.put, List.setIfInBounds_toArray, List.set_cons_zero, List.set_cons_succ, i64_w, i32_w]
                  rfl
                refine pure_ (i := 3) (N := some 23) (v := ?_) (a' := ?_) #[true, true, true, true, false, false, false, false] rfl rfl (any_of HT_.out (by kernel_rfl)) (fun _ _ _ h => h) (Or.inl ⟨by rfl, ?_⟩) ?_ ?_
                rotate_left
                · intro w'
                  go_simp
                  with_reducible rfl
                rotate_left
                · simp only [Act.put, List.setIfInBounds_toArray, List.set_cons_zero, List.set_cons_succ, i64_w, i32_w]
                  rfl
                refine take_ (i := 4) (N := some 24) (v := ?_) (a' := ?_) #[true, true, true, true, true, false, false, false] rfl rfl (take_ofW HT_.out HW_.out (by kernel_rfl)) (fun _ _ _ h => h) (Or.inl ⟨by rfl, ?_⟩) hHeld ?_ ?_
                rotate_left
                · rintro w' ⟨s0, s1, s2, s3, s4, s5⟩
                  go_simp
                  with_reducible rfl
                rotate_left
                · simp only [Act.put, List.setIfInBounds_toArray, List.set_cons_zero, List.set_cons_succ, i64_w, i32_w]
                  rfl
                refine take_ (i := 5) (N := some 25) (v := ?_) (a' := ?_) #[true, true, true, true, true, true, false, false] rfl rfl (take_ofW HT_.out HW_.out (by kernel_rfl)) (fun _ _ _ h => h) (Or.inl ⟨by rfl, ?_⟩) hHeld ?_ ?_
                rotate_left
                · rintro w' ⟨s0, s1, s2, s3, s4, s5⟩
                  go_simp
                  with_reducible rfl
                rotate_left
                · simp only [Act.put, List.setIfInBounds_toArray, List.set_cons_zero, List.set_cons_succ, i64_w, i32_w]
                  rfl
                refine one_ (i := 6) (N := some 26) #[true, true, true, true, true, true, true, false] rfl rfl (one_of HT_.out (by kernel_rfl)) (by decide) (fun K hK => ?_)
                refine goesTs_ Try.func34 (by kernel_rfl) rfl #[.agg #[.int .i64 ((rd_T50 l0 x6_1).f0), .int .i64 ((rd_T50 l0 x6_1).f1), .int .i64 ((rd_T50 l0 x6_1).f2)], .agg #[.int .i64 x132000_1, .int .i64 x132001_1, .int .i64 x132002_1]] (by rfl) rfl rfl rfl (by (try simp only [List.map_toArray, List.map_cons, List.map_nil]); first | done | rfl | (simp only [List.length_drop, List.length_take]; rfl)) ?_
                with_reducible refine (writeback_compare.calls k1 ((rd_T50 l0 x6_1).f0) ((rd_T50 l0 x6_1).f1) ((rd_T50 l0 x6_1).f2) x132000_1 x132001_1 x132002_1 t133 _ A11.out).mono ?_
                rintro e w14 ⟨rfl, hb⟩
                refine ⟨_, rfl, ?_⟩
                have n0_ := Aside0.mk (blk_below (g := gb129) (o := .cells #[.int .i64 0, .int .i64 0, .int .i64 0] 50 (0, 0)) (by (with_reducible repeat (first | refine blk_drewN ?_ _ | refine blk_drew ?_ | refine blk_alloc ?_ _)); exact BK129.out) hb)
                have n1_ := Aside0.mk (blk_below (g := gb131) (o := .cells #[.int .i64 x132000_1, .int .i64 x132001_1, .int .i64 x132002_1] 50 (0, 0)) (by (with_reducible repeat (first | refine blk_drewN ?_ _ | refine blk_drew ?_ | refine blk_alloc ?_ _)); exact BK131.out) hb)
                have n2_ := Aside0.mk (below_step (by repeat (first | (with_reducible first | exact HB.out | apply below_alloc | apply pw_below_drewN | apply below_drew1 | refine below_set ?_ GE129.out | refine below_set ?_ GE131.out) | exact HB.out)) hb)
                clear BK129
                clear BK131
                clear HB
                have BK129 := n0_
                have BK131 := n1_
                have HB := n2_
                clear n0_ n1_ n2_
                (try clear hb)
                (try clear hb2)
                (try clear hk)
                (try clear hi)
                refine hK.out _ _ ⟨(blk_cell BK131.out 0).trans rfl, (blk_cell BK131.out 1).trans rfl, (blk_cell BK131.out 2).trans rfl, ((HB.out.cell (World.block_lt_of_cell? w _ hw132_0)).trans hw132_0), ((HB.out.cell (World.block_lt_of_cell? w _ hw132_1)).trans hw132_1), ((HB.out.cell (World.block_lt_of_cell? w _ hw132_2)).trans hw132_2)⟩ (fun hHeld => ?_)
                clear hK K
                refine norm_ (a' := ?_) ?_ ?_
                rotate_left
                · show Act.put _ (some 26) _ = _
                  simp only [Act.put, List.setIfInBounds_toArray, List.set_cons_zero, List.set_cons_succ, i64_w, i32_w]
                  rfl
                refine pure_ (i := 7) (N := some 27) (v := ?_) (a' := ?_) #[true, true, true, true, true, true, true, true] rfl rfl (any_of HT_.out (by kernel_rfl)) (fun _ _ _ h => h) (Or.inl ⟨by rfl, ?_⟩) ?_ ?_
                rotate_left
                · intro w'
                  go_simp
                  with_reducible rfl
                rotate_left
                · simp only [Act.put, List.setIfInBounds_toArray, List.set_cons_zero, List.set_cons_succ, i64_w, i32_w]
                  rfl
                refine done_ (done_of HT_.out (by kernel_rfl)) ?_
                have p134 : 0 ≤ (x6_1 : Int) := of_decide_eq_true (by first | (with_reducible assumption) | assumption)
                have q134 : x6_1 < (l0.length : Int) := of_decide_eq_true (by first | (with_reducible assumption) | assumption)
                obtain ⟨ad134, e134, hx134_0, hx134_1, hx134_2⟩ := at_T50 HR0.out x6_1 p134 q134
                obtain rfl : ad130 = ad134 := (by injection e134)
                replace hx134_0 := (HB.out.cell (World.block_lt_of_cell? w _ hx134_0)).trans hx134_0
                replace hx134_1 := (HB.out.cell (World.block_lt_of_cell? w _ hx134_1)).trans hx134_1
                replace hx134_2 := (HB.out.cell (World.block_lt_of_cell? w _ hx134_2)).trans hx134_2
                replace p134 := eq_true p134
                replace q134 := eq_true q134
                have hnb15 := NB131_129.out
                have hnc15 := NB129_131.out
                have hcz16_0 : w14.cell? ⟨gb131, 0, none⟩ = some (.int .i64 x132000_1) := (blk_cell BK131.out 0).trans rfl
                have hcz16_1 : w14.cell? ⟨gb131, 1, none⟩ = some (.int .i64 x132001_1) := (blk_cell BK131.out 1).trans rfl
                have hcz16_2 : w14.cell? ⟨gb131, 2, none⟩ = some (.int .i64 x132002_1) := (blk_cell BK131.out 2).trans rfl
                have hfz16_0 := blk_frozen BK131.out 0
                have hfz16_1 := blk_frozen BK131.out 1
                have hfz16_2 := blk_frozen BK131.out 2
                try go_wp2
                go_roundg k1
                case measure => have := HK1.out; omega
                case rel => exact ⟨(wrap64 (x6_1 + 1)), ((rd_T50 l0 x6_1).f0), ((rd_T50 l0 x6_1).f1), ((rd_T50 l0 x6_1).f2), (by first | rfl | (simp; done) | (simp [*]; done)), H', ⟨by have := HK1.out; omega⟩, ⟨by (with_reducible repeat (first | refine blk_drewN ?_ _ | refine blk_drew ?_ | refine blk_alloc ?_ _)); refine blk_far ?_ NB129_131.out _; (with_reducible repeat (first | refine blk_drewN ?_ _ | refine blk_drew ?_ | refine blk_alloc ?_ _)); refine blk_far ?_ NB129_131.out _; (with_reducible repeat (first | refine blk_drewN ?_ _ | refine blk_drew ?_ | refine blk_alloc ?_ _)); refine blk_far ?_ NB129_131.out _; (with_reducible repeat (first | refine blk_drewN ?_ _ | refine blk_drew ?_ | refine blk_alloc ?_ _)); exact BK129.out⟩, ⟨by (with_reducible repeat (first | refine blk_drewN ?_ _ | refine blk_drew ?_ | refine blk_alloc ?_ _)); refine blk_put (cs := #[.int .i64 ((rd_T50 l0 x6_1).f0), .int .i64 ((rd_T50 l0 x6_1).f1), .int .i64 x132002_1]) ?_ 2 _ rfl; (with_reducible repeat (first | refine blk_drewN ?_ _ | refine blk_drew ?_ | refine blk_alloc ?_ _)); refine blk_put (cs := #[.int .i64 ((rd_T50 l0 x6_1).f0), .int .i64 x132001_1, .int .i64 x132002_1]) ?_ 1 _ rfl; (with_reducible repeat (first | refine blk_drewN ?_ _ | refine blk_drew ?_ | refine blk_alloc ?_ _)); refine blk_put (cs := #[.int .i64 x132000_1, .int .i64 x132001_1, .int .i64 x132002_1]) ?_ 0 _ rfl; (with_reducible repeat (first | refine blk_drewN ?_ _ | refine blk_drew ?_ | refine blk_alloc ?_ _)); exact BK131.out⟩, ⟨by repeat (first | (with_reducible first | exact HB.out | apply below_alloc | apply pw_below_drewN | apply below_drew1 | refine below_set ?_ GE129.out | refine below_set ?_ GE131.out) | exact HB.out)⟩⟩
              · rw [if_neg c12] at H
                have c12b0 : decide (t133 < 0) = false := decide_eq_false c12
                clear c12
                have H' := Aside0.mk H
                clear H
                try go_wp2
                have n0_ := Aside0.mk (blk_drew BK129.out)
                have n1_ := Aside0.mk (blk_drew BK131.out)
                have n2_ := Aside0.mk (below_drew1 HB.out)
                clear BK129
                clear BK131
                clear HB
                have BK129 := n0_
                have BK131 := n1_
                have HB := n2_
                clear n0_ n1_ n2_
                have p132 : 0 ≤ (x6_1 : Int) := of_decide_eq_true (by first | (with_reducible assumption) | assumption)
                have q132 : x6_1 < (l0.length : Int) := of_decide_eq_true (by first | (with_reducible assumption) | assumption)
                obtain ⟨ad132, e132, hx132_0, hx132_1, hx132_2⟩ := at_T50 HR0.out x6_1 p132 q132
                have hw132_2 := hx132_2
                have hw132_1 := hx132_1
                have hw132_0 := hx132_0
                obtain rfl : ad130 = ad132 := (by injection e132)
                replace hx132_0 := (HB.out.cell (World.block_lt_of_cell? w _ hx132_0)).trans hx132_0
                replace hx132_1 := (HB.out.cell (World.block_lt_of_cell? w _ hx132_1)).trans hx132_1
                replace hx132_2 := (HB.out.cell (World.block_lt_of_cell? w _ hx132_2)).trans hx132_2
                replace p132 := eq_true p132
                replace q132 := eq_true q132
                refine start_ (n := 8) (S := fun w' => w'.cell? ⟨gb131, 0, none⟩ = some (.int .i64 x132000_1) ∧ w'.cell? ⟨gb131, 1, none⟩ = some (.int .i64 x132001_1) ∧ w'.cell? ⟨gb131, 2, none⟩ = some (.int .i64 x132002_1) ∧ w'.cell? (ad130.add ((x6_1).toNat * 3)) = some (.int .i64 ((rd_T50 l0 x6_1).f0)) ∧ w'.cell? ⟨(ad130.add ((x6_1).toNat * 3)).block, (ad130.add ((x6_1).toNat * 3)).off + 1, none⟩ = some (.int .i64 ((rd_T50 l0 x6_1).f1)) ∧ w'.cell? ⟨(ad130.add ((x6_1).toNat * 3)).block, (ad130.add ((x6_1).toNat * 3)).off + 2, none⟩ = some (.int .i64 ((rd_T50 l0 x6_1).f2))) (ds := []) #[false, false, false, false, false, false, false, false] (by kernel_rfl) rfl rfl ⟨(blk_cell BK131.out 0).trans rfl, (blk_cell BK131.out 1).trans rfl, (blk_cell BK131.out 2).trans rfl, ((HB.out.cell (World.block_lt_of_cell? w _ hw132_0)).trans hw132_0), ((HB.out.cell (World.block_lt_of_cell? w _ hw132_1)).trans hw132_1), ((HB.out.cell (World.block_lt_of_cell? w _ hw132_2)).trans hw132_2)⟩ (fun hHeld => ?_); refine with_tabW api_DirtyPage_56.tab7 api_DirtyPage_56.bits7 (fun HT_ HW_ => ?_)
                generalize wr.drew = w17 at BK129 BK131 HB hx132_0 hx132_1 hx132_2 hHeld ⊢
                refine pure_ (i := 0) (N := some 20) (v := ?_) (a' := ?_) #[true, false, false, false, false, false, false, false] rfl rfl (any_of HT_.out (by kernel_rfl)) (fun _ _ _ h => h) (Or.inl ⟨by rfl, ?_⟩) ?_ ?_
                rotate_left
                · intro w'
                  go_simp
                  with_reducible rfl
                rotate_left
                · simp only [Act.put, List.setIfInBounds_toArray, List.set_cons_zero, List.set_cons_succ, i64_w, i32_w]
                  rfl
                refine pure_ (i := 1) (N := some 21) (v := ?_) (a' := ?_) #[true, true, false, false, false, false, false, false] rfl rfl (any_of HT_.out (by kernel_rfl)) (fun _ _ _ h => h) (Or.inl ⟨by rfl, ?_⟩) ?_ ?_
                rotate_left
                · intro w'
                  go_simp
                  with_reducible rfl
                rotate_left
                · simp only [Act.put, List.setIfInBounds_toArray, List.set_cons_zero, List.set_cons_succ, i64_w, i32_w]
                  rfl
                refine pure_ (i := 2) (N := some 22) (v := ?_) (a' := ?_) #[true, true, true, false, false, false, false, false] rfl rfl (any_of HT_.out (by kernel_rfl)) (fun _ _ _ h => h) (Or.inl ⟨by rfl, ?_⟩) ?_ ?_
                rotate_left
                · intro w'
                  go_simp
                  with_reducible rfl
                rotate_left
                · simp only [Act.put, List.setIfInBounds_toArray, List.set_cons_zero, List.set_cons_succ, i64_w, i32_w]
                  rfl
                refine pure_ (i := 3) (N := some 23) (v := ?_) (a' := ?_) #[true, true, true, true, false, false, false, false] rfl rfl (any_of HT_.out (by kernel_rfl)) (fun _ _ _ h => h) (Or.inl ⟨by rfl, ?_⟩) ?_ ?_
                rotate_left
                · intro w'
                  go_simp
                  with_reducible rfl
                rotate_left
                · simp only [Act.put, List.setIfInBounds_toArray, List.set_cons_zero, List.set_cons_succ, i64_w, i32_w]
                  rfl
                refine take_ (i := 4) (N := some 24) (v := ?_) (a' := ?_) #[true, true, true, true, true, false, false, false] rfl rfl (take_ofW HT_.out HW_.out (by kernel_rfl)) (fun _ _ _ h => h) (Or.inl ⟨by rfl, ?_⟩) hHeld ?_ ?_
                rotate_left
                · rintro w' ⟨s0, s1, s2, s3, s4, s5⟩
                  go_simp
                  with_reducible rfl
                rotate_left
                · simp only [Act.put, List.setIfInBounds_toArray, List.set_cons_zero, List.set_cons_succ, i64_w, i32_w]
                  rfl
                refine take_ (i := 5) (N := some 25) (v := ?_) (a' := ?_) #[true, true, true, true, true, true, false, false] rfl rfl (take_ofW HT_.out HW_.out (by kernel_rfl)) (fun _ _ _ h => h) (Or.inl ⟨by rfl, ?_⟩) hHeld ?_ ?_
                rotate_left
                · rintro w' ⟨s0, s1, s2, s3, s4, s5⟩
                  go_simp
                  with_reducible rfl
                rotate_left
                · simp only [Act.put, List.setIfInBounds_toArray, List.set_cons_zero, List.set_cons_succ, i64_w, i32_w]
                  rfl
                refine one_ (i := 6) (N := some 26) #[true, true, true, true, true, true, true, false] rfl rfl (one_of HT_.out (by kernel_rfl)) (by decide) (fun K hK => ?_)
                refine goesTs_ Try.func34 (by kernel_rfl) rfl #[.agg #[.int .i64 ((rd_T50 l0 x6_1).f0), .int .i64 ((rd_T50 l0 x6_1).f1), .int .i64 ((rd_T50 l0 x6_1).f2)], .agg #[.int .i64 x132000_1, .int .i64 x132001_1, .int .i64 x132002_1]] (by rfl) rfl rfl rfl (by (try simp only [List.map_toArray, List.map_cons, List.map_nil]); first | done | rfl | (simp only [List.length_drop, List.length_take]; rfl)) ?_
                with_reducible refine (writeback_compare.calls k1 ((rd_T50 l0 x6_1).f0) ((rd_T50 l0 x6_1).f1) ((rd_T50 l0 x6_1).f2) x132000_1 x132001_1 x132002_1 t133 _ A11.out).mono ?_
                rintro e w18 ⟨rfl, hb⟩
                refine ⟨_, rfl, ?_⟩
                have n0_ := Aside0.mk (blk_below (g := gb129) (o := .cells #[.int .i64 0, .int .i64 0, .int .i64 0] 50 (0, 0)) (by (with_reducible repeat (first | refine blk_drewN ?_ _ | refine blk_drew ?_ | refine blk_alloc ?_ _)); exact BK129.out) hb)
                have n1_ := Aside0.mk (blk_below (g := gb131) (o := .cells #[.int .i64 x132000_1, .int .i64 x132001_1, .int .i64 x132002_1] 50 (0, 0)) (by (with_reducible repeat (first | refine blk_drewN ?_ _ | refine blk_drew ?_ | refine blk_alloc ?_ _)); exact BK131.out) hb)
                have n2_ := Aside0.mk (below_step (by repeat (first | (with_reducible first | exact HB.out | apply below_alloc | apply pw_below_drewN | apply below_drew1 | refine below_set ?_ GE129.out | refine below_set ?_ GE131.out) | exact HB.out)) hb)
                clear BK129
                clear BK131
                clear HB
                have BK129 := n0_
                have BK131 := n1_
                have HB := n2_
                clear n0_ n1_ n2_
                (try clear hb)
                (try clear hb2)
                (try clear hk)
                (try clear hi)
                refine hK.out _ _ ⟨(blk_cell BK131.out 0).trans rfl, (blk_cell BK131.out 1).trans rfl, (blk_cell BK131.out 2).trans rfl, ((HB.out.cell (World.block_lt_of_cell? w _ hw132_0)).trans hw132_0), ((HB.out.cell (World.block_lt_of_cell? w _ hw132_1)).trans hw132_1), ((HB.out.cell (World.block_lt_of_cell? w _ hw132_2)).trans hw132_2)⟩ (fun hHeld => ?_)
                clear hK K
                refine norm_ (a' := ?_) ?_ ?_
                rotate_left
                · show Act.put _ (some 26) _ = _
                  simp only [Act.put, List.setIfInBounds_toArray, List.set_cons_zero, List.set_cons_succ, i64_w, i32_w]
                  rfl
                refine pure_ (i := 7) (N := some 27) (v := ?_) (a' := ?_) #[true, true, true, true, true, true, true, true] rfl rfl (any_of HT_.out (by kernel_rfl)) (fun _ _ _ h => h) (Or.inl ⟨by rfl, ?_⟩) ?_ ?_
                rotate_left
                · intro w'
                  go_simp
                  with_reducible rfl
                rotate_left
                · simp only [Act.put, List.setIfInBounds_toArray, List.set_cons_zero, List.set_cons_succ, i64_w, i32_w]
                  rfl
                refine done_ (done_of HT_.out (by kernel_rfl)) ?_
                try go_wp2
                go_roundg k1
                case measure => have := HK1.out; omega
                case rel => exact ⟨(wrap64 (x6_1 + 1)), (x132000_1), (x132001_1), (x132002_1), (by first | rfl | (simp; done) | (simp [*]; done)), H', ⟨by have := HK1.out; omega⟩, ⟨by (with_reducible repeat (first | refine blk_drewN ?_ _ | refine blk_drew ?_ | refine blk_alloc ?_ _)); exact BK129.out⟩, ⟨by (with_reducible repeat (first | refine blk_drewN ?_ _ | refine blk_drew ?_ | refine blk_alloc ?_ _)); exact BK131.out⟩, ⟨by repeat (first | (with_reducible first | exact HB.out | apply below_alloc | apply pw_below_drewN | apply below_drew1 | refine below_set ?_ GE129.out | refine below_set ?_ GE131.out) | exact HB.out)⟩⟩
            · rw [if_neg c10] at H
              exact absurd H (by simp)
          · rw [if_neg c9] at H
            have c9b0 : decide (x6_1 < (l0.length : Int)) = false := decide_eq_false c9
            clear c9
            simp only [Option.some.injEq, Prod.mk.injEq] at H
            obtain ⟨rfl, rfl, rfl⟩ := H
            have hnb19 := NB131_129.out
            have hnc19 := NB129_131.out
            have hcz20_0 : wr.cell? ⟨gb131, 0, none⟩ = some (.int .i64 x132000_1) := (blk_cell BK131.out 0).trans rfl
            have hcz20_1 : wr.cell? ⟨gb131, 1, none⟩ = some (.int .i64 x132001_1) := (blk_cell BK131.out 1).trans rfl
            have hcz20_2 : wr.cell? ⟨gb131, 2, none⟩ = some (.int .i64 x132002_1) := (blk_cell BK131.out 2).trans rfl
            have hfz20_0 := blk_frozen BK131.out 0
            have hfz20_1 := blk_frozen BK131.out 1
            have hfz20_2 := blk_frozen BK131.out 2
            have hcz21_0 : wr.cell? ⟨gb129, 0, none⟩ = some (.int .i64 0) := (blk_cell BK129.out 0).trans rfl
            have hcz21_1 : wr.cell? ⟨gb129, 1, none⟩ = some (.int .i64 0) := (blk_cell BK129.out 1).trans rfl
            have hcz21_2 : wr.cell? ⟨gb129, 2, none⟩ = some (.int .i64 0) := (blk_cell BK129.out 2).trans rfl
            have hfz21_0 := blk_frozen BK129.out 0
            have hfz21_1 := blk_frozen BK129.out 1
            have hfz21_2 := blk_frozen BK129.out 2
            go_wp2
            refine bodyPost_ret (results_cell_row rfl _ _ gb129 50 #[.int .i64 x132000_1, .int .i64 x132001_1, .int .i64 x132002_1] (0, 0) _ rfl (by (with_reducible repeat (first | refine blk_drewN ?_ _ | refine blk_drew ?_ | refine blk_alloc ?_ _)); refine blk_put (cs := #[.int .i64 x132000_1, .int .i64 x132001_1, .int .i64 0]) ?_ 2 _ rfl; (with_reducible repeat (first | refine blk_drewN ?_ _ | refine blk_drew ?_ | refine blk_alloc ?_ _)); refine blk_put (cs := #[.int .i64 x132000_1, .int .i64 0, .int .i64 0]) ?_ 1 _ rfl; (with_reducible repeat (first | refine blk_drewN ?_ _ | refine blk_drew ?_ | refine blk_alloc ?_ _)); refine blk_put (cs := #[.int .i64 0, .int .i64 0, .int .i64 0]) ?_ 0 _ rfl; (with_reducible repeat (first | refine blk_drewN ?_ _ | refine blk_drew ?_ | refine blk_alloc ?_ _)); exact BK129.out) Try.underlying50 rfl (by kernel_rfl)) rfl ?_
            exact ⟨by first | rfl | (simp [errW_none, errW_some] <;> rfl) | (simp [*, errW_none, errW_some] <;> rfl), by repeat (first | (with_reducible first | exact HB.out | apply below_alloc | apply pw_below_drewN | apply below_drew1 | refine below_set ?_ GE129.out | refine below_set ?_ GE131.out) | exact HB.out)⟩
    · rw [if_neg c4] at H
      exact absurd H (by simp)

/-! ### writeback_Next: function 30 -/
def writeback_Next.j0 : Nat → List (S50) → Bool → Option (Int)
  | 0, _, _ => none
  | k + 1, x0, x10 => if x10 = true then (some (-1)) else ((api_DirtyPage_56.f k x0).bind fun bt136 => ((api_DirtyPage_55.f k x0 bt136.1 bt136.2.1 bt136.2.2).bind fun t139 => (some t139)))
def writeback_Next.f (k : Nat) (l0 : List (S50)) : Option (Int) := if (l0.length : Int) = 0 then (writeback_Next.j0 k l0 true) else ((writeback_Check.f l0).bind fun t135 => (writeback_Next.j0 k l0 (t135 != 0)))
theorem writeback_Next.mono_l : ∀ k, (∀ y0 y1, LeO (writeback_Next.j0 k y0 y1) (writeback_Next.j0 (k + 1) y0 y1))
  | 0 => fun _ _ r h => by simp [writeback_Next.j0] at h
  | k + 1 => by
    have ih0 := writeback_Next.mono_l k
    · intro y0 y1
      unfold writeback_Next.j0
      repeat' first
      | (with_reducible exact ih0 _ _)
      | (with_reducible exact api_DirtyPage_55.mono _ _ _ _ _)
      | (with_reducible exact api_DirtyPage_56.mono _ _)
      | (with_reducible exact LeO.refl _)
      | (with_reducible exact LeO.none _)
      | (with_reducible refine LeO.ite ?_ ?_)
      | (with_reducible refine LeO.bind ?_ (fun _ => ?_))
      | exact ih0 _ _
      | exact api_DirtyPage_55.mono _ _ _ _ _
      | exact api_DirtyPage_56.mono _ _
      | exact LeO.none _
      | refine LeO.ite ?_ ?_
      | refine LeO.bind ?_ (fun _ => ?_)
theorem writeback_Next.mono : ∀ a0 k, LeO (writeback_Next.f k a0) (writeback_Next.f (k + 1) a0) := by
  intro a0 k
  have ih0 := writeback_Next.mono_l k
  unfold writeback_Next.f
  repeat' first
      | (with_reducible exact ih0 _ _)
      | (with_reducible exact api_DirtyPage_55.mono _ _ _ _ _)
      | (with_reducible exact api_DirtyPage_56.mono _ _)
      | (with_reducible exact LeO.refl _)
      | (with_reducible exact LeO.none _)
      | (with_reducible refine LeO.ite ?_ ?_)
      | (with_reducible refine LeO.bind ?_ (fun _ => ?_))
      | exact ih0 _ _
      | exact api_DirtyPage_55.mono _ _ _ _ _
      | exact api_DirtyPage_56.mono _ _
      | exact LeO.none _
      | refine LeO.ite ?_ ?_
      | refine LeO.bind ?_ (fun _ => ?_)
set_option maxHeartbeats 8000000 in
set_option maxRecDepth 100000 in
theorem writeback_Next.calls (k : Nat) (A0 : Option Addr) (c0 : Nat) (l0 : List (S50)) (r : Int) (w : World) (hr0 : Kd.C k50 w A0 l0.length l0) (hc0 : l0.length ≤ c0) (h : writeback_Next.f k l0 = some r) :
    Calls Try.prog 30 #[.slice A0 l0.length c0] w fun e w' => e = .returned (.int .i64 r) ∧ Below w.heap.size w w' := by
  have HR0 := Aside0.mk hr0
  have HC0 := Aside0.mk hc0
  clear hr0 hc0
  have HB := Aside0.mk (Below.refl w.heap.size w)
  have H : (if (l0.length : Int) = 0 then (writeback_Next.j0 k l0 true) else ((writeback_Check.f l0).bind fun t135 => (writeback_Next.j0 k l0 (t135 != 0)))) = some r := h
  clear h
  have HC2 := Aside0.mk H
  clear H
  go_enter Try.func30, Try.ntmps30
  go_upto_region 1 with (fail)
  go_cut [10] (fun v10 wc => ∃ (kq : Nat) (x10_1 : Bool), v10 = .bool x10_1 ∧ Aside0 (writeback_Next.j0 kq l0 x10_1 = some r) ∧ Aside0 (kq ≤ k) ∧ Aside0 (Below w.heap.size w wc))
  case first =>
    have H := HC2.out
    clear HC2
    by_cases c3 : (l0.length : Int) = 0
    · rw [if_pos c3] at H
      have c3b0 : ((l0.length : Int) == 0) = true := beq_iff_eq.mpr c3
      have c3b1 : ((l0.length : Int) != 0) = false := bne_eq_false_iff_eq.mpr c3
      clear c3
      (first | rw [c3b0] | (simp only [i64_w, i32_w]; rw [c3b0]) | skip)
      have H' := Aside0.mk H
      clear H
      go_wp2
      go_meet
      case rel => exact ⟨_, (true), (by first | rfl | (simp; done) | (simp [*]; done)), H', ⟨by first | omega | exact Nat.le_refl _⟩, ⟨by repeat (first | (with_reducible first | exact HB.out | apply below_alloc | apply pw_below_drewN | apply below_drew1) | exact HB.out)⟩⟩
    · rw [if_neg c3] at H
      have c3b0 : ((l0.length : Int) == 0) = false := beq_eq_false_iff_ne.mpr c3
      have c3b1 : ((l0.length : Int) != 0) = true := bne_iff_ne.mpr c3
      have c3b2 : ¬ (l0 = []) := fun h_ => c3 (by rw [h_]; rfl)
      (first | rw [c3b0] | (simp only [i64_w, i32_w]; rw [c3b0]) | skip)
      replace H := Option.bind_eq_some_iff.mp H
      obtain ⟨t135, A40, H⟩ := H
      replace H : (writeback_Next.j0 k l0 (t135 != 0)) = some r := H
      have A4 := Aside0.mk A40
      clear A40
      have H' := Aside0.mk H
      clear H
      go_wp2_with (first | (go_at_call 31; (with_reducible refine (writeback_Check.calls _ _ l0 t135 _ ?side1 ?side2 A4.out).mono ?_); (case side1 => repeat (first | exact (Kd.C_below HR0.out HB.out) | (with_reducible refine Kd.C_alloc ?_ _) | (with_reducible refine Kd.C_drewN ?_ _) | (with_reducible refine Kd.C_drew ?_))); (case side2 => exact HC0.out); rintro e w5 ⟨rfl, hb⟩; have n0_ := Aside0.mk (below_step (by repeat (first | (with_reducible first | exact HB.out | apply below_alloc | apply pw_below_drewN | apply below_drew1) | exact HB.out)) hb); clear HB; have HB := n0_; clear n0_; (try clear hb); (try clear hb2); (try clear hk); (try clear hi)))
      go_meet
      case rel => exact ⟨_, ((t135 != 0)), (by first | rfl | (simp; done) | (simp [*]; done)), H', ⟨by first | omega | exact Nat.le_refl _⟩, ⟨by repeat (first | (with_reducible first | exact HB.out | apply below_alloc | apply pw_below_drewN | apply below_drew1) | exact HB.out)⟩⟩
  case rest =>
    clear HC2
    try clear p2
    try clear c3
    try clear c3b0
    try clear c3b1
    try clear c3b2
    obtain ⟨kq, x10_1, rfl, HA, HJ1, HB⟩ := hcut
    cases kq with
    | zero => exact absurd HA.out (by simp [writeback_Next.j0])
    | succ kj1 =>
      have H := HA.out
      clear HA
      simp only [writeback_Next.j0] at H
      by_cases c6 : x10_1 = true
      · subst c6
        have H1 : (some (-1)) = some r := by rw [if_pos rfl] at H; exact H
        clear H
        have H := H1
        clear H1
        obtain rfl := Option.some.inj H
        go_wp2
        go_ret
        exact ⟨by first | rfl | (simp [errW_none, errW_some] <;> rfl) | (simp [*, errW_none, errW_some] <;> rfl), by repeat (first | (with_reducible first | exact HB.out | apply below_alloc | apply pw_below_drewN | apply below_drew1) | exact HB.out)⟩
      · replace c6 := Bool.eq_false_iff.mpr c6
        subst c6
        have H1 : ((api_DirtyPage_56.f kj1 l0).bind fun bt136 => ((api_DirtyPage_55.f kj1 l0 bt136.1 bt136.2.1 bt136.2.2).bind fun t139 => (some t139))) = some r := by rw [if_neg (show ¬ (false = true) by decide)] at H; exact H
        clear H
        have H := H1
        clear H1
        replace H := Option.bind_eq_some_iff.mp H
        obtain ⟨⟨t136, t137, t138⟩, A70, H⟩ := H
        replace H : ((api_DirtyPage_55.f kj1 l0 t136 t137 t138).bind fun t139 => (some t139)) = some r := H
        have A7 := Aside0.mk A70
        clear A70
        replace H := Option.bind_eq_some_iff.mp H
        obtain ⟨t139, A80, H⟩ := H
        replace H : (some t139) = some r := H
        have A8 := Aside0.mk A80
        clear A80
        obtain rfl := Option.some.inj H
        go_wp2_with (first | ((with_reducible refine gate_callee (f := 56) rfl ?_); refine goesL_ (some 13) rfl rfl Try.func56 (by kernel_rfl) rfl #[.slice A0 l0.length c0, .func (.func 34) #[] #[]] rfl (by (try simp only [List.map_toArray, List.map_cons, List.map_nil]); first | done | rfl | (simp only [List.length_drop, List.length_take]; rfl)) ?_; (with_reducible refine (api_DirtyPage_56.calls kj1 _ _ l0  t136 t137 t138 _ ?side1 ?side2 A7.out).mono ?_); (case side1 => repeat (first | exact (Kd.C_below HR0.out HB.out) | (with_reducible refine Kd.C_alloc ?_ _) | (with_reducible refine Kd.C_drewN ?_ _) | (with_reducible refine Kd.C_drew ?_))); (case side2 => exact HC0.out); rintro e w9 ⟨rfl, hb⟩; refine ⟨_, rfl, ?_⟩; have n0_ := Aside0.mk (below_step (by repeat (first | (with_reducible first | exact HB.out | apply below_alloc | apply pw_below_drewN | apply below_drew1) | exact HB.out)) hb); clear HB; have HB := n0_; clear n0_; (try clear hb); (try clear hb2); (try clear hk); (try clear hi)) | ((with_reducible refine gate_callee (f := 55) rfl ?_); refine goesL_ (some 14) rfl rfl Try.func55 (by kernel_rfl) rfl #[.slice A0 l0.length c0, .agg #[.int .i64 t136, .int .i64 t137, .int .i64 t138]] rfl (by (try simp only [List.map_toArray, List.map_cons, List.map_nil]); first | done | rfl | (simp only [List.length_drop, List.length_take]; rfl)) ?_; (with_reducible refine (api_DirtyPage_55.calls kj1 _ _ l0 t136 t137 t138 t139 _ ?side1 ?side2 A8.out).mono ?_); (case side1 => repeat (first | exact (Kd.C_below HR0.out HB.out) | (with_reducible refine Kd.C_alloc ?_ _) | (with_reducible refine Kd.C_drewN ?_ _) | (with_reducible refine Kd.C_drew ?_))); (case side2 => exact HC0.out); rintro e w10 ⟨rfl, hb⟩; refine ⟨_, rfl, ?_⟩; have n0_ := Aside0.mk (below_step (by repeat (first | (with_reducible first | exact HB.out | apply below_alloc | apply pw_below_drewN | apply below_drew1) | exact HB.out)) hb); clear HB; have HB := n0_; clear n0_; (try clear hb); (try clear hb2); (try clear hk); (try clear hi)))
        go_ret
        exact ⟨by first | rfl | (simp [errW_none, errW_some] <;> rfl) | (simp [*, errW_none, errW_some] <;> rfl), by repeat (first | (with_reducible first | exact HB.out | apply below_alloc | apply pw_below_drewN | apply below_drew1) | exact HB.out)⟩

/-! ### estoverstop_awake16: function 12 -/
def estoverstop_awake16.f (k : Nat)  : Option (Bool) := (some (([(⟨0, 0, 5⟩ : S50), (⟨0, 1, 3⟩ : S50)] : List (S50)) : List (S50))).bind fun y140 => ((writeback_Order.f y140).bind fun bt143 => ((some (([(⟨4, 0, 0, 0, 0, 0, 0, 0, 0, 5, true, false, false, 0, ([] : List (S153)), ([] : List Int)⟩ : S48), (⟨4, 0, 0, 0, 0, 1, 0, 0, 0, 3, true, false, false, 0, ([] : List (S153)), ([] : List Int)⟩ : S48)] : List (S48)) : List (S48))).bind fun y147 => (if bt143.2 = 0 then (if (bt143.1.length : Int) = 2 then (if 0 < (bt143.1.length : Int) then (if ((rd_T50 bt143.1 0).f2) = 3 then ((writeback_Next.f k y140).bind fun t151 => (if t151 = 1 then ((throttle_Oldest.f k y147).bind fun t152 => (if t152 = 1 then ((throttle_Count.f k y147).bind fun t153 => (some (t153 == 2))) else (none))) else (none))) else (none)) else (none)) else (none)) else (none))))
theorem estoverstop_awake16.mono : ∀ k, LeO (estoverstop_awake16.f k ) (estoverstop_awake16.f (k + 1) ) := by
  intro  k
  unfold estoverstop_awake16.f
  repeat' first
      | (with_reducible exact throttle_Count.mono _ _)
      | (with_reducible exact throttle_Oldest.mono _ _)
      | (with_reducible exact writeback_Next.mono _ _)
      | (with_reducible exact LeO.refl _)
      | (with_reducible exact LeO.none _)
      | (with_reducible refine LeO.ite ?_ ?_)
      | (with_reducible refine LeO.bind ?_ (fun _ => ?_))
      | exact throttle_Count.mono _ _
      | exact throttle_Oldest.mono _ _
      | exact writeback_Next.mono _ _
      | exact LeO.none _
      | refine LeO.ite ?_ ?_
      | refine LeO.bind ?_ (fun _ => ?_)
set_option maxHeartbeats 8000000 in
set_option maxRecDepth 100000 in
theorem estoverstop_awake16.calls (k : Nat)  (r : Bool) (w : World) (h : estoverstop_awake16.f k  = some r) :
    Calls Try.prog 12 #[] w fun e w' => e = .returned (.bool r) ∧ Below w.heap.size w w' := by
  have hu50 := Try.underlying50
  have hu48 := Try.underlying48
  have HB := Aside0.mk (Below.refl w.heap.size w)
  have H : ((some (([(⟨0, 0, 5⟩ : S50), (⟨0, 1, 3⟩ : S50)] : List (S50)) : List (S50))).bind fun y140 => ((writeback_Order.f y140).bind fun bt143 => ((some (([(⟨4, 0, 0, 0, 0, 0, 0, 0, 0, 5, true, false, false, 0, ([] : List (S153)), ([] : List Int)⟩ : S48), (⟨4, 0, 0, 0, 0, 1, 0, 0, 0, 3, true, false, false, 0, ([] : List (S153)), ([] : List Int)⟩ : S48)] : List (S48)) : List (S48))).bind fun y147 => (if bt143.2 = 0 then (if (bt143.1.length : Int) = 2 then (if 0 < (bt143.1.length : Int) then (if ((rd_T50 bt143.1 0).f2) = 3 then ((writeback_Next.f k y140).bind fun t151 => (if t151 = 1 then ((throttle_Oldest.f k y147).bind fun t152 => (if t152 = 1 then ((throttle_Count.f k y147).bind fun t153 => (some (t153 == 2))) else (none))) else (none))) else (none)) else (none)) else (none)) else (none))))) = some r := h
  clear h
  obtain ⟨y140, hy140⟩ : ∃ y_ : List (S50), y_ = (([(⟨0, 0, 5⟩ : S50), (⟨0, 1, 3⟩ : S50)] : List (S50))) := ⟨_, rfl⟩
  replace H : ((writeback_Order.f y140).bind fun bt143 => ((some (([(⟨4, 0, 0, 0, 0, 0, 0, 0, 0, 5, true, false, false, 0, ([] : List (S153)), ([] : List Int)⟩ : S48), (⟨4, 0, 0, 0, 0, 1, 0, 0, 0, 3, true, false, false, 0, ([] : List (S153)), ([] : List Int)⟩ : S48)] : List (S48)) : List (S48))).bind fun y147 => (if bt143.2 = 0 then (if (bt143.1.length : Int) = 2 then (if 0 < (bt143.1.length : Int) then (if ((rd_T50 bt143.1 0).f2) = 3 then ((writeback_Next.f k y140).bind fun t151 => (if t151 = 1 then ((throttle_Oldest.f k y147).bind fun t152 => (if t152 = 1 then ((throttle_Count.f k y147).bind fun t153 => (some (t153 == 2))) else (none))) else (none))) else (none)) else (none)) else (none)) else (none)))) = some r := by first | (rw [hy140]; with_reducible exact H) | (have H2_ := (Option.bind_some _ _).symm.trans H; rw [hy140]; with_reducible exact H2_) | (have H2_ := (Option.bind_some _ _).symm.trans H; with_reducible exact H2_) | with_reducible exact H | (rw [hy140]; exact H) | exact H
  have Ny140 := Aside0.mk hy140
  clear hy140
  replace H := Option.bind_eq_some_iff.mp H
  obtain ⟨⟨t143, t144⟩, A10, H⟩ := H
  replace H : ((some (([(⟨4, 0, 0, 0, 0, 0, 0, 0, 0, 5, true, false, false, 0, ([] : List (S153)), ([] : List Int)⟩ : S48), (⟨4, 0, 0, 0, 0, 1, 0, 0, 0, 3, true, false, false, 0, ([] : List (S153)), ([] : List Int)⟩ : S48)] : List (S48)) : List (S48))).bind fun y147 => (if t144 = 0 then (if (t143.length : Int) = 2 then (if 0 < (t143.length : Int) then (if ((rd_T50 t143 0).f2) = 3 then ((writeback_Next.f k y140).bind fun t151 => (if t151 = 1 then ((throttle_Oldest.f k y147).bind fun t152 => (if t152 = 1 then ((throttle_Count.f k y147).bind fun t153 => (some (t153 == 2))) else (none))) else (none))) else (none)) else (none)) else (none)) else (none))) = some r := H
  have A1 := Aside0.mk A10
  clear A10
  obtain ⟨y147, hy147⟩ : ∃ y_ : List (S48), y_ = (([(⟨4, 0, 0, 0, 0, 0, 0, 0, 0, 5, true, false, false, 0, ([] : List (S153)), ([] : List Int)⟩ : S48), (⟨4, 0, 0, 0, 0, 1, 0, 0, 0, 3, true, false, false, 0, ([] : List (S153)), ([] : List Int)⟩ : S48)] : List (S48))) := ⟨_, rfl⟩
  replace H : (if t144 = 0 then (if (t143.length : Int) = 2 then (if 0 < (t143.length : Int) then (if ((rd_T50 t143 0).f2) = 3 then ((writeback_Next.f k y140).bind fun t151 => (if t151 = 1 then ((throttle_Oldest.f k y147).bind fun t152 => (if t152 = 1 then ((throttle_Count.f k y147).bind fun t153 => (some (t153 == 2))) else (none))) else (none))) else (none)) else (none)) else (none)) else (none)) = some r := by first | (rw [hy147]; with_reducible exact H) | (have H2_ := (Option.bind_some _ _).symm.trans H; rw [hy147]; with_reducible exact H2_) | (have H2_ := (Option.bind_some _ _).symm.trans H; with_reducible exact H2_) | with_reducible exact H | (rw [hy147]; exact H) | exact H
  have Ny147 := Aside0.mk hy147
  clear hy147
  by_cases c2 : t144 = 0
  · rw [if_pos c2] at H
    have c2b0 : (t144 == 0) = true := beq_iff_eq.mpr c2
    have c2b1 : (t144 != 0) = false := bne_eq_false_iff_eq.mpr c2
    clear c2
    by_cases c3 : (t143.length : Int) = 2
    · rw [if_pos c3] at H
      have c3b0 : ((t143.length : Int) == 2) = true := beq_iff_eq.mpr c3
      have c3b1 : ((t143.length : Int) != 2) = false := bne_eq_false_iff_eq.mpr c3
      clear c3
      by_cases c4 : 0 < (t143.length : Int)
      · rw [if_pos c4] at H
        have c4b0 : decide (0 < (t143.length : Int)) = true := decide_eq_true c4
        have c4b1 : decide (0 < t143.length) = true := decide_eq_true (by omega)
        clear c4
        by_cases c5 : ((rd_T50 t143 0).f2) = 3
        · rw [if_pos c5] at H
          have c5b0 : (((rd_T50 t143 0).f2) == 3) = true := beq_iff_eq.mpr c5
          have c5b1 : (((rd_T50 t143 0).f2) != 3) = false := bne_eq_false_iff_eq.mpr c5
          clear c5
          replace H := Option.bind_eq_some_iff.mp H
          obtain ⟨t151, A60, H⟩ := H
          replace H : (if t151 = 1 then ((throttle_Oldest.f k y147).bind fun t152 => (if t152 = 1 then ((throttle_Count.f k y147).bind fun t153 => (some (t153 == 2))) else (none))) else (none)) = some r := H
          have A6 := Aside0.mk A60
          clear A60
          by_cases c7 : t151 = 1
          · rw [if_pos c7] at H
            have c7b0 : (t151 == 1) = true := beq_iff_eq.mpr c7
            have c7b1 : (t151 != 1) = false := bne_eq_false_iff_eq.mpr c7
            clear c7
            replace H := Option.bind_eq_some_iff.mp H
            obtain ⟨t152, A80, H⟩ := H
            replace H : (if t152 = 1 then ((throttle_Count.f k y147).bind fun t153 => (some (t153 == 2))) else (none)) = some r := H
            have A8 := Aside0.mk A80
            clear A80
            by_cases c9 : t152 = 1
            · rw [if_pos c9] at H
              have c9b0 : (t152 == 1) = true := beq_iff_eq.mpr c9
              have c9b1 : (t152 != 1) = false := bne_eq_false_iff_eq.mpr c9
              clear c9
              replace H := Option.bind_eq_some_iff.mp H
              obtain ⟨t153, A100, H⟩ := H
              replace H : (some (t153 == 2)) = some r := H
              have A10 := Aside0.mk A100
              clear A100
              obtain rfl := Option.some.inj H
              go_enter Try.func12, Try.ntmps12
              go_wp2_with (first | ((with_reducible refine gate_dst (N := 7) rfl ?_); (try (refine gate_guard (by rfl) ?_; dsimp only)); refine Kd.R_lit k50 _ 50 ?hg (N := 7) ?hd (xs := ([(⟨0, 0, 5⟩ : S50), (⟨0, 1, 3⟩ : S50)] : List (S50))) (inner := [.int .i64 0, .int .i64 0, .int .i64 5, .int .i64 0, .int .i64 1, .int .i64 3]) (ok := fun _ => True) (okp := fun _ => True) ?hr ?hp (fun _ hk => hk) trivial (Below.refl _ _) (Nat.le_refl _) (by simp) ?_; (case hd => rfl); (case hg => rfl); (case hr => first | (go_simp; done) | (go_simp; rfl)); (case hp => exact (Reps.c3 (show Kd.M k50 _ _ _ (⟨0, 0, 5⟩ : S50) [.int .i64 0, .int .i64 0, .int .i64 5] from (k50_mkM _ _ _ (⟨0, 0, 5⟩ : S50) )) (Reps.c3 (show Kd.M k50 _ _ _ (⟨0, 1, 3⟩ : S50) [.int .i64 0, .int .i64 1, .int .i64 3] from (k50_mkM _ _ _ (⟨0, 1, 3⟩ : S50) )) (Reps.none _ _)))); intro v141 w11 ho12 hb hg_ hnew_; clear hg_ hnew_; (first | rw [← Ny140.out] at ho12 | (simp only [Int.reduceToNat] at ho12; rw [← Ny140.out] at ho12)); have n0_ := Aside0.mk (Kd.R_lower ho12 (below_size (by repeat (first | (with_reducible first | exact HB.out | apply below_alloc | apply pw_below_drewN | apply below_drew1) | exact HB.out)))); have n1_ := Aside0.mk (below_step (by repeat (first | (with_reducible first | exact HB.out | apply below_alloc | apply pw_below_drewN | apply below_drew1) | exact HB.out)) hb); clear HB; have HO142 := n0_; have HB := n1_; clear n0_ n1_; clear hb ho12; obtain ⟨Ao13, co13, eo13⟩ := Kd.R_slice HO142.out; subst eo13) | ((with_reducible refine gate_callee (f := 14) rfl ?_); refine goesL_ (some 10) rfl rfl Try.func14 (by kernel_rfl) rfl #[.slice Ao13 y140.length co13] rfl (by (try simp only [List.map_toArray, List.map_cons, List.map_nil]); first | done | rfl | (simp only [List.length_drop, List.length_take]; rfl)) ?_; (with_reducible refine (writeback_Order.calls _ _ y140 t143 t144 _ ?side1 ?side2 A1.out).mono ?_); (case side1 => repeat (first | exact (Kd.R_reads' HO142.out).2.2 | (with_reducible refine Kd.C_alloc ?_ _) | (with_reducible refine Kd.C_drewN ?_ _) | (with_reducible refine Kd.C_drew ?_))); (case side2 => exact (Kd.R_reads' HO142.out).2.1); rintro e w14 ⟨v145, rfl, ho0, hb⟩; refine ⟨_, rfl, ?_⟩; have n0_ := Aside0.mk (Kd.R_elder' (by (with_reducible repeat (first | apply Kd.R_alloc | apply Kd.R_drewN | apply Kd.R_drew)); exact HO142.out) (Kd.R_base ho0) hb); have n1_ := Aside0.mk (Kd.R_lower (Kd.R_new' ho0 (Kd.R_lt (by (with_reducible repeat (first | apply Kd.R_alloc | apply Kd.R_drewN | apply Kd.R_drew)); exact HO142.out))) (below_size (by repeat (first | (with_reducible first | exact HB.out | apply below_alloc | apply pw_below_drewN | apply below_drew1) | exact HB.out)))); have n2_ := Aside0.mk (below_step (by repeat (first | (with_reducible first | exact HB.out | apply below_alloc | apply pw_below_drewN | apply below_drew1) | exact HB.out)) hb); clear HO142; clear HB; have HO142 := n0_; have HO146 := n1_; have HB := n2_; clear n0_ n1_ n2_; (try clear hb); (try clear hb2); (try clear hk); (try clear hi); (try clear ho0)) | ((with_reducible refine gate_dst (N := 15) rfl ?_); (try (refine gate_guard (by rfl) ?_; dsimp only)); refine Kd.S_lit k48 _ 48 ?hg (N := 15) ?hd (xs := ([(⟨4, 0, 0, 0, 0, 0, 0, 0, 0, 5, true, false, false, 0, ([] : List (S153)), ([] : List Int)⟩ : S48), (⟨4, 0, 0, 0, 0, 1, 0, 0, 0, 3, true, false, false, 0, ([] : List (S153)), ([] : List Int)⟩ : S48)] : List (S48))) (inner := [.int .i64 4, .int .i64 0, .int .i64 0, .int .i64 0, .int .i64 0, .int .i64 0, .int .i64 0, .int .i64 0, .int .i64 0, .int .i64 5, .bool true, .bool false, .bool false, .int .i64 0, .slice none 0 0, .slice none 0 0, .int .i64 4, .int .i64 0, .int .i64 0, .int .i64 0, .int .i64 0, .int .i64 1, .int .i64 0, .int .i64 0, .int .i64 0, .int .i64 3, .bool true, .bool false, .bool false, .int .i64 0, .slice none 0 0, .slice none 0 0]) (ok := fun _ => True) (okp := fun _ => True) ?hr ?hp (fun _ hk => hk) trivial (Below.refl _ _) (Nat.le_refl _) (by simp) ?_; (case hd => rfl); (case hg => rfl); (case hr => first | (go_simp; done) | (go_simp; rfl)); (case hp => exact (Reps.front (show Kd.M k48 _ _ _ (⟨4, 0, 0, 0, 0, 0, 0, 0, 0, 5, true, false, false, 0, ([] : List (S153)), ([] : List Int)⟩ : S48) [.int .i64 4, .int .i64 0, .int .i64 0, .int .i64 0, .int .i64 0, .int .i64 0, .int .i64 0, .int .i64 0, .int .i64 0, .int .i64 5, .bool true, .bool false, .bool false, .int .i64 0, .slice none 0 0, .slice none 0 0] from (k48_mkM _ _ _ (⟨4, 0, 0, 0, 0, 0, 0, 0, 0, 5, true, false, false, 0, ([] : List (S153)), ([] : List Int)⟩ : S48) (Kd.R_nil _ _ _ _ _) (Kd.R_nil _ _ _ _ _))) rfl (Reps.front (show Kd.M k48 _ _ _ (⟨4, 0, 0, 0, 0, 1, 0, 0, 0, 3, true, false, false, 0, ([] : List (S153)), ([] : List Int)⟩ : S48) [.int .i64 4, .int .i64 0, .int .i64 0, .int .i64 0, .int .i64 0, .int .i64 1, .int .i64 0, .int .i64 0, .int .i64 0, .int .i64 3, .bool true, .bool false, .bool false, .int .i64 0, .slice none 0 0, .slice none 0 0] from (k48_mkM _ _ _ (⟨4, 0, 0, 0, 0, 1, 0, 0, 0, 3, true, false, false, 0, ([] : List (S153)), ([] : List Int)⟩ : S48) (Kd.R_nil _ _ _ _ _) (Kd.R_nil _ _ _ _ _))) rfl (Reps.none _ _) rfl) rfl)); intro v148 w15 ho16 hb hg_ hnew_; clear hg_ hnew_; (first | rw [← Ny147.out] at ho16 | (simp only [Int.reduceToNat] at ho16; rw [← Ny147.out] at ho16)); have n0_ := Aside0.mk (Kd.R_below (by (with_reducible repeat (first | apply Kd.R_alloc | apply Kd.R_drewN | apply Kd.R_drew)); exact HO142.out) hb); have n1_ := Aside0.mk (Kd.R_below (by (with_reducible repeat (first | apply Kd.R_alloc | apply Kd.R_drewN | apply Kd.R_drew)); exact HO146.out) hb); have n2_ := Aside0.mk (Kd.S_lower ho16 (below_size (by repeat (first | (with_reducible first | exact HB.out | apply below_alloc | apply pw_below_drewN | apply below_drew1) | exact HB.out)))); have n3_ := Aside0.mk (below_step (by repeat (first | (with_reducible first | exact HB.out | apply below_alloc | apply pw_below_drewN | apply below_drew1) | exact HB.out)) hb); clear HO142; clear HO146; clear HB; have HO142 := n0_; have HO146 := n1_; have HO149 := n2_; have HB := n3_; clear n0_ n1_ n2_ n3_; clear hb ho16; obtain ⟨Ao17, co17, eo17⟩ := Kd.R_slice HO146.out; subst eo17; have p150 : 0 ≤ (0 : Int) := (by omega); have q150 : 0 < (t143.length : Int) := of_decide_eq_true (by first | (with_reducible assumption) | assumption); obtain ⟨ad150, e150, hx150_0, hx150_1, hx150_2⟩ := at_T50 (Kd.R_reads' HO146.out).2.2 0 p150 q150; cases e150; have qi150 : (0 < t143.length) = True := eq_true (by omega); (try rw [show ((0 : Int)).toNat = 0 from rfl] at hx150_0); (try rw [show 0 * 3 = 0 from rfl] at hx150_0); (try rw [Addr.add_zero'] at hx150_0); (try rw [show ((0 : Int)).toNat = 0 from rfl] at hx150_1); (try rw [show 0 * 3 = 0 from rfl] at hx150_1); (try rw [Addr.add_zero'] at hx150_1); (try rw [show ((0 : Int)).toNat = 0 from rfl] at hx150_2); (try rw [show 0 * 3 = 0 from rfl] at hx150_2); (try rw [Addr.add_zero'] at hx150_2); replace p150 := eq_true p150; replace q150 := eq_true q150) | (go_at_call 30; (with_reducible refine (writeback_Next.calls k _ _ y140 t151 _ ?side1 ?side2 A6.out).mono ?_); (case side1 => repeat (first | exact (Kd.R_reads' HO142.out).2.2 | (with_reducible refine Kd.C_alloc ?_ _) | (with_reducible refine Kd.C_drewN ?_ _) | (with_reducible refine Kd.C_drew ?_))); (case side2 => exact (Kd.R_reads' HO142.out).2.1); rintro e w18 ⟨rfl, hb⟩; have n0_ := Aside0.mk (Kd.R_below (by (with_reducible repeat (first | apply Kd.R_alloc | apply Kd.R_drewN | apply Kd.R_drew)); exact HO142.out) hb); have n1_ := Aside0.mk (Kd.R_below (by (with_reducible repeat (first | apply Kd.R_alloc | apply Kd.R_drewN | apply Kd.R_drew)); exact HO146.out) hb); have n2_ := Aside0.mk (Kd.S_below (by (with_reducible repeat (first | apply Kd.S_alloc | apply Kd.S_drewN | apply Kd.S_drew)); exact HO149.out) hb); have n3_ := Aside0.mk (below_step (by repeat (first | (with_reducible first | exact HB.out | apply below_alloc | apply pw_below_drewN | apply below_drew1) | exact HB.out)) hb); clear HO142; clear HO146; clear HO149; clear HB; have HO142 := n0_; have HO146 := n1_; have HO149 := n2_; have HB := n3_; clear n0_ n1_ n2_ n3_; (try clear hb); (try clear hb2); (try clear hk); (try clear hi); obtain ⟨Ao19, co19, eo19⟩ := Kd.S_slice HO149.out; subst eo19) | (go_at_call 16; (with_reducible refine (throttle_Oldest.calls k _ _ y147 t152 _ ?side1 ?side2 A8.out).mono ?_); (case side1 => repeat (first | exact (Kd.S_reads' HO149.out).2.2 | (with_reducible refine Kd.C_alloc ?_ _) | (with_reducible refine Kd.C_drewN ?_ _) | (with_reducible refine Kd.C_drew ?_))); (case side2 => exact (Kd.S_reads' HO149.out).2.1); rintro e w20 ⟨rfl, hb⟩; have n0_ := Aside0.mk (Kd.R_below (by (with_reducible repeat (first | apply Kd.R_alloc | apply Kd.R_drewN | apply Kd.R_drew)); exact HO142.out) hb); have n1_ := Aside0.mk (Kd.R_below (by (with_reducible repeat (first | apply Kd.R_alloc | apply Kd.R_drewN | apply Kd.R_drew)); exact HO146.out) hb); have n2_ := Aside0.mk (Kd.S_below (by (with_reducible repeat (first | apply Kd.S_alloc | apply Kd.S_drewN | apply Kd.S_drew)); exact HO149.out) hb); have n3_ := Aside0.mk (below_step (by repeat (first | (with_reducible first | exact HB.out | apply below_alloc | apply pw_below_drewN | apply below_drew1) | exact HB.out)) hb); clear HO142; clear HO146; clear HO149; clear HB; have HO142 := n0_; have HO146 := n1_; have HO149 := n2_; have HB := n3_; clear n0_ n1_ n2_ n3_; (try clear hb); (try clear hb2); (try clear hk); (try clear hi)) | (go_at_call 15; (with_reducible refine (throttle_Count.calls k _ _ y147 t153 _ ?side1 ?side2 A10.out).mono ?_); (case side1 => repeat (first | exact (Kd.S_reads' HO149.out).2.2 | (with_reducible refine Kd.C_alloc ?_ _) | (with_reducible refine Kd.C_drewN ?_ _) | (with_reducible refine Kd.C_drew ?_))); (case side2 => exact (Kd.S_reads' HO149.out).2.1); rintro e w21 ⟨rfl, hb⟩; have n0_ := Aside0.mk (Kd.R_below (by (with_reducible repeat (first | apply Kd.R_alloc | apply Kd.R_drewN | apply Kd.R_drew)); exact HO142.out) hb); have n1_ := Aside0.mk (Kd.R_below (by (with_reducible repeat (first | apply Kd.R_alloc | apply Kd.R_drewN | apply Kd.R_drew)); exact HO146.out) hb); have n2_ := Aside0.mk (Kd.S_below (by (with_reducible repeat (first | apply Kd.S_alloc | apply Kd.S_drewN | apply Kd.S_drew)); exact HO149.out) hb); have n3_ := Aside0.mk (below_step (by repeat (first | (with_reducible first | exact HB.out | apply below_alloc | apply pw_below_drewN | apply below_drew1) | exact HB.out)) hb); clear HO142; clear HO146; clear HO149; clear HB; have HO142 := n0_; have HO146 := n1_; have HO149 := n2_; have HB := n3_; clear n0_ n1_ n2_ n3_; (try clear hb); (try clear hb2); (try clear hk); (try clear hi)))
              go_ret
              exact ⟨by first | rfl | (simp [errW_none, errW_some] <;> rfl) | (simp [*, errW_none, errW_some] <;> rfl), by repeat (first | (with_reducible first | exact HB.out | apply below_alloc | apply pw_below_drewN | apply below_drew1) | exact HB.out)⟩
            · rw [if_neg c9] at H
              exact absurd H (by simp)
          · rw [if_neg c7] at H
            exact absurd H (by simp)
        · rw [if_neg c5] at H
          exact absurd H (by simp)
      · rw [if_neg c4] at H
        exact absurd H (by simp)
    · rw [if_neg c3] at H
      exact absurd H (by simp)
  · rw [if_neg c2] at H
    exact absurd H (by simp)

/-! ### estoverstop_dirtyFrames: function 13 -/
/-- One sketch: a page that has not come yet is kept as a frame, and as a dirty page if it is dirty. -/
def dfStep (s : List Bool × List S48 × List S50) (x : S77) : List Bool × List S48 × List S50 :=
  if s.1.getD (x.f0 % 4 * 16 + x.f1 % 16).toNat false = true then s else
    (s.1.set (x.f0 % 4 * 16 + x.f1 % 16).toNat true, s.2.1 ++ [⟨4, 0, 0, 0, x.f0 % 4, x.f1 % 16, 0, 0, 0, x.f2, !x.f3, false, false, 0, [], []⟩], if x.f3 = true then s.2.2 else s.2.2 ++ [⟨x.f0 % 4, x.f1 % 16, x.f2⟩])
def dfAt (l : List S77) (n : Nat) : List Bool × List S48 × List S50 := (l.take n).foldl dfStep (List.replicate 64 false, [], [])
def estoverstop_dirtyFrames.f (l0 : List S77) : Option (List S48 × List S50) := if (∀ x ∈ l0, (0 ≤ x.f0 ∧ x.f0 ≤ 255) ∧ (0 ≤ x.f1 ∧ x.f1 ≤ 255) ∧ (0 ≤ x.f2 ∧ x.f2 ≤ 255)) ∧ l0.length ≤ 1000 then some (dfAt l0 l0.length).2 else none
theorem dfAt_len (l : List S77) : ∀ n, n ≤ l.length → (dfAt l n).1.length = 64 ∧ (dfAt l n).2.1.length ≤ n ∧ (dfAt l n).2.2.length ≤ n := by
  intro n
  induction n with
  | zero => intro _; exact ⟨by simp [dfAt], by simp [dfAt], by simp [dfAt]⟩
  | succ n ih =>
    intro hn
    obtain ⟨h1, h2, h3⟩ := ih (by omega)
    have he : dfAt l (n + 1) = dfStep (dfAt l n) (l[n]'(by omega)) := by
      unfold dfAt
      rw [List.take_succ_eq_append_getElem (by omega), List.foldl_append]
      rfl
    rw [he]
    unfold dfStep
    split
    · exact ⟨h1, by omega, by omega⟩
    · refine ⟨by simpa using h1, by simp; omega, ?_⟩
      simp only
      split
      · omega
      · simp; omega
theorem rd_get77 (l0 : List S77) (j : Nat) (hj : j < l0.length) : rd_T77 l0 (j : Nat) = l0[j] := by
  unfold rd_T77
  rw [Int.toNat_natCast, List.getD_eq_getElem?_getD, List.getElem?_eq_getElem hj]
  rfl
theorem dfAt_succ (l : List S77) {i : Int} (h0 : 0 ≤ i) (h1 : i < (l.length : Int)) : dfAt l (i + 1).toNat = dfStep (dfAt l i.toNat) (rd_T77 l i) := by
  have e : (i + 1).toNat = i.toNat + 1 := by omega
  have hn : i.toNat < l.length := by omega
  have h2 := rd_get77 l i.toNat hn
  rw [Int.toNat_of_nonneg h0] at h2
  rw [e, h2]
  unfold dfAt
  rw [List.take_succ_eq_append_getElem hn, List.foldl_append]
  rfl
theorem df_w64 {x : Int} (h0 : 0 ≤ x) (h1 : x ≤ 100000) : wrap64 x = x := by
  unfold wrap64
  omega
theorem df_i64 {x : Int} (h0 : 0 ≤ x) (h1 : x ≤ 100000) : IntKind.i64.wrap x = x := by
  rw [IntKind.wrap_i64]
  omega
theorem df_u8 {x : Int} (h0 : 0 ≤ x) (h1 : x ≤ 255) : IntKind.u8.wrap x = x := by
  rw [IntKind.wrap_u8]
  omega
theorem df_mod {x : Int} (m : Int) (h0 : 0 ≤ x) : Int.tmod x m = x % m := Int.tmod_eq_emod_of_nonneg h0
theorem store4 {w w5 : World} {gx t : Nat} (v0 v1 v2 v3 : Value) (hb : Below w.heap.size w w5) (hg : w.heap.size ≤ gx) {c0 c1 c2 c3 : Value} (hx : w5.heap[gx]? = some (.cells #[c0, c1, c2, c3] t (0, 0))) :
    ∃ w6, w6 = (((w5.setCell ⟨gx, 0, none⟩ v0).setCell ⟨gx, 1, none⟩ v1).setCell ⟨gx, 2, none⟩ v2).setCell ⟨gx, 3, none⟩ v3 ∧
      Below w.heap.size w w6 ∧ w6.heap[gx]? = some (.cells #[v0, v1, v2, v3] t (0, 0)) :=
  ⟨_, rfl, (((hb.setCell (p := ⟨gx, 0, none⟩) hg _).setCell (p := ⟨gx, 1, none⟩) hg _).setCell (p := ⟨gx, 2, none⟩) hg _).setCell (p := ⟨gx, 3, none⟩) hg _, blk_put (blk_put (blk_put (blk_put hx 0 _ rfl) 1 _ rfl) 2 _ rfl) 3 _ rfl⟩
theorem seen_start {w3 : World} {base g : Nat} (hg : base ≤ g) (hb : w3.heap[g]? = some (.cells (List.replicate 64 (Value.bool false)).toArray 75 (0, 0))) : Kd.R Kd.bool 75 w3 base (fun _ => True) (.slice (some ⟨g, 0, none⟩) 64 64) (dfAt [] 0).1 := by
  refine ⟨fun _ _ => trivial, List.replicate 64 (Value.bool false), ⟨rfl, .inr ⟨g, 64, _, rfl, hg, hb, by decide, by unfold maxLen; omega, rfl, rfl⟩⟩, ⟨rfl, fun j p hj => ?_⟩⟩
  have hj' : (List.replicate 64 false)[j]? = some p := hj
  obtain ⟨hlt, hp⟩ := List.getElem?_eq_some_iff.1 hj'
  rw [List.getElem_replicate] at hp
  rw [List.length_replicate] at hlt
  subst hp
  show List.take 1 (List.drop (j * 1) (List.replicate 64 (Value.bool false))) = [Value.bool false]
  rw [List.drop_replicate, List.take_replicate, show min 1 (64 - j * 1) = 1 by omega]
  rfl
set_option maxHeartbeats 8000000 in
set_option maxRecDepth 100000 in
theorem estoverstop_dirtyFrames.core (A0 : Option Addr) (c0 : Nat) (l0 : List S77) (w : World) (hr0 : Kd.C k77 w A0 l0.length l0) (hok : ∀ x ∈ l0, (0 ≤ x.f0 ∧ x.f0 ≤ 255) ∧ (0 ≤ x.f1 ∧ x.f1 ≤ 255) ∧ (0 ≤ x.f2 ∧ x.f2 ≤ 255)) (hlen : l0.length ≤ 1000) :
    Calls Try.prog 13 #[.slice A0 l0.length c0] w fun e w' => ∃ v0_ v1_ : Value, e = .returned (.tuple #[v0_, v1_]) ∧ Kd.S k48 48 w' w.heap.size (fun _ => True) v0_ (dfAt l0 l0.length).2.1 ∧ Kd.R k50 50 w' w.heap.size (fun _ => True) v1_ (dfAt l0 l0.length).2.2 ∧ Below w.heap.size w w' := by
  have hu77 := Try.underlying77
  have hu48 := Try.underlying48
  have hu50 := Try.underlying50
  have HR0 := Aside0.mk hr0
  have HOK := Aside0.mk hok
  have HLN := Aside0.mk hlen
  clear hr0 hok hlen
  have HB := Aside0.mk (Below.refl w.heap.size w)
  go_enter Try.func13, Try.ntmps13
  go_wp2_with (first | ((with_reducible refine gate_dst (N := 6) rfl ?_); refine box_event ?hg (N := 6) ?hd (cs := (List.replicate 64 (Value.bool false)).toArray) (t := 75) ?hr ?_; (case hd => rfl); (case hg => rfl); (case hr => first | kernel_rfl | (go_simp; done) | (go_simp; rfl)); intro gs hg w3 hbox hb; have n0_ := Aside0.mk (below_step HB.out hb); have n1_ := Aside0.mk hbox; have n2_ := Aside0.mk ((by rw [hg]; exact HB.out.size) : w.heap.size ≤ gs); clear HB; have HB := n0_; have BS := n1_; have GS := n2_; clear n0_ n1_ n2_; clear hb hbox hg))
  have HS0 : Aside0 (Kd.R Kd.bool 75 w3 w.heap.size (fun _ => True) (.slice (some ⟨gs, 0, none⟩) 64 64) (dfAt l0 0).1) := ⟨seen_start GS.out BS.out⟩
  clear BS
  go_loopg [4, 5, 13] l0.length (fun kq v4 v5 v13 w' => ∃ i : Int, v13 = .int .i64 i ∧ Aside0 (0 ≤ i ∧ i + kq = l0.length) ∧ Aside0 (Kd.S k48 48 w' w.heap.size (fun _ => True) v4 (dfAt l0 i.toNat).2.1) ∧ Aside0 (Kd.R k50 50 w' w.heap.size (fun _ => True) v5 (dfAt l0 i.toNat).2.2) ∧ Aside0 (Kd.R Kd.bool 75 w' w.heap.size (fun _ => True) (.slice (some ⟨gs, 0, none⟩) 64 64) (dfAt l0 i.toNat).1) ∧ Aside0 (Below w.heap.size w w'))
  case atStart => exact ⟨0, rfl, ⟨by omega⟩, ⟨Kd.S_nil _ _ _ _ _⟩, ⟨Kd.R_nil _ _ _ _ _⟩, HS0, HB⟩
  case round =>
    clear HS0 HB
    obtain ⟨i, rfl, HI, HO_4, HO_5, HO_6, HB⟩ := hrel
    by_cases hi : i < (l0.length : Int)
    · have hib : decide (i < (l0.length : Int)) = true := decide_eq_true hi
      obtain ⟨k0, rfl⟩ : ∃ k0, gk = k0 + 1 := ⟨gk - 1, by have := HI.out; omega⟩
      have p0 : 0 ≤ i := HI.out.1
      obtain ⟨ad, e0, x0, x1, x2, x3⟩ := at_T77 HR0.out i p0 hi
      cases e0
      replace x0 := (HB.out.cell (World.block_lt_of_cell? w _ x0)).trans x0
      replace x1 := (HB.out.cell (World.block_lt_of_cell? w _ x1)).trans x1
      replace x2 := (HB.out.cell (World.block_lt_of_cell? w _ x2)).trans x2
      replace x3 := (HB.out.cell (World.block_lt_of_cell? w _ x3)).trans x3
      have hx := HOK.out (rd_T77 l0 i) (by
        unfold rd_T77
        rw [List.getD_eq_getElem?_getD, List.getElem?_eq_getElem (by omega)]
        exact List.getElem_mem _)
      have hw1 : IntKind.i64.wrap (i + 1) = i + 1 := df_i64 (by omega) (by have := HLN.out; omega)
      have HDS := Aside0.mk (dfAt_succ l0 p0 hi)
      have HDL := Aside0.mk (dfAt_len l0 i.toNat (by omega))
      have HIL : Aside0 (i < (l0.length : Int)) := ⟨hi⟩
      have p0t := eq_true p0
      have hi1 := eq_true hi
      clear p0
      generalize dfAt l0 i.toNat = s at *
      generalize rd_T77 l0 i = x at *
      obtain ⟨a, b, c, d⟩ := x
      simp only at x0 x1 x2 x3 hx
      have HX := Aside0.mk hx
      clear hx
      go_upto_region 7 with (first | ((with_reducible refine gate_dst (N := 8) rfl ?_); refine box_event ?hg (N := 8) ?hd (cs := #[.int .u8 0, .int .u8 0, .int .u8 0, .bool false]) (t := 77) ?hr ?_; (case hd => rfl); (case hg => rfl); (case hr => first | (go_simp; done) | (go_simp; rfl)); intro gx hg w5 hbox hb; have n0_ := Aside0.mk (Kd.S_below HO_4.out hb); have n1_ := Aside0.mk (Kd.R_below HO_5.out hb); have n2_ := Aside0.mk (Kd.R_below HO_6.out hb); have n3_ := Aside0.mk (below_step HB.out hb); have n4_ := Aside0.mk hbox; have n5_ := Aside0.mk ((by rw [hg]; exact HB.out.size) : w.heap.size ≤ gx); clear HO_4 HO_5 HO_6 HB; have HO_4 := n0_; have HO_5 := n1_; have HO_6 := n2_; have HB := n3_; have BX := n4_; have GX := n5_; clear n0_ n1_ n2_ n3_ n4_ n5_; clear hb hbox hg; have z0 : w5.cell? ⟨gx, 0, none⟩ = some (.int .u8 0) := (blk_cell BX.out 0).trans rfl; have z1 : w5.cell? ⟨gx, 1, none⟩ = some (.int .u8 0) := (blk_cell BX.out 1).trans rfl; have z2 : w5.cell? ⟨gx, 2, none⟩ = some (.int .u8 0) := (blk_cell BX.out 2).trans rfl; have z3 : w5.cell? ⟨gx, 3, none⟩ = some (.bool false) := (blk_cell BX.out 3).trans rfl; have y0 := blk_frozen BX.out 0; have y1 := blk_frozen BX.out 1; have y2 := blk_frozen BX.out 2; have y3 := blk_frozen BX.out 3))
      obtain ⟨w6, hw6, hb6, bx6⟩ := store4 (.int .u8 a) (.int .u8 b) (.int .u8 c) (.bool d) HB.out GX.out BX.out
      have m0_ : Aside0 (Kd.S k48 48 w6 w.heap.size (fun _ => True) u4 s.2.1) := ⟨by rw [hw6]; exact Kd.S_mono (Kd.S_far (p := ⟨gx, 3, none⟩) (Kd.S_far (p := ⟨gx, 2, none⟩) (Kd.S_far (p := ⟨gx, 1, none⟩) (Kd.S_far (p := ⟨gx, 0, none⟩) (Kd.S_types HO_4.out BX.out (by decide)) (fun _ hk => hk.2) _) (fun _ hk => hk.2) _) (fun _ hk => hk.2) _) (fun _ hk => hk.2) _) (fun _ _ => trivial)⟩
      have m1_ : Aside0 (Kd.R k50 50 w6 w.heap.size (fun _ => True) u5 s.2.2) := ⟨by rw [hw6]; exact Kd.R_mono (Kd.R_far (p := ⟨gx, 3, none⟩) (Kd.R_far (p := ⟨gx, 2, none⟩) (Kd.R_far (p := ⟨gx, 1, none⟩) (Kd.R_far (p := ⟨gx, 0, none⟩) (Kd.R_types HO_5.out BX.out (by decide)) (fun _ hk => hk.2) _) (fun _ hk => hk.2) _) (fun _ hk => hk.2) _) (fun _ hk => hk.2) _) (fun _ _ => trivial)⟩
      have m2_ : Aside0 (Kd.R Kd.bool 75 w6 w.heap.size (fun _ => True) (.slice (some ⟨gs, 0, none⟩) 64 64) s.1) := ⟨by rw [hw6]; exact Kd.R_mono (Kd.R_far (p := ⟨gx, 3, none⟩) (Kd.R_far (p := ⟨gx, 2, none⟩) (Kd.R_far (p := ⟨gx, 1, none⟩) (Kd.R_far (p := ⟨gx, 0, none⟩) (Kd.R_types HO_6.out BX.out (by decide)) (fun _ hk => hk.2) _) (fun _ hk => hk.2) _) (fun _ hk => hk.2) _) (fun _ hk => hk.2) _) (fun _ _ => trivial)⟩
      rw [← hw6]
      clear hw6 HO_4 HO_5 HO_6 HB BX z0 z1 z2 z3 y0 y1 y2 y3 x0 x1 x2 x3
      have HO_4 := m0_
      have HO_5 := m1_
      have HO_6 := m2_
      have HB := Aside0.mk hb6
      have BX := Aside0.mk bx6
      clear m0_ m1_ m2_ hb6 bx6
      have x0 : ∀ n, (w6.drewN n).cell? ⟨gx, 0, none⟩ = some (.int .u8 a) := fun _ => (blk_cell BX.out 0).trans rfl
      have x1 : ∀ n, (w6.drewN n).cell? ⟨gx, 1, none⟩ = some (.int .u8 b) := fun _ => (blk_cell BX.out 1).trans rfl
      go_quiet (fail)
      have ef : wrap64 (a.tmod 4) = a % 4 := by
        have := HX.out.1.1
        rw [df_mod 4 this]
        exact df_w64 (by omega) (by omega)
      have eg : wrap64 (b.tmod 16) = b % 16 := by
        have := HX.out.2.1.1
        rw [df_mod 16 this]
        exact df_w64 (by omega) (by omega)
      simp only [ef, eg]
      have HF : Aside0 (0 ≤ a % 4 ∧ a % 4 < 4) := ⟨by omega⟩
      have HG : Aside0 (0 ≤ b % 16 ∧ b % 16 < 16) := ⟨by omega⟩
      clear x0 x1 ef eg
      generalize hq_ : w6.drewN nq = w7
      have m0_ := Aside0.mk (Kd.S_at hq_ HO_4.out)
      have m1_ := Aside0.mk (Kd.R_at hq_ HO_5.out)
      have m2_ := Aside0.mk (Kd.R_at hq_ HO_6.out)
      have m3_ := Aside0.mk (blk_at hq_ BX.out)
      have m4_ := Aside0.mk (below_at hq_ HB.out)
      clear hq_ HO_4 HO_5 HO_6 BX HB
      have HO_4 := m0_
      have HO_5 := m1_
      have HO_6 := m2_
      have BX := m3_
      have HB := m4_
      clear m0_ m1_ m2_ m3_ m4_
      have hds := HDS.out
      clear HDS
      unfold dfStep at hds
      dsimp only at hds
      have HDS := Aside0.mk hds
      clear hds
      generalize hf : a % 4 = f at *
      generalize hg : b % 16 = g at *
      have f0 := HF.out.1
      have f1 := HF.out.2
      have g0 := HG.out.1
      have g1 := HG.out.2
      have f0b := decide_eq_true f0
      have f1b := decide_eq_true f1
      have g0b := decide_eq_true g0
      have g1b := decide_eq_true g1
      have HN : (f * 16 + g).toNat = f.toNat * 16 + g.toNat := by omega
      have hc7 : w7.cell? ⟨gs, f.toNat * 16 + g.toNat, none⟩ = some (.bool (s.1.getD (f * 16 + g).toNat false)) := by
        rw [← HN]
        exact (Kd.R_celln false HO_6.out (f * 16 + g) (by omega) (by omega)).1
      have hf7 : w7.frozen? ⟨gs, f.toNat * 16 + g.toNat, none⟩ = false := by
        rw [← HN]
        exact (Kd.R_celln false HO_6.out (f * 16 + g) (by omega) (by omega)).2
      have ec : wrap64 c = c := df_w64 HX.out.2.2.1 (by have := HX.out.2.2.2; omega)
      have ec' : IntKind.i64.wrap c = c := df_i64 HX.out.2.2.1 (by have := HX.out.2.2.2; omega)
      cases hbit : s.1.getD (f * 16 + g).toNat false with
      | true =>
        rw [hbit] at hc7
        have HDN := HDS.out
        rw [if_pos hbit] at HDN
        have HDE := Aside0.mk HDN
        clear HN HDN HDS hbit
        go_wp2
        go_roundg k0
        case measure => have := HI.out; omega
        case rel => exact ⟨i + 1, by simp [hw1], ⟨by have := HI.out; omega⟩, by rw [HDE.out]; exact HO_4, by rw [HDE.out]; exact HO_5, by rw [HDE.out]; exact HO_6, HB⟩
      | false =>
        rw [hbit] at hc7
        have HDN := HDS.out
        rw [if_neg (by rw [hbit]; decide)] at HDN
        have HP : Aside0 (Kd.R Kd.bool 75 (w7.setCell ⟨gs, f.toNat * 16 + g.toNat, none⟩ (.bool true)) w.heap.size (fun _ => True) (.slice (some ⟨gs, 0, none⟩) 64 64) (s.1.set (f * 16 + g).toNat true) ∧ w7.grownBy (w7.setCell ⟨gs, f.toNat * 16 + g.toNat, none⟩ (.bool true)) (some gs)) := ⟨by rw [← HN]; exact Kd.R_putg HO_6.out (f * 16 + g) true⟩
        have HDE := Aside0.mk HDN
        clear HN HDN HDS hbit
        cases d with
        | true =>
          go_wp2_with (first | ((with_reducible refine gate_store (t := 4) (p := 33) rfl ?_); refine store_event (t := 4) (p := 33) (v := ?vo) (w1 := (w7.setCell ⟨gs, f.toNat * 16 + g.toNat, none⟩ (.bool true))) ?hg ?ho ?hn ?hr ?_; (case ho => rfl); (case hg => rfl); (case hn => rfl); (case hr => first | (go_simp; done) | (go_simp; rfl)); intro w8 hw; have hg : w7.grownBy w8 (some gs) := (by rw [hw]; exact HP.out.2); have hp_ : Kd.R Kd.bool 75 w8 w.heap.size (fun _ => True) (.slice (some ⟨gs, 0, none⟩) 64 64) (s.1.set (f * 16 + g).toNat true) := (by rw [hw]; exact HP.out.1); have n0_ := Aside0.mk (Kd.S_over' (v := (.slice (some ⟨gs, 0, none⟩) 64 64)) HO_4.out (Kd.R_typed HO_6.out) (by decide) hg); have n1_ := Aside0.mk (Kd.R_over' (v := (.slice (some ⟨gs, 0, none⟩) 64 64)) HO_5.out (Kd.R_typed HO_6.out) (by decide) hg); have n3_ := Aside0.mk (blk_grown (g := gx) (o := .cells #[.int .u8 a, .int .u8 b, .int .u8 c, .bool true] 77 (0, 0)) BX.out hg (Kd.R_ne HO_6.out BX.out (by decide))); have n4_ := Aside0.mk ((by rw [hw]; exact below_set HB.out GS.out : Below w.heap.size w w8)); clear HO_4 HO_5 HO_6 BX HB HP hc7 hf7; have HO_4 := n0_; have HO_5 := n1_; have HO_6 := Aside0.mk hp_; have BX := n3_; have HB := n4_; clear n0_ n1_ n3_ n4_ hg hw hp_; have z0 : w8.cell? ⟨gx, 0, none⟩ = some (.int .u8 a) := (blk_cell BX.out 0).trans rfl; have z1 : w8.cell? ⟨gx, 1, none⟩ = some (.int .u8 b) := (blk_cell BX.out 1).trans rfl; have z2 : w8.cell? ⟨gx, 2, none⟩ = some (.int .u8 c) := (blk_cell BX.out 2).trans rfl; have z3 : w8.cell? ⟨gx, 3, none⟩ = some (.bool true) := (blk_cell BX.out 3).trans rfl) | ((with_reducible refine gate_builtin (b := .append) (xs := #[.tmp 34, .tmp 44]) rfl ?_); at_builtin; refine Kd.S_append k48 (w0 := w) w.heap.size rfl (.tmp 34) (.tmp 44) 38 48 (.agg #[(.int .i64 0), (.int .i64 0), (.int .i64 0), (.int .i64 0), (.int .i64 0), (.int .i64 0), (.int .i64 0), (.int .i64 0), (.int .i64 0), (.int .i64 0), (.bool false), (.bool false), (.bool false), (.int .i64 0), (.slice none 0 0), (.slice none 0 0)]) 144 rfl Try.underlying38 info48 rfl (by decide) (by omega) u4 s.2.1 (⟨4, 0, 0, 0, f, g, 0, 0, 0, c, !true, false, false, 0, [], []⟩ : S48) [.int .i64 4, .int .i64 0, .int .i64 0, .int .i64 0, .int .i64 f, .int .i64 g, .int .i64 0, .int .i64 0, .int .i64 0, .int .i64 c, .bool (!true), .bool false, .bool false, .int .i64 0, .slice none 0 0, .slice none 0 0] (fun _ => True) (fun _ => False) rfl rfl ?aP (fun k_ hk_ => hk_.elim) ?aF ?aO ?aB ?aS ?aL ?_; (case aP => exact k48_mkM _ _ _ (⟨4, 0, 0, 0, f, g, 0, 0, 0, c, !true, false, false, 0, [], []⟩ : S48) (Kd.R_nil _ _ _ _ _) (Kd.R_nil _ _ _ _ _)); (case aB => exact (by repeat (first | (with_reducible first | exact HB.out | apply below_alloc | apply pw_below_drewN | apply below_drew1) | exact HB.out))); (case aF => exact (fun _ _ => trivial)); (case aO => exact (by (with_reducible repeat (first | apply Kd.S_alloc | apply Kd.S_drewN | apply Kd.S_drew)); exact Kd.S_mono HO_4.out (fun k_ hk => ⟨trivial, fun e_ => e_⟩))); (case aS => exact (below_size (by repeat (first | (with_reducible first | exact HB.out | apply below_alloc | apply pw_below_drewN | apply below_drew1) | exact HB.out)))); (case aL => have := HDL.out; have := HLN.out; have := HIL.out; omega); intro v188 w9 ho hb hg hat; have n0_ := Aside0.mk (Kd.R_over' (by (with_reducible repeat (first | apply Kd.R_alloc | apply Kd.R_drewN | apply Kd.R_drew)); exact HO_5.out) (Kd.S_typed (by (with_reducible repeat (first | apply Kd.S_alloc | apply Kd.S_drewN | apply Kd.S_drew)); exact HO_4.out)) (by decide) hg); have n1_ := Aside0.mk (Kd.R_over' (by (with_reducible repeat (first | apply Kd.R_alloc | apply Kd.R_drewN | apply Kd.R_drew)); exact HO_6.out) (Kd.S_typed (by (with_reducible repeat (first | apply Kd.S_alloc | apply Kd.S_drewN | apply Kd.S_drew)); exact HO_4.out)) (by decide) hg); have n2_ := Aside0.mk (blk_grown (g := gx) (o := .cells #[.int .u8 a, .int .u8 b, .int .u8 c, .bool true] 77 (0, 0)) (by (with_reducible repeat (first | refine blk_drewN ?_ _ | refine blk_drew ?_ | refine blk_alloc ?_ _)); exact BX.out) hg (Kd.S_ne HO_4.out BX.out (by decide))); clear HO_5 HO_6 BX HB HO_4 z0 z1 z2 z3; have HO_5 := n0_; have HO_6 := n1_; have BX := n2_; have HB := Aside0.mk hb; have HO_4 := Aside0.mk ho; clear n0_ n1_ n2_ ho hb hg hat; have z0 : w9.cell? ⟨gx, 0, none⟩ = some (.int .u8 a) := (blk_cell BX.out 0).trans rfl; have z1 : w9.cell? ⟨gx, 1, none⟩ = some (.int .u8 b) := (blk_cell BX.out 1).trans rfl; have z2 : w9.cell? ⟨gx, 2, none⟩ = some (.int .u8 c) := (blk_cell BX.out 2).trans rfl; have z3 : w9.cell? ⟨gx, 3, none⟩ = some (.bool true) := (blk_cell BX.out 3).trans rfl))
          go_roundg k0
          case measure => have := HI.out; omega
          case rel => exact ⟨i + 1, by simp [hw1], ⟨by have := HI.out; omega⟩, by rw [HDE.out]; exact HO_4, by rw [HDE.out]; exact HO_5, by rw [HDE.out]; exact HO_6, HB⟩
        | false =>
          go_wp2_with (first | ((with_reducible refine gate_store (t := 4) (p := 33) rfl ?_); refine store_event (t := 4) (p := 33) (v := ?vo) (w1 := (w7.setCell ⟨gs, f.toNat * 16 + g.toNat, none⟩ (.bool true))) ?hg ?ho ?hn ?hr ?_; (case ho => rfl); (case hg => rfl); (case hn => rfl); (case hr => first | (go_simp; done) | (go_simp; rfl)); intro w8 hw; have hg : w7.grownBy w8 (some gs) := (by rw [hw]; exact HP.out.2); have hp_ : Kd.R Kd.bool 75 w8 w.heap.size (fun _ => True) (.slice (some ⟨gs, 0, none⟩) 64 64) (s.1.set (f * 16 + g).toNat true) := (by rw [hw]; exact HP.out.1); have n0_ := Aside0.mk (Kd.S_over' (v := (.slice (some ⟨gs, 0, none⟩) 64 64)) HO_4.out (Kd.R_typed HO_6.out) (by decide) hg); have n1_ := Aside0.mk (Kd.R_over' (v := (.slice (some ⟨gs, 0, none⟩) 64 64)) HO_5.out (Kd.R_typed HO_6.out) (by decide) hg); have n3_ := Aside0.mk (blk_grown (g := gx) (o := .cells #[.int .u8 a, .int .u8 b, .int .u8 c, .bool false] 77 (0, 0)) BX.out hg (Kd.R_ne HO_6.out BX.out (by decide))); have n4_ := Aside0.mk ((by rw [hw]; exact below_set HB.out GS.out : Below w.heap.size w w8)); clear HO_4 HO_5 HO_6 BX HB HP hc7 hf7; have HO_4 := n0_; have HO_5 := n1_; have HO_6 := Aside0.mk hp_; have BX := n3_; have HB := n4_; clear n0_ n1_ n3_ n4_ hg hw hp_; have z0 : w8.cell? ⟨gx, 0, none⟩ = some (.int .u8 a) := (blk_cell BX.out 0).trans rfl; have z1 : w8.cell? ⟨gx, 1, none⟩ = some (.int .u8 b) := (blk_cell BX.out 1).trans rfl; have z2 : w8.cell? ⟨gx, 2, none⟩ = some (.int .u8 c) := (blk_cell BX.out 2).trans rfl; have z3 : w8.cell? ⟨gx, 3, none⟩ = some (.bool false) := (blk_cell BX.out 3).trans rfl) | ((with_reducible refine gate_builtin (b := .append) (xs := #[.tmp 34, .tmp 44]) rfl ?_); at_builtin; refine Kd.S_append k48 (w0 := w) w.heap.size rfl (.tmp 34) (.tmp 44) 38 48 (.agg #[(.int .i64 0), (.int .i64 0), (.int .i64 0), (.int .i64 0), (.int .i64 0), (.int .i64 0), (.int .i64 0), (.int .i64 0), (.int .i64 0), (.int .i64 0), (.bool false), (.bool false), (.bool false), (.int .i64 0), (.slice none 0 0), (.slice none 0 0)]) 144 rfl Try.underlying38 info48 rfl (by decide) (by omega) u4 s.2.1 (⟨4, 0, 0, 0, f, g, 0, 0, 0, c, !false, false, false, 0, [], []⟩ : S48) [.int .i64 4, .int .i64 0, .int .i64 0, .int .i64 0, .int .i64 f, .int .i64 g, .int .i64 0, .int .i64 0, .int .i64 0, .int .i64 c, .bool (!false), .bool false, .bool false, .int .i64 0, .slice none 0 0, .slice none 0 0] (fun _ => True) (fun _ => False) rfl rfl ?aP (fun k_ hk_ => hk_.elim) ?aF ?aO ?aB ?aS ?aL ?_; (case aP => exact k48_mkM _ _ _ (⟨4, 0, 0, 0, f, g, 0, 0, 0, c, !false, false, false, 0, [], []⟩ : S48) (Kd.R_nil _ _ _ _ _) (Kd.R_nil _ _ _ _ _)); (case aB => exact (by repeat (first | (with_reducible first | exact HB.out | apply below_alloc | apply pw_below_drewN | apply below_drew1) | exact HB.out))); (case aF => exact (fun _ _ => trivial)); (case aO => exact (by (with_reducible repeat (first | apply Kd.S_alloc | apply Kd.S_drewN | apply Kd.S_drew)); exact Kd.S_mono HO_4.out (fun k_ hk => ⟨trivial, fun e_ => e_⟩))); (case aS => exact (below_size (by repeat (first | (with_reducible first | exact HB.out | apply below_alloc | apply pw_below_drewN | apply below_drew1) | exact HB.out)))); (case aL => have := HDL.out; have := HLN.out; have := HIL.out; omega); intro v188 w9 ho hb hg hat; have n0_ := Aside0.mk (Kd.R_over' (by (with_reducible repeat (first | apply Kd.R_alloc | apply Kd.R_drewN | apply Kd.R_drew)); exact HO_5.out) (Kd.S_typed (by (with_reducible repeat (first | apply Kd.S_alloc | apply Kd.S_drewN | apply Kd.S_drew)); exact HO_4.out)) (by decide) hg); have n1_ := Aside0.mk (Kd.R_over' (by (with_reducible repeat (first | apply Kd.R_alloc | apply Kd.R_drewN | apply Kd.R_drew)); exact HO_6.out) (Kd.S_typed (by (with_reducible repeat (first | apply Kd.S_alloc | apply Kd.S_drewN | apply Kd.S_drew)); exact HO_4.out)) (by decide) hg); have n2_ := Aside0.mk (blk_grown (g := gx) (o := .cells #[.int .u8 a, .int .u8 b, .int .u8 c, .bool false] 77 (0, 0)) (by (with_reducible repeat (first | refine blk_drewN ?_ _ | refine blk_drew ?_ | refine blk_alloc ?_ _)); exact BX.out) hg (Kd.S_ne HO_4.out BX.out (by decide))); clear HO_5 HO_6 BX HB HO_4 z0 z1 z2 z3; have HO_5 := n0_; have HO_6 := n1_; have BX := n2_; have HB := Aside0.mk hb; have HO_4 := Aside0.mk ho; clear n0_ n1_ n2_ ho hb hg hat; have z0 : w9.cell? ⟨gx, 0, none⟩ = some (.int .u8 a) := (blk_cell BX.out 0).trans rfl; have z1 : w9.cell? ⟨gx, 1, none⟩ = some (.int .u8 b) := (blk_cell BX.out 1).trans rfl; have z2 : w9.cell? ⟨gx, 2, none⟩ = some (.int .u8 c) := (blk_cell BX.out 2).trans rfl; have z3 : w9.cell? ⟨gx, 3, none⟩ = some (.bool false) := (blk_cell BX.out 3).trans rfl) | ((with_reducible refine gate_builtin (b := .append) (xs := #[.tmp 49, .tmp 56]) rfl ?_); at_builtin; refine Kd.R_append k50 (w0 := w) w.heap.size rfl (.tmp 49) (.tmp 56) 39 50 (.agg #[(.int .i64 0), (.int .i64 0), (.int .i64 0)]) 24 rfl Try.underlying39 info50 rfl (by decide) (by omega) u5 s.2.2 (⟨f, g, c⟩ : S50) [.int .i64 f, .int .i64 g, .int .i64 c] (fun _ => True) (fun _ => False) rfl rfl ?aP (fun _ hk => hk.elim) ?aF ?aO ?aB ?aS ?aL ?_; (case aP => exact k50_mkM _ _ _ (⟨f, g, c⟩ : S50)); (case aB => exact (by repeat (first | (with_reducible first | exact HB.out | apply below_alloc | apply pw_below_drewN | apply below_drew1) | exact HB.out))); (case aF => exact (fun _ _ => trivial)); (case aO => exact (by (with_reducible repeat (first | apply Kd.R_alloc | apply Kd.R_drewN | apply Kd.R_drew)); exact HO_5.out)); (case aS => exact (below_size (by repeat (first | (with_reducible first | exact HB.out | apply below_alloc | apply pw_below_drewN | apply below_drew1) | exact HB.out)))); (case aL => have := HDL.out; have := HLN.out; have := HIL.out; omega); intro v191 w10 ho hb hg hat; have n0_ := Aside0.mk (Kd.R_over' (by (with_reducible repeat (first | apply Kd.R_alloc | apply Kd.R_drewN | apply Kd.R_drew)); exact HO_6.out) (Kd.R_typed (by (with_reducible repeat (first | apply Kd.R_alloc | apply Kd.R_drewN | apply Kd.R_drew)); exact HO_5.out)) (by decide) hg); have n2_ := Aside0.mk (Kd.S_over' (by (with_reducible repeat (first | apply Kd.S_alloc | apply Kd.S_drewN | apply Kd.S_drew)); exact HO_4.out) (Kd.R_typed (by (with_reducible repeat (first | apply Kd.R_alloc | apply Kd.R_drewN | apply Kd.R_drew)); exact HO_5.out)) (by decide) hg); clear HO_6 BX HB HO_4 HO_5 z0 z1 z2 z3; have HO_6 := n0_; have HO_4 := n2_; have HB := Aside0.mk hb; have HO_5 := Aside0.mk ho; clear n0_ n2_ ho hb hg hat))
          go_roundg k0
          case measure => have := HI.out; omega
          case rel => exact ⟨i + 1, by simp [hw1], ⟨by have := HI.out; omega⟩, by rw [HDE.out]; exact HO_4, by rw [HDE.out]; exact HO_5, by rw [HDE.out]; exact HO_6, HB⟩
    · have hib : decide (i < (l0.length : Int)) = false := decide_eq_false hi
      have hil : i = (l0.length : Int) := by have := HI.out; omega
      subst hil
      rw [Int.toNat_natCast] at HO_4 HO_5
      go_wp2
      go_ret2
      exact ⟨_, _, rfl, HO_4.out, HO_5.out, HB.out⟩
theorem estoverstop_dirtyFrames.calls (A0 : Option Addr) (c0 : Nat) (l0 : List (S77)) (r1 : List (S48)) (r2 : List (S50)) (w : World) (hr0 : Kd.C k77 w A0 l0.length l0) (hc0 : l0.length ≤ c0) (h : estoverstop_dirtyFrames.f l0 = some (r1, r2)) :
    Calls Try.prog 13 #[.slice A0 l0.length c0] w fun e w' => ∃ v0_ v1_ : Value, e = .returned (.tuple #[v0_, v1_]) ∧ Kd.S k48 48 w' w.heap.size (fun _ => True) v0_ r1 ∧ Kd.R k50 50 w' w.heap.size (fun _ => True) v1_ r2 ∧ Below w.heap.size w w' := by
  unfold estoverstop_dirtyFrames.f at h
  split at h
  · rename_i hc
    have h2 := Option.some.inj h
    obtain rfl : (dfAt l0 l0.length).2.1 = r1 := by rw [h2]
    obtain rfl : (dfAt l0 l0.length).2.2 = r2 := by rw [h2]
    exact estoverstop_dirtyFrames.core A0 c0 l0 w hr0 hc.1 hc.2
  · cases h

end Go.Proofs.Ytpccpkpljlafcaa.PTopOldestFirst
