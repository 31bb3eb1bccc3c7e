-- Printed by a copy of the kit's printer that this session has patched (wip/tools/patch_print.py): the session's own text. Lean checks it.
import Derived.Test.YtpccpkpljlafcaaPTopOldestFirstx0
import Derived.Test.YtpccpkpljlafcaaPTopOldestFirstx1
namespace Go.Proofs.Ytpccpkpljlafcaa.PTopOldestFirst
open Go.RowKit Go.Proofs.YtpccpkpljlafcaaW.PrintWords Go.Proofs.YtpccpkpljlafcaaW.PrintLast Go.Proofs.YtpccpkpljlafcaaW.PrintMore
attribute [local go_sem] max2_int min2_int max_two min_two max_three min_three max_four min_four   -- for this text's walks alone
set_option linter.unusedVariables false
set_option linter.unusedSimpArgs false

attribute [local go_sem high] eqA50
/-! ### throttle_Oldest: function 16 -/
mutual
def throttle_Oldest.l0 : Nat → List (S48) → Int → List (S48) → Int → Int → Option (Int)
  | 0, _, _, _, _, _ => none
  | k + 1, x0, x3, x6, x7, x8 => if x8 < x7 then (if 0 ≤ x8 then (if x8 < (x6.length : Int) then (if ((rd_T48 x6 x8).f0) = 4 then (if ((rd_T48 x6 x8).f10 = true) then (throttle_Oldest.j1 k x0 x3 x8 x6 x7 x8 (((rd_T48 x6 x8).f1) != 0) ((rd_T48 x6 x8).f0) ((rd_T48 x6 x8).f1) ((rd_T48 x6 x8).f2) ((rd_T48 x6 x8).f3) ((rd_T48 x6 x8).f4) ((rd_T48 x6 x8).f5) ((rd_T48 x6 x8).f6) ((rd_T48 x6 x8).f7) ((rd_T48 x6 x8).f8) ((rd_T48 x6 x8).f9) ((rd_T48 x6 x8).f10) ((rd_T48 x6 x8).f11) ((rd_T48 x6 x8).f12) ((rd_T48 x6 x8).f13) ((rd_T48 x6 x8).f14) ((rd_T48 x6 x8).f15)) else (throttle_Oldest.j1 k x0 x3 x8 x6 x7 x8 true ((rd_T48 x6 x8).f0) ((rd_T48 x6 x8).f1) ((rd_T48 x6 x8).f2) ((rd_T48 x6 x8).f3) ((rd_T48 x6 x8).f4) ((rd_T48 x6 x8).f5) ((rd_T48 x6 x8).f6) ((rd_T48 x6 x8).f7) ((rd_T48 x6 x8).f8) ((rd_T48 x6 x8).f9) ((rd_T48 x6 x8).f10) ((rd_T48 x6 x8).f11) ((rd_T48 x6 x8).f12) ((rd_T48 x6 x8).f13) ((rd_T48 x6 x8).f14) ((rd_T48 x6 x8).f15))) else (throttle_Oldest.j1 k x0 x3 x8 x6 x7 x8 true ((rd_T48 x6 x8).f0) ((rd_T48 x6 x8).f1) ((rd_T48 x6 x8).f2) ((rd_T48 x6 x8).f3) ((rd_T48 x6 x8).f4) ((rd_T48 x6 x8).f5) ((rd_T48 x6 x8).f6) ((rd_T48 x6 x8).f7) ((rd_T48 x6 x8).f8) ((rd_T48 x6 x8).f9) ((rd_T48 x6 x8).f10) ((rd_T48 x6 x8).f11) ((rd_T48 x6 x8).f12) ((rd_T48 x6 x8).f13) ((rd_T48 x6 x8).f14) ((rd_T48 x6 x8).f15))) else (none)) else (none)) else (some x3)
def throttle_Oldest.j1 : Nat → List (S48) → Int → Int → List (S48) → Int → Int → Bool → Int → Int → Int → Int → Int → Int → Int → Int → Int → Int → Bool → Bool → Bool → Int → List (S153) → List Int → Option (Int)
  | 0, _, _, _, _, _, _, _, _, _, _, _, _, _, _, _, _, _, _, _, _, _, _, _ => none
  | k + 1, x0, x3, x4, x6, x7, x8, x25, x126000, x126001, x126002, x126003, x126004, x126005, x126006, x126007, x126008, x126009, x126010, x126011, x126012, x126013, x126014, x126015 => if x25 = true then (throttle_Oldest.l0 k x0 x3 x6 x7 (wrap64 (x8 + 1))) else (if x3 < 0 then (throttle_Oldest.l0 k x0 x4 x6 x7 (wrap64 (x8 + 1))) else (if 0 ≤ x3 then (if x3 < (x0.length : Int) then (if x126009 < ((rd_T48 x0 x3).f9) then (throttle_Oldest.l0 k x0 x4 x6 x7 (wrap64 (x8 + 1))) else (throttle_Oldest.l0 k x0 x3 x6 x7 (wrap64 (x8 + 1)))) else (none)) else (none)))
end
def throttle_Oldest.f (k : Nat) (l0 : List (S48)) : Option (Int) := throttle_Oldest.l0 k l0 (-1) l0 (l0.length : Int) 0
theorem throttle_Oldest.mono_l : ∀ k, (∀ y0 y1 y2 y3 y4, LeO (throttle_Oldest.l0 k y0 y1 y2 y3 y4) (throttle_Oldest.l0 (k + 1) y0 y1 y2 y3 y4)) ∧ (∀ y0 y1 y2 y3 y4 y5 y6 y7 y8 y9 y10 y11 y12 y13 y14 y15 y16 y17 y18 y19 y20 y21 y22, LeO (throttle_Oldest.j1 k y0 y1 y2 y3 y4 y5 y6 y7 y8 y9 y10 y11 y12 y13 y14 y15 y16 y17 y18 y19 y20 y21 y22) (throttle_Oldest.j1 (k + 1) y0 y1 y2 y3 y4 y5 y6 y7 y8 y9 y10 y11 y12 y13 y14 y15 y16 y17 y18 y19 y20 y21 y22))
  | 0 => ⟨fun _ _ _ _ _ r h => by simp [throttle_Oldest.l0] at h, fun _ _ _ _ _ _ _ _ _ _ _ _ _ _ _ _ _ _ _ _ _ _ _ r h => by simp [throttle_Oldest.j1] at h⟩
  | k + 1 => by
    obtain ⟨ih0, ih1⟩ := throttle_Oldest.mono_l k
    refine ⟨?_, ?_⟩
    · intro y0 y1 y2 y3 y4
      unfold throttle_Oldest.l0
      repeat' first
      | (with_reducible exact ih0 _ _ _ _ _)
      | (with_reducible exact ih1 _ _ _ _ _ _ _ _ _ _ _ _ _ _ _ _ _ _ _ _ _ _ _)
      | (with_reducible exact LeO.refl _)
      | (with_reducible exact LeO.none _)
      | (with_reducible refine LeO.ite ?_ ?_)
      | (with_reducible refine LeO.bind ?_ (fun _ => ?_))
      | exact ih0 _ _ _ _ _
      | exact ih1 _ _ _ _ _ _ _ _ _ _ _ _ _ _ _ _ _ _ _ _ _ _ _
      | exact LeO.none _
      | refine LeO.ite ?_ ?_
      | refine LeO.bind ?_ (fun _ => ?_)
    · intro y0 y1 y2 y3 y4 y5 y6 y7 y8 y9 y10 y11 y12 y13 y14 y15 y16 y17 y18 y19 y20 y21 y22
      unfold throttle_Oldest.j1
      repeat' first
      | (with_reducible exact ih0 _ _ _ _ _)
      | (with_reducible exact ih1 _ _ _ _ _ _ _ _ _ _ _ _ _ _ _ _ _ _ _ _ _ _ _)
      | (with_reducible exact LeO.refl _)
      | (with_reducible exact LeO.none _)
      | (with_reducible refine LeO.ite ?_ ?_)
      | (with_reducible refine LeO.bind ?_ (fun _ => ?_))
      | exact ih0 _ _ _ _ _
      | exact ih1 _ _ _ _ _ _ _ _ _ _ _ _ _ _ _ _ _ _ _ _ _ _ _
      | exact LeO.none _
      | refine LeO.ite ?_ ?_
      | refine LeO.bind ?_ (fun _ => ?_)
theorem throttle_Oldest.mono : ∀ a0 k, LeO (throttle_Oldest.f k a0) (throttle_Oldest.f (k + 1) a0) := by
  intro a0 k
  obtain ⟨ih0, ih1⟩ := throttle_Oldest.mono_l k
  unfold throttle_Oldest.f
  repeat' first
      | (with_reducible exact ih0 _ _ _ _ _)
      | (with_reducible exact ih1 _ _ _ _ _ _ _ _ _ _ _ _ _ _ _ _ _ _ _ _ _ _ _)
      | (with_reducible exact LeO.refl _)
      | (with_reducible exact LeO.none _)
      | (with_reducible refine LeO.ite ?_ ?_)
      | (with_reducible refine LeO.bind ?_ (fun _ => ?_))
      | exact ih0 _ _ _ _ _
      | exact ih1 _ _ _ _ _ _ _ _ _ _ _ _ _ _ _ _ _ _ _ _ _ _ _
      | exact LeO.none _
      | refine LeO.ite ?_ ?_
      | refine LeO.bind ?_ (fun _ => ?_)
set_option maxHeartbeats 8000000 in
set_option maxRecDepth 100000 in
theorem throttle_Oldest.calls (k : Nat) (A0 : Option Addr) (c0 : Nat) (l0 : List (S48)) (r : Int) (w : World) (hr0 : Kd.C k48 w A0 l0.length l0) (hc0 : l0.length ≤ c0) (h : throttle_Oldest.f k l0 = some r) :
    Calls Try.prog 16 #[.slice A0 l0.length c0] w fun e w' => e = .returned (.int .i64 r) ∧ Below w.heap.size w w' := by
  have hu48 := Try.underlying48
  have HR0 := Aside0.mk hr0
  have HC0 := Aside0.mk hc0
  clear hr0 hc0
  have HB := Aside0.mk (Below.refl w.heap.size w)
  have H : (throttle_Oldest.l0 k l0 (-1) l0 (l0.length : Int) 0) = some r := h
  clear h
  have H' := Aside0.mk H
  clear H
  go_enter Try.func16, Try.ntmps16
  go_wp2
  repeat (go_quiet (fail); try go_wp2)
  go_loopg [3, 8] k (fun kq v3 v8 w' => ∃ (x3_1 : Int) (x8_1 : Int), v3 = .int .i64 x3_1 ∧ v8 = .int .i64 x8_1 ∧ Aside0 (throttle_Oldest.l0 kq l0 x3_1 l0 (l0.length : Int) x8_1 = some r) ∧ Aside0 (kq ≤ k) ∧ Aside0 (Below w.heap.size w w'))
  case atStart => exact ⟨((-1)), (0), (by first | rfl | (simp; done) | (simp [*]; done)), (by first | rfl | (simp; done) | (simp [*]; done)), H', ⟨Nat.le_refl _⟩, ⟨by repeat (first | (with_reducible first | exact HB.out | apply below_alloc | apply pw_below_drewN | apply below_drew1) | exact HB.out)⟩⟩
  case round =>
    clear H'
    try clear c1
    obtain ⟨x3_1, x8_1, rfl, rfl, HA, HK1, HB⟩ := hrel
    cases gk with
    | zero => exact absurd HA.out (by simp [throttle_Oldest.l0])
    | succ k1 =>
      have H := HA.out
      clear HA
      simp only [throttle_Oldest.l0] at H
      by_cases c2 : x8_1 < (l0.length : Int)
      · rw [if_pos c2] at H
        have c2b0 : decide (x8_1 < (l0.length : Int)) = true := decide_eq_true c2
        clear c2
        by_cases c3 : 0 ≤ x8_1
        · rw [if_pos c3] at H
          have c3b0 : decide (0 ≤ x8_1) = true := decide_eq_true c3
          clear c3
          by_cases c4 : x8_1 < (l0.length : Int)
          · rw [if_pos c4] at H
            have c4b0 : decide (x8_1 < (l0.length : Int)) = true := decide_eq_true c4
            clear c4
            have HC5 := Aside0.mk H
            clear H
            have p124 : 0 ≤ (x8_1 : Int) := of_decide_eq_true (by first | (with_reducible assumption) | assumption)
            have q124 : x8_1 < (l0.length : Int) := of_decide_eq_true (by first | (with_reducible assumption) | assumption)
            obtain ⟨ad124, A124_14, c124_14, A124_15, c124_15, e124, hx124_0, hx124_1, hx124_2, hx124_3, hx124_4, hx124_5, hx124_6, hx124_7, hx124_8, hx124_9, hx124_10, hx124_11, hx124_12, hx124_13, hx124_14, hx124_15, hl124_14, hi124_14, hl124_15, hi124_15⟩ := at_T48 HR0.out x8_1 p124 q124
            cases e124
            replace hx124_0 := (HB.out.cell (World.block_lt_of_cell? w _ hx124_0)).trans hx124_0
            replace hx124_1 := (HB.out.cell (World.block_lt_of_cell? w _ hx124_1)).trans hx124_1
            replace hx124_2 := (HB.out.cell (World.block_lt_of_cell? w _ hx124_2)).trans hx124_2
            replace hx124_3 := (HB.out.cell (World.block_lt_of_cell? w _ hx124_3)).trans hx124_3
            replace hx124_4 := (HB.out.cell (World.block_lt_of_cell? w _ hx124_4)).trans hx124_4
            replace hx124_5 := (HB.out.cell (World.block_lt_of_cell? w _ hx124_5)).trans hx124_5
            replace hx124_6 := (HB.out.cell (World.block_lt_of_cell? w _ hx124_6)).trans hx124_6
            replace hx124_7 := (HB.out.cell (World.block_lt_of_cell? w _ hx124_7)).trans hx124_7
            replace hx124_8 := (HB.out.cell (World.block_lt_of_cell? w _ hx124_8)).trans hx124_8
            replace hx124_9 := (HB.out.cell (World.block_lt_of_cell? w _ hx124_9)).trans hx124_9
            replace hx124_10 := (HB.out.cell (World.block_lt_of_cell? w _ hx124_10)).trans hx124_10
            replace hx124_11 := (HB.out.cell (World.block_lt_of_cell? w _ hx124_11)).trans hx124_11
            replace hx124_12 := (HB.out.cell (World.block_lt_of_cell? w _ hx124_12)).trans hx124_12
            replace hx124_13 := (HB.out.cell (World.block_lt_of_cell? w _ hx124_13)).trans hx124_13
            replace hx124_14 := (HB.out.cell (World.block_lt_of_cell? w _ hx124_14)).trans hx124_14
            replace hx124_15 := (HB.out.cell (World.block_lt_of_cell? w _ hx124_15)).trans hx124_15
            have HR124_14 := Aside0.mk hi124_14
            have HC124_14 := Aside0.mk hl124_14
            clear hi124_14 hl124_14
            have HR124_15 := Aside0.mk hi124_15
            have HC124_15 := Aside0.mk hl124_15
            clear hi124_15 hl124_15
            replace p124 := eq_true p124
            replace q124 := eq_true q124
            go_upto_region 5 with (first | ((with_reducible refine gate_dst (N := 5) rfl ?_); refine box_event ?hg (N := 5) ?hd (cs := #[.int .i64 0, .int .i64 0, .int .i64 0, .int .i64 0, .int .i64 0, .int .i64 0, .int .i64 0, .int .i64 0, .int .i64 0, .int .i64 0, .bool false, .bool false, .bool false, .int .i64 0, .slice none 0 0, .slice none 0 0]) (t := 48) ?hr ?_; (case hd => rfl); (case hg => rfl); (case hr => first | (go_simp; done) | (go_simp; rfl)); intro gb125 hg w6 hbox hb; have n0_ := Aside0.mk (below_step (by repeat (first | (with_reducible first | exact HB.out | apply below_alloc | apply pw_below_drewN | apply below_drew1) | exact HB.out)) hb); have n1_ := Aside0.mk (hbox); have n2_ := Aside0.mk ((by rw [hg]; exact (below_size (by repeat (first | (with_reducible first | exact HB.out | apply below_alloc | apply pw_below_drewN | apply below_drew1) | exact HB.out))) : w.heap.size ≤ gb125)); have n3_ := Aside0.mk ((by rw [hg]; exact (below_size (by repeat (first | (with_reducible first | exact HB.out | apply below_alloc | apply pw_below_drewN | apply below_drew1) | exact HB.out))) : w.heap.size ≤ gb125)); clear HB; have HB := n0_; have BK125 := n1_; have GW125 := n2_; have GE125 := n3_; clear n0_ n1_ n2_ n3_; clear hb hbox hg; have hcz7_0 : w6.cell? ⟨gb125, 0, none⟩ = some (.int .i64 0) := (blk_cell BK125.out 0).trans rfl; have hcz7_1 : w6.cell? ⟨gb125, 1, none⟩ = some (.int .i64 0) := (blk_cell BK125.out 1).trans rfl; have hcz7_2 : w6.cell? ⟨gb125, 2, none⟩ = some (.int .i64 0) := (blk_cell BK125.out 2).trans rfl; have hcz7_3 : w6.cell? ⟨gb125, 3, none⟩ = some (.int .i64 0) := (blk_cell BK125.out 3).trans rfl; have hcz7_4 : w6.cell? ⟨gb125, 4, none⟩ = some (.int .i64 0) := (blk_cell BK125.out 4).trans rfl; have hcz7_5 : w6.cell? ⟨gb125, 5, none⟩ = some (.int .i64 0) := (blk_cell BK125.out 5).trans rfl; have hcz7_6 : w6.cell? ⟨gb125, 6, none⟩ = some (.int .i64 0) := (blk_cell BK125.out 6).trans rfl; have hcz7_7 : w6.cell? ⟨gb125, 7, none⟩ = some (.int .i64 0) := (blk_cell BK125.out 7).trans rfl; have hcz7_8 : w6.cell? ⟨gb125, 8, none⟩ = some (.int .i64 0) := (blk_cell BK125.out 8).trans rfl; have hcz7_9 : w6.cell? ⟨gb125, 9, none⟩ = some (.int .i64 0) := (blk_cell BK125.out 9).trans rfl; have hcz7_10 : w6.cell? ⟨gb125, 10, none⟩ = some (.bool false) := (blk_cell BK125.out 10).trans rfl; have hcz7_11 : w6.cell? ⟨gb125, 11, none⟩ = some (.bool false) := (blk_cell BK125.out 11).trans rfl; have hcz7_12 : w6.cell? ⟨gb125, 12, none⟩ = some (.bool false) := (blk_cell BK125.out 12).trans rfl; have hcz7_13 : w6.cell? ⟨gb125, 13, none⟩ = some (.int .i64 0) := (blk_cell BK125.out 13).trans rfl; have hcz7_14 : w6.cell? ⟨gb125, 14, none⟩ = some (.slice none 0 0) := (blk_cell BK125.out 14).trans rfl; have hcz7_15 : w6.cell? ⟨gb125, 15, none⟩ = some (.slice none 0 0) := (blk_cell BK125.out 15).trans rfl; have hfz7_0 := blk_frozen BK125.out 0; have hfz7_1 := blk_frozen BK125.out 1; have hfz7_2 := blk_frozen BK125.out 2; have hfz7_3 := blk_frozen BK125.out 3; have hfz7_4 := blk_frozen BK125.out 4; have hfz7_5 := blk_frozen BK125.out 5; have hfz7_6 := blk_frozen BK125.out 6; have hfz7_7 := blk_frozen BK125.out 7; have hfz7_8 := blk_frozen BK125.out 8; have hfz7_9 := blk_frozen BK125.out 9; have hfz7_10 := blk_frozen BK125.out 10; have hfz7_11 := blk_frozen BK125.out 11; have hfz7_12 := blk_frozen BK125.out 12; have hfz7_13 := blk_frozen BK125.out 13; have hfz7_14 := blk_frozen BK125.out 14; have hfz7_15 := blk_frozen BK125.out 15))
            repeat (go_quiet (first | ((with_reducible refine gate_dst (N := 5) rfl ?_); refine box_event ?hg (N := 5) ?hd (cs := #[.int .i64 0, .int .i64 0, .int .i64 0, .int .i64 0, .int .i64 0, .int .i64 0, .int .i64 0, .int .i64 0, .int .i64 0, .int .i64 0, .bool false, .bool false, .bool false, .int .i64 0, .slice none 0 0, .slice none 0 0]) (t := 48) ?hr ?_; (case hd => rfl); (case hg => rfl); (case hr => first | (go_simp; done) | (go_simp; rfl)); intro gb125 hg w6 hbox hb; have n0_ := Aside0.mk (below_step (by repeat (first | (with_reducible first | exact HB.out | apply below_alloc | apply pw_below_drewN | apply below_drew1) | exact HB.out)) hb); have n1_ := Aside0.mk (hbox); have n2_ := Aside0.mk ((by rw [hg]; exact (below_size (by repeat (first | (with_reducible first | exact HB.out | apply below_alloc | apply pw_below_drewN | apply below_drew1) | exact HB.out))) : w.heap.size ≤ gb125)); have n3_ := Aside0.mk ((by rw [hg]; exact (below_size (by repeat (first | (with_reducible first | exact HB.out | apply below_alloc | apply pw_below_drewN | apply below_drew1) | exact HB.out))) : w.heap.size ≤ gb125)); clear HB; have HB := n0_; have BK125 := n1_; have GW125 := n2_; have GE125 := n3_; clear n0_ n1_ n2_ n3_; clear hb hbox hg; have hcz7_0 : w6.cell? ⟨gb125, 0, none⟩ = some (.int .i64 0) := (blk_cell BK125.out 0).trans rfl; have hcz7_1 : w6.cell? ⟨gb125, 1, none⟩ = some (.int .i64 0) := (blk_cell BK125.out 1).trans rfl; have hcz7_2 : w6.cell? ⟨gb125, 2, none⟩ = some (.int .i64 0) := (blk_cell BK125.out 2).trans rfl; have hcz7_3 : w6.cell? ⟨gb125, 3, none⟩ = some (.int .i64 0) := (blk_cell BK125.out 3).trans rfl; have hcz7_4 : w6.cell? ⟨gb125, 4, none⟩ = some (.int .i64 0) := (blk_cell BK125.out 4).trans rfl; have hcz7_5 : w6.cell? ⟨gb125, 5, none⟩ = some (.int .i64 0) := (blk_cell BK125.out 5).trans rfl; have hcz7_6 : w6.cell? ⟨gb125, 6, none⟩ = some (.int .i64 0) := (blk_cell BK125.out 6).trans rfl; have hcz7_7 : w6.cell? ⟨gb125, 7, none⟩ = some (.int .i64 0) := (blk_cell BK125.out 7).trans rfl; have hcz7_8 : w6.cell? ⟨gb125, 8, none⟩ = some (.int .i64 0) := (blk_cell BK125.out 8).trans rfl; have hcz7_9 : w6.cell? ⟨gb125, 9, none⟩ = some (.int .i64 0) := (blk_cell BK125.out 9).trans rfl; have hcz7_10 : w6.cell? ⟨gb125, 10, none⟩ = some (.bool false) := (blk_cell BK125.out 10).trans rfl; have hcz7_11 : w6.cell? ⟨gb125, 11, none⟩ = some (.bool false) := (blk_cell BK125.out 11).trans rfl; have hcz7_12 : w6.cell? ⟨gb125, 12, none⟩ = some (.bool false) := (blk_cell BK125.out 12).trans rfl; have hcz7_13 : w6.cell? ⟨gb125, 13, none⟩ = some (.int .i64 0) := (blk_cell BK125.out 13).trans rfl; have hcz7_14 : w6.cell? ⟨gb125, 14, none⟩ = some (.slice none 0 0) := (blk_cell BK125.out 14).trans rfl; have hcz7_15 : w6.cell? ⟨gb125, 15, none⟩ = some (.slice none 0 0) := (blk_cell BK125.out 15).trans rfl; have hfz7_0 := blk_frozen BK125.out 0; have hfz7_1 := blk_frozen BK125.out 1; have hfz7_2 := blk_frozen BK125.out 2; have hfz7_3 := blk_frozen BK125.out 3; have hfz7_4 := blk_frozen BK125.out 4; have hfz7_5 := blk_frozen BK125.out 5; have hfz7_6 := blk_frozen BK125.out 6; have hfz7_7 := blk_frozen BK125.out 7; have hfz7_8 := blk_frozen BK125.out 8; have hfz7_9 := blk_frozen BK125.out 9; have hfz7_10 := blk_frozen BK125.out 10; have hfz7_11 := blk_frozen BK125.out 11; have hfz7_12 := blk_frozen BK125.out 12; have hfz7_13 := blk_frozen BK125.out 13; have hfz7_14 := blk_frozen BK125.out 14; have hfz7_15 := blk_frozen BK125.out 15)); go_upto_region 5 with (first | ((with_reducible refine gate_dst (N := 5) rfl ?_); refine box_event ?hg (N := 5) ?hd (cs := #[.int .i64 0, .int .i64 0, .int .i64 0, .int .i64 0, .int .i64 0, .int .i64 0, .int .i64 0, .int .i64 0, .int .i64 0, .int .i64 0, .bool false, .bool false, .bool false, .int .i64 0, .slice none 0 0, .slice none 0 0]) (t := 48) ?hr ?_; (case hd => rfl); (case hg => rfl); (case hr => first | (go_simp; done) | (go_simp; rfl)); intro gb125 hg w6 hbox hb; have n0_ := Aside0.mk (below_step (by repeat (first | (with_reducible first | exact HB.out | apply below_alloc | apply pw_below_drewN | apply below_drew1) | exact HB.out)) hb); have n1_ := Aside0.mk (hbox); have n2_ := Aside0.mk ((by rw [hg]; exact (below_size (by repeat (first | (with_reducible first | exact HB.out | apply below_alloc | apply pw_below_drewN | apply below_drew1) | exact HB.out))) : w.heap.size ≤ gb125)); have n3_ := Aside0.mk ((by rw [hg]; exact (below_size (by repeat (first | (with_reducible first | exact HB.out | apply below_alloc | apply pw_below_drewN | apply below_drew1) | exact HB.out))) : w.heap.size ≤ gb125)); clear HB; have HB := n0_; have BK125 := n1_; have GW125 := n2_; have GE125 := n3_; clear n0_ n1_ n2_ n3_; clear hb hbox hg; have hcz7_0 : w6.cell? ⟨gb125, 0, none⟩ = some (.int .i64 0) := (blk_cell BK125.out 0).trans rfl; have hcz7_1 : w6.cell? ⟨gb125, 1, none⟩ = some (.int .i64 0) := (blk_cell BK125.out 1).trans rfl; have hcz7_2 : w6.cell? ⟨gb125, 2, none⟩ = some (.int .i64 0) := (blk_cell BK125.out 2).trans rfl; have hcz7_3 : w6.cell? ⟨gb125, 3, none⟩ = some (.int .i64 0) := (blk_cell BK125.out 3).trans rfl; have hcz7_4 : w6.cell? ⟨gb125, 4, none⟩ = some (.int .i64 0) := (blk_cell BK125.out 4).trans rfl; have hcz7_5 : w6.cell? ⟨gb125, 5, none⟩ = some (.int .i64 0) := (blk_cell BK125.out 5).trans rfl; have hcz7_6 : w6.cell? ⟨gb125, 6, none⟩ = some (.int .i64 0) := (blk_cell BK125.out 6).trans rfl; have hcz7_7 : w6.cell? ⟨gb125, 7, none⟩ = some (.int .i64 0) := (blk_cell BK125.out 7).trans rfl; have hcz7_8 : w6.cell? ⟨gb125, 8, none⟩ = some (.int .i64 0) := (blk_cell BK125.out 8).trans rfl; have hcz7_9 : w6.cell? ⟨gb125, 9, none⟩ = some (.int .i64 0) := (blk_cell BK125.out 9).trans rfl; have hcz7_10 : w6.cell? ⟨gb125, 10, none⟩ = some (.bool false) := (blk_cell BK125.out 10).trans rfl; have hcz7_11 : w6.cell? ⟨gb125, 11, none⟩ = some (.bool false) := (blk_cell BK125.out 11).trans rfl; have hcz7_12 : w6.cell? ⟨gb125, 12, none⟩ = some (.bool false) := (blk_cell BK125.out 12).trans rfl; have hcz7_13 : w6.cell? ⟨gb125, 13, none⟩ = some (.int .i64 0) := (blk_cell BK125.out 13).trans rfl; have hcz7_14 : w6.cell? ⟨gb125, 14, none⟩ = some (.slice none 0 0) := (blk_cell BK125.out 14).trans rfl; have hcz7_15 : w6.cell? ⟨gb125, 15, none⟩ = some (.slice none 0 0) := (blk_cell BK125.out 15).trans rfl; have hfz7_0 := blk_frozen BK125.out 0; have hfz7_1 := blk_frozen BK125.out 1; have hfz7_2 := blk_frozen BK125.out 2; have hfz7_3 := blk_frozen BK125.out 3; have hfz7_4 := blk_frozen BK125.out 4; have hfz7_5 := blk_frozen BK125.out 5; have hfz7_6 := blk_frozen BK125.out 6; have hfz7_7 := blk_frozen BK125.out 7; have hfz7_8 := blk_frozen BK125.out 8; have hfz7_9 := blk_frozen BK125.out 9; have hfz7_10 := blk_frozen BK125.out 10; have hfz7_11 := blk_frozen BK125.out 11; have hfz7_12 := blk_frozen BK125.out 12; have hfz7_13 := blk_frozen BK125.out 13; have hfz7_14 := blk_frozen BK125.out 14; have hfz7_15 := blk_frozen BK125.out 15)))
            (try simp only [Act.put, List.setIfInBounds_toArray, List.set_cons_zero, List.set_cons_succ])
            go_cut [25] (fun v25 wc => ∃ (kq : Nat) (x25_4 : Bool), v25 = .bool x25_4 ∧ Aside0 (throttle_Oldest.j1 kq l0 x3_1 x8_1 l0 (l0.length : Int) x8_1 x25_4 ((rd_T48 l0 x8_1).f0) ((rd_T48 l0 x8_1).f1) ((rd_T48 l0 x8_1).f2) ((rd_T48 l0 x8_1).f3) ((rd_T48 l0 x8_1).f4) ((rd_T48 l0 x8_1).f5) ((rd_T48 l0 x8_1).f6) ((rd_T48 l0 x8_1).f7) ((rd_T48 l0 x8_1).f8) ((rd_T48 l0 x8_1).f9) ((rd_T48 l0 x8_1).f10) ((rd_T48 l0 x8_1).f11) ((rd_T48 l0 x8_1).f12) ((rd_T48 l0 x8_1).f13) ((rd_T48 l0 x8_1).f14) ((rd_T48 l0 x8_1).f15) = some r) ∧ Aside0 (kq ≤ k1) ∧ Aside0 (wc.heap[gb125]? = some (.cells #[.int .i64 ((rd_T48 l0 x8_1).f0), .int .i64 ((rd_T48 l0 x8_1).f1), .int .i64 ((rd_T48 l0 x8_1).f2), .int .i64 ((rd_T48 l0 x8_1).f3), .int .i64 ((rd_T48 l0 x8_1).f4), .int .i64 ((rd_T48 l0 x8_1).f5), .int .i64 ((rd_T48 l0 x8_1).f6), .int .i64 ((rd_T48 l0 x8_1).f7), .int .i64 ((rd_T48 l0 x8_1).f8), .int .i64 ((rd_T48 l0 x8_1).f9), .bool ((rd_T48 l0 x8_1).f10), .bool ((rd_T48 l0 x8_1).f11), .bool ((rd_T48 l0 x8_1).f12), .int .i64 ((rd_T48 l0 x8_1).f13), (.slice A124_14 ((rd_T48 l0 x8_1).f14).length c124_14), (.slice A124_15 ((rd_T48 l0 x8_1).f15).length c124_15)] 48 (0, 0))) ∧ Aside0 (Below w.heap.size w wc))
            case first =>
              have H := HC5.out
              clear HC5
              by_cases c8 : ((rd_T48 l0 x8_1).f0) = 4
              · rw [if_pos c8] at H
                have c8b0 : (((rd_T48 l0 x8_1).f0) == 4) = true := beq_iff_eq.mpr c8
                have c8b1 : (((rd_T48 l0 x8_1).f0) != 4) = false := bne_eq_false_iff_eq.mpr c8
                clear c8
                (first | rw [c8b0] | (simp only [i64_w, i32_w]; rw [c8b0]) | skip)
                obtain ⟨bq9, hbq9⟩ : ∃ b_ : Bool, b_ = ((rd_T48 l0 x8_1).f10) := ⟨_, rfl⟩
                replace H : (if (bq9 = true) then (throttle_Oldest.j1 k1 l0 x3_1 x8_1 l0 (l0.length : Int) x8_1 (((rd_T48 l0 x8_1).f1) != 0) ((rd_T48 l0 x8_1).f0) ((rd_T48 l0 x8_1).f1) ((rd_T48 l0 x8_1).f2) ((rd_T48 l0 x8_1).f3) ((rd_T48 l0 x8_1).f4) ((rd_T48 l0 x8_1).f5) ((rd_T48 l0 x8_1).f6) ((rd_T48 l0 x8_1).f7) ((rd_T48 l0 x8_1).f8) ((rd_T48 l0 x8_1).f9) bq9 ((rd_T48 l0 x8_1).f11) ((rd_T48 l0 x8_1).f12) ((rd_T48 l0 x8_1).f13) ((rd_T48 l0 x8_1).f14) ((rd_T48 l0 x8_1).f15)) else (throttle_Oldest.j1 k1 l0 x3_1 x8_1 l0 (l0.length : Int) x8_1 true ((rd_T48 l0 x8_1).f0) ((rd_T48 l0 x8_1).f1) ((rd_T48 l0 x8_1).f2) ((rd_T48 l0 x8_1).f3) ((rd_T48 l0 x8_1).f4) ((rd_T48 l0 x8_1).f5) ((rd_T48 l0 x8_1).f6) ((rd_T48 l0 x8_1).f7) ((rd_T48 l0 x8_1).f8) ((rd_T48 l0 x8_1).f9) bq9 ((rd_T48 l0 x8_1).f11) ((rd_T48 l0 x8_1).f12) ((rd_T48 l0 x8_1).f13) ((rd_T48 l0 x8_1).f14) ((rd_T48 l0 x8_1).f15))) = some r := by rw [← hbq9] at H; exact H
                have Nbq9 := Aside0.mk hbq9
                clear hbq9
                by_cases c10 : (bq9 = true)
                · subst c10
                  have H1 : (throttle_Oldest.j1 k1 l0 x3_1 x8_1 l0 (l0.length : Int) x8_1 (((rd_T48 l0 x8_1).f1) != 0) ((rd_T48 l0 x8_1).f0) ((rd_T48 l0 x8_1).f1) ((rd_T48 l0 x8_1).f2) ((rd_T48 l0 x8_1).f3) ((rd_T48 l0 x8_1).f4) ((rd_T48 l0 x8_1).f5) ((rd_T48 l0 x8_1).f6) ((rd_T48 l0 x8_1).f7) ((rd_T48 l0 x8_1).f8) ((rd_T48 l0 x8_1).f9) true ((rd_T48 l0 x8_1).f11) ((rd_T48 l0 x8_1).f12) ((rd_T48 l0 x8_1).f13) ((rd_T48 l0 x8_1).f14) ((rd_T48 l0 x8_1).f15)) = some r := by rw [if_pos rfl] at H; exact H
                  clear H
                  have H := H1
                  clear H1
                  (try rw [← Nbq9.out] at BK125)
                  have H' := Aside0.mk H
                  clear H
                  have hcz11_0 : w6.cell? ⟨gb125, 0, none⟩ = some (.int .i64 0) := (blk_cell BK125.out 0).trans rfl
                  have hcz11_1 : w6.cell? ⟨gb125, 1, none⟩ = some (.int .i64 0) := (blk_cell BK125.out 1).trans rfl
                  have hcz11_2 : w6.cell? ⟨gb125, 2, none⟩ = some (.int .i64 0) := (blk_cell BK125.out 2).trans rfl
                  have hcz11_3 : w6.cell? ⟨gb125, 3, none⟩ = some (.int .i64 0) := (blk_cell BK125.out 3).trans rfl
                  have hcz11_4 : w6.cell? ⟨gb125, 4, none⟩ = some (.int .i64 0) := (blk_cell BK125.out 4).trans rfl
                  have hcz11_5 : w6.cell? ⟨gb125, 5, none⟩ = some (.int .i64 0) := (blk_cell BK125.out 5).trans rfl
                  have hcz11_6 : w6.cell? ⟨gb125, 6, none⟩ = some (.int .i64 0) := (blk_cell BK125.out 6).trans rfl
                  have hcz11_7 : w6.cell? ⟨gb125, 7, none⟩ = some (.int .i64 0) := (blk_cell BK125.out 7).trans rfl
                  have hcz11_8 : w6.cell? ⟨gb125, 8, none⟩ = some (.int .i64 0) := (blk_cell BK125.out 8).trans rfl
                  have hcz11_9 : w6.cell? ⟨gb125, 9, none⟩ = some (.int .i64 0) := (blk_cell BK125.out 9).trans rfl
                  have hcz11_10 : w6.cell? ⟨gb125, 10, none⟩ = some (.bool false) := (blk_cell BK125.out 10).trans rfl
                  have hcz11_11 : w6.cell? ⟨gb125, 11, none⟩ = some (.bool false) := (blk_cell BK125.out 11).trans rfl
                  have hcz11_12 : w6.cell? ⟨gb125, 12, none⟩ = some (.bool false) := (blk_cell BK125.out 12).trans rfl
                  have hcz11_13 : w6.cell? ⟨gb125, 13, none⟩ = some (.int .i64 0) := (blk_cell BK125.out 13).trans rfl
                  have hcz11_14 : w6.cell? ⟨gb125, 14, none⟩ = some (.slice none 0 0) := (blk_cell BK125.out 14).trans rfl
                  have hcz11_15 : w6.cell? ⟨gb125, 15, none⟩ = some (.slice none 0 0) := (blk_cell BK125.out 15).trans rfl
                  have hfz11_0 := blk_frozen BK125.out 0
                  have hfz11_1 := blk_frozen BK125.out 1
                  have hfz11_2 := blk_frozen BK125.out 2
                  have hfz11_3 := blk_frozen BK125.out 3
                  have hfz11_4 := blk_frozen BK125.out 4
                  have hfz11_5 := blk_frozen BK125.out 5
                  have hfz11_6 := blk_frozen BK125.out 6
                  have hfz11_7 := blk_frozen BK125.out 7
                  have hfz11_8 := blk_frozen BK125.out 8
                  have hfz11_9 := blk_frozen BK125.out 9
                  have hfz11_10 := blk_frozen BK125.out 10
                  have hfz11_11 := blk_frozen BK125.out 11
                  have hfz11_12 := blk_frozen BK125.out 12
                  have hfz11_13 := blk_frozen BK125.out 13
                  have hfz11_14 := blk_frozen BK125.out 14
                  have hfz11_15 := blk_frozen BK125.out 15
                  (try rw [← Nbq9.out])
                  (try rw [← Nbq9.out] at BK125)
                  go_wp2
                  repeat (go_quiet (fail); try go_wp2)
                  go_meet
                  case rel => (try rw [← Nbq9.out]); exact ⟨_, ((((rd_T48 l0 x8_1).f1) != 0)), (by first | rfl | (simp; done) | (simp [*]; done)), H', ⟨by have := HK1.out; first | omega | exact Nat.le_refl _⟩, ⟨by (with_reducible repeat (first | refine blk_drewN ?_ _ | refine blk_drew ?_ | refine blk_alloc ?_ _)); refine blk_put (cs := #[.int .i64 ((rd_T48 l0 x8_1).f0), .int .i64 ((rd_T48 l0 x8_1).f1), .int .i64 ((rd_T48 l0 x8_1).f2), .int .i64 ((rd_T48 l0 x8_1).f3), .int .i64 ((rd_T48 l0 x8_1).f4), .int .i64 ((rd_T48 l0 x8_1).f5), .int .i64 ((rd_T48 l0 x8_1).f6), .int .i64 ((rd_T48 l0 x8_1).f7), .int .i64 ((rd_T48 l0 x8_1).f8), .int .i64 ((rd_T48 l0 x8_1).f9), .bool (true), .bool ((rd_T48 l0 x8_1).f11), .bool ((rd_T48 l0 x8_1).f12), .int .i64 ((rd_T48 l0 x8_1).f13), .slice A124_14 ((rd_T48 l0 x8_1).f14).length c124_14, .slice none 0 0]) ?_ 15 _ rfl; (with_reducible repeat (first | refine blk_drewN ?_ _ | refine blk_drew ?_ | refine blk_alloc ?_ _)); refine blk_put (cs := #[.int .i64 ((rd_T48 l0 x8_1).f0), .int .i64 ((rd_T48 l0 x8_1).f1), .int .i64 ((rd_T48 l0 x8_1).f2), .int .i64 ((rd_T48 l0 x8_1).f3), .int .i64 ((rd_T48 l0 x8_1).f4), .int .i64 ((rd_T48 l0 x8_1).f5), .int .i64 ((rd_T48 l0 x8_1).f6), .int .i64 ((rd_T48 l0 x8_1).f7), .int .i64 ((rd_T48 l0 x8_1).f8), .int .i64 ((rd_T48 l0 x8_1).f9), .bool (true), .bool ((rd_T48 l0 x8_1).f11), .bool ((rd_T48 l0 x8_1).f12), .int .i64 ((rd_T48 l0 x8_1).f13), .slice none 0 0, .slice none 0 0]) ?_ 14 _ rfl; (with_reducible repeat (first | refine blk_drewN ?_ _ | refine blk_drew ?_ | refine blk_alloc ?_ _)); refine blk_put (cs := #[.int .i64 ((rd_T48 l0 x8_1).f0), .int .i64 ((rd_T48 l0 x8_1).f1), .int .i64 ((rd_T48 l0 x8_1).f2), .int .i64 ((rd_T48 l0 x8_1).f3), .int .i64 ((rd_T48 l0 x8_1).f4), .int .i64 ((rd_T48 l0 x8_1).f5), .int .i64 ((rd_T48 l0 x8_1).f6), .int .i64 ((rd_T48 l0 x8_1).f7), .int .i64 ((rd_T48 l0 x8_1).f8), .int .i64 ((rd_T48 l0 x8_1).f9), .bool (true), .bool ((rd_T48 l0 x8_1).f11), .bool ((rd_T48 l0 x8_1).f12), .int .i64 0, .slice none 0 0, .slice none 0 0]) ?_ 13 _ rfl; (with_reducible repeat (first | refine blk_drewN ?_ _ | refine blk_drew ?_ | refine blk_alloc ?_ _)); refine blk_put (cs := #[.int .i64 ((rd_T48 l0 x8_1).f0), .int .i64 ((rd_T48 l0 x8_1).f1), .int .i64 ((rd_T48 l0 x8_1).f2), .int .i64 ((rd_T48 l0 x8_1).f3), .int .i64 ((rd_T48 l0 x8_1).f4), .int .i64 ((rd_T48 l0 x8_1).f5), .int .i64 ((rd_T48 l0 x8_1).f6), .int .i64 ((rd_T48 l0 x8_1).f7), .int .i64 ((rd_T48 l0 x8_1).f8), .int .i64 ((rd_T48 l0 x8_1).f9), .bool (true), .bool ((rd_T48 l0 x8_1).f11), .bool false, .int .i64 0, .slice none 0 0, .slice none 0 0]) ?_ 12 _ rfl; (with_reducible repeat (first | refine blk_drewN ?_ _ | refine blk_drew ?_ | refine blk_alloc ?_ _)); refine blk_put (cs := #[.int .i64 ((rd_T48 l0 x8_1).f0), .int .i64 ((rd_T48 l0 x8_1).f1), .int .i64 ((rd_T48 l0 x8_1).f2), .int .i64 ((rd_T48 l0 x8_1).f3), .int .i64 ((rd_T48 l0 x8_1).f4), .int .i64 ((rd_T48 l0 x8_1).f5), .int .i64 ((rd_T48 l0 x8_1).f6), .int .i64 ((rd_T48 l0 x8_1).f7), .int .i64 ((rd_T48 l0 x8_1).f8), .int .i64 ((rd_T48 l0 x8_1).f9), .bool (true), .bool false, .bool false, .int .i64 0, .slice none 0 0, .slice none 0 0]) ?_ 11 _ rfl; (with_reducible repeat (first | refine blk_drewN ?_ _ | refine blk_drew ?_ | refine blk_alloc ?_ _)); refine blk_put (cs := #[.int .i64 ((rd_T48 l0 x8_1).f0), .int .i64 ((rd_T48 l0 x8_1).f1), .int .i64 ((rd_T48 l0 x8_1).f2), .int .i64 ((rd_T48 l0 x8_1).f3), .int .i64 ((rd_T48 l0 x8_1).f4), .int .i64 ((rd_T48 l0 x8_1).f5), .int .i64 ((rd_T48 l0 x8_1).f6), .int .i64 ((rd_T48 l0 x8_1).f7), .int .i64 ((rd_T48 l0 x8_1).f8), .int .i64 ((rd_T48 l0 x8_1).f9), .bool false, .bool false, .bool false, .int .i64 0, .slice none 0 0, .slice none 0 0]) ?_ 10 _ rfl; (with_reducible repeat (first | refine blk_drewN ?_ _ | refine blk_drew ?_ | refine blk_alloc ?_ _)); refine blk_put (cs := #[.int .i64 ((rd_T48 l0 x8_1).f0), .int .i64 ((rd_T48 l0 x8_1).f1), .int .i64 ((rd_T48 l0 x8_1).f2), .int .i64 ((rd_T48 l0 x8_1).f3), .int .i64 ((rd_T48 l0 x8_1).f4), .int .i64 ((rd_T48 l0 x8_1).f5), .int .i64 ((rd_T48 l0 x8_1).f6), .int .i64 ((rd_T48 l0 x8_1).f7), .int .i64 ((rd_T48 l0 x8_1).f8), .int .i64 0, .bool false, .bool false, .bool false, .int .i64 0, .slice none 0 0, .slice none 0 0]) ?_ 9 _ rfl; (with_reducible repeat (first | refine blk_drewN ?_ _ | refine blk_drew ?_ | refine blk_alloc ?_ _)); refine blk_put (cs := #[.int .i64 ((rd_T48 l0 x8_1).f0), .int .i64 ((rd_T48 l0 x8_1).f1), .int .i64 ((rd_T48 l0 x8_1).f2), .int .i64 ((rd_T48 l0 x8_1).f3), .int .i64 ((rd_T48 l0 x8_1).f4), .int .i64 ((rd_T48 l0 x8_1).f5), .int .i64 ((rd_T48 l0 x8_1).f6), .int .i64 ((rd_T48 l0 x8_1).f7), .int .i64 0, .int .i64 0, .bool false, .bool false, .bool false, .int .i64 0, .slice none 0 0, .slice none 0 0]) ?_ 8 _ rfl; (with_reducible repeat (first | refine blk_drewN ?_ _ | refine blk_drew ?_ | refine blk_alloc ?_ _)); refine blk_put (cs := #[.int .i64 ((rd_T48 l0 x8_1).f0), .int .i64 ((rd_T48 l0 x8_1).f1), .int .i64 ((rd_T48 l0 x8_1).f2), .int .i64 ((rd_T48 l0 x8_1).f3), .int .i64 ((rd_T48 l0 x8_1).f4), .int .i64 ((rd_T48 l0 x8_1).f5), .int .i64 ((rd_T48 l0 x8_1).f6), .int .i64 0, .int .i64 0, .int .i64 0, .bool false, .bool false, .bool false, .int .i64 0, .slice none 0 0, .slice none 0 0]) ?_ 7 _ rfl; (with_reducible repeat (first | refine blk_drewN ?_ _ | refine blk_drew ?_ | refine blk_alloc ?_ _)); refine blk_put (cs := #[.int .i64 ((rd_T48 l0 x8_1).f0), .int .i64 ((rd_T48 l0 x8_1).f1), .int .i64 ((rd_T48 l0 x8_1).f2), .int .i64 ((rd_T48 l0 x8_1).f3), .int .i64 ((rd_T48 l0 x8_1).f4), .int .i64 ((rd_T48 l0 x8_1).f5), .int .i64 0, .int .i64 0, .int .i64 0, .int .i64 0, .bool false, .bool false, .bool false, .int .i64 0, .slice none 0 0, .slice none 0 0]) ?_ 6 _ rfl; (with_reducible repeat (first | refine blk_drewN ?_ _ | refine blk_drew ?_ | refine blk_alloc ?_ _)); refine blk_put (cs := #[.int .i64 ((rd_T48 l0 x8_1).f0), .int .i64 ((rd_T48 l0 x8_1).f1), .int .i64 ((rd_T48 l0 x8_1).f2), .int .i64 ((rd_T48 l0 x8_1).f3), .int .i64 ((rd_T48 l0 x8_1).f4), .int .i64 0, .int .i64 0, .int .i64 0, .int .i64 0, .int .i64 0, .bool false, .bool false, .bool false, .int .i64 0, .slice none 0 0, .slice none 0 0]) ?_ 5 _ rfl; (with_reducible repeat (first | refine blk_drewN ?_ _ | refine blk_drew ?_ | refine blk_alloc ?_ _)); refine blk_put (cs := #[.int .i64 ((rd_T48 l0 x8_1).f0), .int .i64 ((rd_T48 l0 x8_1).f1), .int .i64 ((rd_T48 l0 x8_1).f2), .int .i64 ((rd_T48 l0 x8_1).f3), .int .i64 0, .int .i64 0, .int .i64 0, .int .i64 0, .int .i64 0, .int .i64 0, .bool false, .bool false, .bool false, .int .i64 0, .slice none 0 0, .slice none 0 0]) ?_ 4 _ rfl; (with_reducible repeat (first | refine blk_drewN ?_ _ | refine blk_drew ?_ | refine blk_alloc ?_ _)); refine blk_put (cs := #[.int .i64 ((rd_T48 l0 x8_1).f0), .int .i64 ((rd_T48 l0 x8_1).f1), .int .i64 ((rd_T48 l0 x8_1).f2), .int .i64 0, .int .i64 0, .int .i64 0, .int .i64 0, .int .i64 0, .int .i64 0, .int .i64 0, .bool false, .bool false, .bool false, .int .i64 0, .slice none 0 0, .slice none 0 0]) ?_ 3 _ rfl; (with_reducible repeat (first | refine blk_drewN ?_ _ | refine blk_drew ?_ | refine blk_alloc ?_ _)); refine blk_put (cs := #[.int .i64 ((rd_T48 l0 x8_1).f0), .int .i64 ((rd_T48 l0 x8_1).f1), .int .i64 0, .int .i64 0, .int .i64 0, .int .i64 0, .int .i64 0, .int .i64 0, .int .i64 0, .int .i64 0, .bool false, .bool false, .bool false, .int .i64 0, .slice none 0 0, .slice none 0 0]) ?_ 2 _ rfl; (with_reducible repeat (first | refine blk_drewN ?_ _ | refine blk_drew ?_ | refine blk_alloc ?_ _)); refine blk_put (cs := #[.int .i64 ((rd_T48 l0 x8_1).f0), .int .i64 0, .int .i64 0, .int .i64 0, .int .i64 0, .int .i64 0, .int .i64 0, .int .i64 0, .int .i64 0, .int .i64 0, .bool false, .bool false, .bool false, .int .i64 0, .slice none 0 0, .slice none 0 0]) ?_ 1 _ rfl; (with_reducible repeat (first | refine blk_drewN ?_ _ | refine blk_drew ?_ | refine blk_alloc ?_ _)); refine blk_put (cs := #[.int .i64 0, .int .i64 0, .int .i64 0, .int .i64 0, .int .i64 0, .int .i64 0, .int .i64 0, .int .i64 0, .int .i64 0, .int .i64 0, .bool false, .bool false, .bool false, .int .i64 0, .slice none 0 0, .slice none 0 0]) ?_ 0 _ rfl; (with_reducible repeat (first | refine blk_drewN ?_ _ | refine blk_drew ?_ | refine blk_alloc ?_ _)); exact BK125.out⟩, ⟨by repeat (first | (with_reducible first | exact HB.out | apply below_alloc | apply pw_below_drewN | apply below_drew1 | refine below_set ?_ GE125.out) | exact HB.out)⟩⟩
                · replace c10 := Bool.eq_false_iff.mpr c10
                  subst c10
                  have H1 : (throttle_Oldest.j1 k1 l0 x3_1 x8_1 l0 (l0.length : Int) x8_1 true ((rd_T48 l0 x8_1).f0) ((rd_T48 l0 x8_1).f1) ((rd_T48 l0 x8_1).f2) ((rd_T48 l0 x8_1).f3) ((rd_T48 l0 x8_1).f4) ((rd_T48 l0 x8_1).f5) ((rd_T48 l0 x8_1).f6) ((rd_T48 l0 x8_1).f7) ((rd_T48 l0 x8_1).f8) ((rd_T48 l0 x8_1).f9) false ((rd_T48 l0 x8_1).f11) ((rd_T48 l0 x8_1).f12) ((rd_T48 l0 x8_1).f13) ((rd_T48 l0 x8_1).f14) ((rd_T48 l0 x8_1).f15)) = some r := by rw [if_neg (show ¬ (false = true) by decide)] at H; exact H
                  clear H
                  have H := H1
                  clear H1
                  (try rw [← Nbq9.out] at BK125)
                  have H' := Aside0.mk H
                  clear H
                  have hcz12_0 : w6.cell? ⟨gb125, 0, none⟩ = some (.int .i64 0) := (blk_cell BK125.out 0).trans rfl
                  have hcz12_1 : w6.cell? ⟨gb125, 1, none⟩ = some (.int .i64 0) := (blk_cell BK125.out 1).trans rfl
                  have hcz12_2 : w6.cell? ⟨gb125, 2, none⟩ = some (.int .i64 0) := (blk_cell BK125.out 2).trans rfl
                  have hcz12_3 : w6.cell? ⟨gb125, 3, none⟩ = some (.int .i64 0) := (blk_cell BK125.out 3).trans rfl
                  have hcz12_4 : w6.cell? ⟨gb125, 4, none⟩ = some (.int .i64 0) := (blk_cell BK125.out 4).trans rfl
                  have hcz12_5 : w6.cell? ⟨gb125, 5, none⟩ = some (.int .i64 0) := (blk_cell BK125.out 5).trans rfl
                  have hcz12_6 : w6.cell? ⟨gb125, 6, none⟩ = some (.int .i64 0) := (blk_cell BK125.out 6).trans rfl
                  have hcz12_7 : w6.cell? ⟨gb125, 7, none⟩ = some (.int .i64 0) := (blk_cell BK125.out 7).trans rfl
                  have hcz12_8 : w6.cell? ⟨gb125, 8, none⟩ = some (.int .i64 0) := (blk_cell BK125.out 8).trans rfl
                  have hcz12_9 : w6.cell? ⟨gb125, 9, none⟩ = some (.int .i64 0) := (blk_cell BK125.out 9).trans rfl
                  have hcz12_10 : w6.cell? ⟨gb125, 10, none⟩ = some (.bool false) := (blk_cell BK125.out 10).trans rfl
                  have hcz12_11 : w6.cell? ⟨gb125, 11, none⟩ = some (.bool false) := (blk_cell BK125.out 11).trans rfl
                  have hcz12_12 : w6.cell? ⟨gb125, 12, none⟩ = some (.bool false) := (blk_cell BK125.out 12).trans rfl
                  have hcz12_13 : w6.cell? ⟨gb125, 13, none⟩ = some (.int .i64 0) := (blk_cell BK125.out 13).trans rfl
                  have hcz12_14 : w6.cell? ⟨gb125, 14, none⟩ = some (.slice none 0 0) := (blk_cell BK125.out 14).trans rfl
                  have hcz12_15 : w6.cell? ⟨gb125, 15, none⟩ = some (.slice none 0 0) := (blk_cell BK125.out 15).trans rfl
                  have hfz12_0 := blk_frozen BK125.out 0
                  have hfz12_1 := blk_frozen BK125.out 1
                  have hfz12_2 := blk_frozen BK125.out 2
                  have hfz12_3 := blk_frozen BK125.out 3
                  have hfz12_4 := blk_frozen BK125.out 4
                  have hfz12_5 := blk_frozen BK125.out 5
                  have hfz12_6 := blk_frozen BK125.out 6
                  have hfz12_7 := blk_frozen BK125.out 7
                  have hfz12_8 := blk_frozen BK125.out 8
                  have hfz12_9 := blk_frozen BK125.out 9
                  have hfz12_10 := blk_frozen BK125.out 10
                  have hfz12_11 := blk_frozen BK125.out 11
                  have hfz12_12 := blk_frozen BK125.out 12
                  have hfz12_13 := blk_frozen BK125.out 13
                  have hfz12_14 := blk_frozen BK125.out 14
                  have hfz12_15 := blk_frozen BK125.out 15
                  (try rw [← Nbq9.out])
                  (try rw [← Nbq9.out] at BK125)
                  go_wp2
                  repeat (go_quiet (fail); try go_wp2)
                  go_meet
                  case rel => (try rw [← Nbq9.out]); exact ⟨_, (true), (by first | rfl | (simp; done) | (simp [*]; done)), H', ⟨by have := HK1.out; first | omega | exact Nat.le_refl _⟩, ⟨by (with_reducible repeat (first | refine blk_drewN ?_ _ | refine blk_drew ?_ | refine blk_alloc ?_ _)); refine blk_put (cs := #[.int .i64 ((rd_T48 l0 x8_1).f0), .int .i64 ((rd_T48 l0 x8_1).f1), .int .i64 ((rd_T48 l0 x8_1).f2), .int .i64 ((rd_T48 l0 x8_1).f3), .int .i64 ((rd_T48 l0 x8_1).f4), .int .i64 ((rd_T48 l0 x8_1).f5), .int .i64 ((rd_T48 l0 x8_1).f6), .int .i64 ((rd_T48 l0 x8_1).f7), .int .i64 ((rd_T48 l0 x8_1).f8), .int .i64 ((rd_T48 l0 x8_1).f9), .bool (false), .bool ((rd_T48 l0 x8_1).f11), .bool ((rd_T48 l0 x8_1).f12), .int .i64 ((rd_T48 l0 x8_1).f13), .slice A124_14 ((rd_T48 l0 x8_1).f14).length c124_14, .slice none 0 0]) ?_ 15 _ rfl; (with_reducible repeat (first | refine blk_drewN ?_ _ | refine blk_drew ?_ | refine blk_alloc ?_ _)); refine blk_put (cs := #[.int .i64 ((rd_T48 l0 x8_1).f0), .int .i64 ((rd_T48 l0 x8_1).f1), .int .i64 ((rd_T48 l0 x8_1).f2), .int .i64 ((rd_T48 l0 x8_1).f3), .int .i64 ((rd_T48 l0 x8_1).f4), .int .i64 ((rd_T48 l0 x8_1).f5), .int .i64 ((rd_T48 l0 x8_1).f6), .int .i64 ((rd_T48 l0 x8_1).f7), .int .i64 ((rd_T48 l0 x8_1).f8), .int .i64 ((rd_T48 l0 x8_1).f9), .bool (false), .bool ((rd_T48 l0 x8_1).f11), .bool ((rd_T48 l0 x8_1).f12), .int .i64 ((rd_T48 l0 x8_1).f13), .slice none 0 0, .slice none 0 0]) ?_ 14 _ rfl; (with_reducible repeat (first | refine blk_drewN ?_ _ | refine blk_drew ?_ | refine blk_alloc ?_ _)); refine blk_put (cs := #[.int .i64 ((rd_T48 l0 x8_1).f0), .int .i64 ((rd_T48 l0 x8_1).f1), .int .i64 ((rd_T48 l0 x8_1).f2), .int .i64 ((rd_T48 l0 x8_1).f3), .int .i64 ((rd_T48 l0 x8_1).f4), .int .i64 ((rd_T48 l0 x8_1).f5), .int .i64 ((rd_T48 l0 x8_1).f6), .int .i64 ((rd_T48 l0 x8_1).f7), .int .i64 ((rd_T48 l0 x8_1).f8), .int .i64 ((rd_T48 l0 x8_1).f9), .bool (false), .bool ((rd_T48 l0 x8_1).f11), .bool ((rd_T48 l0 x8_1).f12), .int .i64 0, .slice none 0 0, .slice none 0 0]) ?_ 13 _ rfl; (with_reducible repeat (first | refine blk_drewN ?_ _ | refine blk_drew ?_ | refine blk_alloc ?_ _)); refine blk_put (cs := #[.int .i64 ((rd_T48 l0 x8_1).f0), .int .i64 ((rd_T48 l0 x8_1).f1), .int .i64 ((rd_T48 l0 x8_1).f2), .int .i64 ((rd_T48 l0 x8_1).f3), .int .i64 ((rd_T48 l0 x8_1).f4), .int .i64 ((rd_T48 l0 x8_1).f5), .int .i64 ((rd_T48 l0 x8_1).f6), .int .i64 ((rd_T48 l0 x8_1).f7), .int .i64 ((rd_T48 l0 x8_1).f8), .int .i64 ((rd_T48 l0 x8_1).f9), .bool (false), .bool ((rd_T48 l0 x8_1).f11), .bool false, .int .i64 0, .slice none 0 0, .slice none 0 0]) ?_ 12 _ rfl; (with_reducible repeat (first | refine blk_drewN ?_ _ | refine blk_drew ?_ | refine blk_alloc ?_ _)); refine blk_put (cs := #[.int .i64 ((rd_T48 l0 x8_1).f0), .int .i64 ((rd_T48 l0 x8_1).f1), .int .i64 ((rd_T48 l0 x8_1).f2), .int .i64 ((rd_T48 l0 x8_1).f3), .int .i64 ((rd_T48 l0 x8_1).f4), .int .i64 ((rd_T48 l0 x8_1).f5), .int .i64 ((rd_T48 l0 x8_1).f6), .int .i64 ((rd_T48 l0 x8_1).f7), .int .i64 ((rd_T48 l0 x8_1).f8), .int .i64 ((rd_T48 l0 x8_1).f9), .bool (false), .bool false, .bool false, .int .i64 0, .slice none 0 0, .slice none 0 0]) ?_ 11 _ rfl; (with_reducible repeat (first | refine blk_drewN ?_ _ | refine blk_drew ?_ | refine blk_alloc ?_ _)); refine blk_put (cs := #[.int .i64 ((rd_T48 l0 x8_1).f0), .int .i64 ((rd_T48 l0 x8_1).f1), .int .i64 ((rd_T48 l0 x8_1).f2), .int .i64 ((rd_T48 l0 x8_1).f3), .int .i64 ((rd_T48 l0 x8_1).f4), .int .i64 ((rd_T48 l0 x8_1).f5), .int .i64 ((rd_T48 l0 x8_1).f6), .int .i64 ((rd_T48 l0 x8_1).f7), .int .i64 ((rd_T48 l0 x8_1).f8), .int .i64 ((rd_T48 l0 x8_1).f9), .bool false, .bool false, .bool false, .int .i64 0, .slice none 0 0, .slice none 0 0]) ?_ 10 _ rfl; (with_reducible repeat (first | refine blk_drewN ?_ _ | refine blk_drew ?_ | refine blk_alloc ?_ _)); refine blk_put (cs := #[.int .i64 ((rd_T48 l0 x8_1).f0), .int .i64 ((rd_T48 l0 x8_1).f1), .int .i64 ((rd_T48 l0 x8_1).f2), .int .i64 ((rd_T48 l0 x8_1).f3), .int .i64 ((rd_T48 l0 x8_1).f4), .int .i64 ((rd_T48 l0 x8_1).f5), .int .i64 ((rd_T48 l0 x8_1).f6), .int .i64 ((rd_T48 l0 x8_1).f7), .int .i64 ((rd_T48 l0 x8_1).f8), .int .i64 0, .bool false, .bool false, .bool false, .int .i64 0, .slice none 0 0, .slice none 0 0]) ?_ 9 _ rfl; (with_reducible repeat (first | refine blk_drewN ?_ _ | refine blk_drew ?_ | refine blk_alloc ?_ _)); refine blk_put (cs := #[.int .i64 ((rd_T48 l0 x8_1).f0), .int .i64 ((rd_T48 l0 x8_1).f1), .int .i64 ((rd_T48 l0 x8_1).f2), .int .i64 ((rd_T48 l0 x8_1).f3), .int .i64 ((rd_T48 l0 x8_1).f4), .int .i64 ((rd_T48 l0 x8_1).f5), .int .i64 ((rd_T48 l0 x8_1).f6), .int .i64 ((rd_T48 l0 x8_1).f7), .int .i64 0, .int .i64 0, .bool false, .bool false, .bool false, .int .i64 0, .slice none 0 0, .slice none 0 0]) ?_ 8 _ rfl; (with_reducible repeat (first | refine blk_drewN ?_ _ | refine blk_drew ?_ | refine blk_alloc ?_ _)); refine blk_put (cs := #[.int .i64 ((rd_T48 l0 x8_1).f0), .int .i64 ((rd_T48 l0 x8_1).f1), .int .i64 ((rd_T48 l0 x8_1).f2), .int .i64 ((rd_T48 l0 x8_1).f3), .int .i64 ((rd_T48 l0 x8_1).f4), .int .i64 ((rd_T48 l0 x8_1).f5), .int .i64 ((rd_T48 l0 x8_1).f6), .int .i64 0, .int .i64 0, .int .i64 0, .bool false, .bool false, .bool false, .int .i64 0, .slice none 0 0, .slice none 0 0]) ?_ 7 _ rfl; (with_reducible repeat (first | refine blk_drewN ?_ _ | refine blk_drew ?_ | refine blk_alloc ?_ _)); refine blk_put (cs := #[.int .i64 ((rd_T48 l0 x8_1).f0), .int .i64 ((rd_T48 l0 x8_1).f1), .int .i64 ((rd_T48 l0 x8_1).f2), .int .i64 ((rd_T48 l0 x8_1).f3), .int .i64 ((rd_T48 l0 x8_1).f4), .int .i64 ((rd_T48 l0 x8_1).f5), .int .i64 0, .int .i64 0, .int .i64 0, .int .i64 0, .bool false, .bool false, .bool false, .int .i64 0, .slice none 0 0, .slice none 0 0]) ?_ 6 _ rfl; (with_reducible repeat (first | refine blk_drewN ?_ _ | refine blk_drew ?_ | refine blk_alloc ?_ _)); refine blk_put (cs := #[.int .i64 ((rd_T48 l0 x8_1).f0), .int .i64 ((rd_T48 l0 x8_1).f1), .int .i64 ((rd_T48 l0 x8_1).f2), .int .i64 ((rd_T48 l0 x8_1).f3), .int .i64 ((rd_T48 l0 x8_1).f4), .int .i64 0, .int .i64 0, .int .i64 0, .int .i64 0, .int .i64 0, .bool false, .bool false, .bool false, .int .i64 0, .slice none 0 0, .slice none 0 0]) ?_ 5 _ rfl; (with_reducible repeat (first | refine blk_drewN ?_ _ | refine blk_drew ?_ | refine blk_alloc ?_ _)); refine blk_put (cs := #[.int .i64 ((rd_T48 l0 x8_1).f0), .int .i64 ((rd_T48 l0 x8_1).f1), .int .i64 ((rd_T48 l0 x8_1).f2), .int .i64 ((rd_T48 l0 x8_1).f3), .int .i64 0, .int .i64 0, .int .i64 0, .int .i64 0, .int .i64 0, .int .i64 0, .bool false, .bool false, .bool false, .int .i64 0, .slice none 0 0, .slice none 0 0]) ?_ 4 _ rfl; (with_reducible repeat (first | refine blk_drewN ?_ _ | refine blk_drew ?_ | refine blk_alloc ?_ _)); refine blk_put (cs := #[.int .i64 ((rd_T48 l0 x8_1).f0), .int .i64 ((rd_T48 l0 x8_1).f1), .int .i64 ((rd_T48 l0 x8_1).f2), .int .i64 0, .int .i64 0, .int .i64 0, .int .i64 0, .int .i64 0, .int .i64 0, .int .i64 0, .bool false, .bool false, .bool false, .int .i64 0, .slice none 0 0, .slice none 0 0]) ?_ 3 _ rfl; (with_reducible repeat (first | refine blk_drewN ?_ _ | refine blk_drew ?_ | refine blk_alloc ?_ _)); refine blk_put (cs := #[.int .i64 ((rd_T48 l0 x8_1).f0), .int .i64 ((rd_T48 l0 x8_1).f1), .int .i64 0, .int .i64 0, .int .i64 0, .int .i64 0, .int .i64 0, .int .i64 0, .int .i64 0, .int .i64 0, .bool false, .bool false, .bool false, .int .i64 0, .slice none 0 0, .slice none 0 0]) ?_ 2 _ rfl; (with_reducible repeat (first | refine blk_drewN ?_ _ | refine blk_drew ?_ | refine blk_alloc ?_ _)); refine blk_put (cs := #[.int .i64 ((rd_T48 l0 x8_1).f0), .int .i64 0, .int .i64 0, .int .i64 0, .int .i64 0, .int .i64 0, .int .i64 0, .int .i64 0, .int .i64 0, .int .i64 0, .bool false, .bool false, .bool false, .int .i64 0, .slice none 0 0, .slice none 0 0]) ?_ 1 _ rfl; (with_reducible repeat (first | refine blk_drewN ?_ _ | refine blk_drew ?_ | refine blk_alloc ?_ _)); refine blk_put (cs := #[.int .i64 0, .int .i64 0, .int .i64 0, .int .i64 0, .int .i64 0, .int .i64 0, .int .i64 0, .int .i64 0, .int .i64 0, .int .i64 0, .bool false, .bool false, .bool false, .int .i64 0, .slice none 0 0, .slice none 0 0]) ?_ 0 _ rfl; (with_reducible repeat (first | refine blk_drewN ?_ _ | refine blk_drew ?_ | refine blk_alloc ?_ _)); exact BK125.out⟩, ⟨by repeat (first | (with_reducible first | exact HB.out | apply below_alloc | apply pw_below_drewN | apply below_drew1 | refine below_set ?_ GE125.out) | exact HB.out)⟩⟩
              · rw [if_neg c8] at H
                have c8b0 : (((rd_T48 l0 x8_1).f0) == 4) = false := beq_eq_false_iff_ne.mpr c8
                have c8b1 : (((rd_T48 l0 x8_1).f0) != 4) = true := bne_iff_ne.mpr c8
                (first | rw [c8b0] | (simp only [i64_w, i32_w]; rw [c8b0]) | skip)
                have H' := Aside0.mk H
                clear H
                have hcz13_0 : w6.cell? ⟨gb125, 0, none⟩ = some (.int .i64 0) := (blk_cell BK125.out 0).trans rfl
                have hcz13_1 : w6.cell? ⟨gb125, 1, none⟩ = some (.int .i64 0) := (blk_cell BK125.out 1).trans rfl
                have hcz13_2 : w6.cell? ⟨gb125, 2, none⟩ = some (.int .i64 0) := (blk_cell BK125.out 2).trans rfl
                have hcz13_3 : w6.cell? ⟨gb125, 3, none⟩ = some (.int .i64 0) := (blk_cell BK125.out 3).trans rfl
                have hcz13_4 : w6.cell? ⟨gb125, 4, none⟩ = some (.int .i64 0) := (blk_cell BK125.out 4).trans rfl
                have hcz13_5 : w6.cell? ⟨gb125, 5, none⟩ = some (.int .i64 0) := (blk_cell BK125.out 5).trans rfl
                have hcz13_6 : w6.cell? ⟨gb125, 6, none⟩ = some (.int .i64 0) := (blk_cell BK125.out 6).trans rfl
                have hcz13_7 : w6.cell? ⟨gb125, 7, none⟩ = some (.int .i64 0) := (blk_cell BK125.out 7).trans rfl
                have hcz13_8 : w6.cell? ⟨gb125, 8, none⟩ = some (.int .i64 0) := (blk_cell BK125.out 8).trans rfl
                have hcz13_9 : w6.cell? ⟨gb125, 9, none⟩ = some (.int .i64 0) := (blk_cell BK125.out 9).trans rfl
                have hcz13_10 : w6.cell? ⟨gb125, 10, none⟩ = some (.bool false) := (blk_cell BK125.out 10).trans rfl
                have hcz13_11 : w6.cell? ⟨gb125, 11, none⟩ = some (.bool false) := (blk_cell BK125.out 11).trans rfl
                have hcz13_12 : w6.cell? ⟨gb125, 12, none⟩ = some (.bool false) := (blk_cell BK125.out 12).trans rfl
                have hcz13_13 : w6.cell? ⟨gb125, 13, none⟩ = some (.int .i64 0) := (blk_cell BK125.out 13).trans rfl
                have hcz13_14 : w6.cell? ⟨gb125, 14, none⟩ = some (.slice none 0 0) := (blk_cell BK125.out 14).trans rfl
                have hcz13_15 : w6.cell? ⟨gb125, 15, none⟩ = some (.slice none 0 0) := (blk_cell BK125.out 15).trans rfl
                have hfz13_0 := blk_frozen BK125.out 0
                have hfz13_1 := blk_frozen BK125.out 1
                have hfz13_2 := blk_frozen BK125.out 2
                have hfz13_3 := blk_frozen BK125.out 3
                have hfz13_4 := blk_frozen BK125.out 4
                have hfz13_5 := blk_frozen BK125.out 5
                have hfz13_6 := blk_frozen BK125.out 6
                have hfz13_7 := blk_frozen BK125.out 7
                have hfz13_8 := blk_frozen BK125.out 8
                have hfz13_9 := blk_frozen BK125.out 9
                have hfz13_10 := blk_frozen BK125.out 10
                have hfz13_11 := blk_frozen BK125.out 11
                have hfz13_12 := blk_frozen BK125.out 12
                have hfz13_13 := blk_frozen BK125.out 13
                have hfz13_14 := blk_frozen BK125.out 14
                have hfz13_15 := blk_frozen BK125.out 15
                go_wp2
                repeat (go_quiet (fail); try go_wp2)
                go_meet
                case rel => exact ⟨_, (true), (by first | rfl | (simp; done) | (simp [*]; done)), H', ⟨by have := HK1.out; first | omega | exact Nat.le_refl _⟩, ⟨by (with_reducible repeat (first | refine blk_drewN ?_ _ | refine blk_drew ?_ | refine blk_alloc ?_ _)); refine blk_put (cs := #[.int .i64 ((rd_T48 l0 x8_1).f0), .int .i64 ((rd_T48 l0 x8_1).f1), .int .i64 ((rd_T48 l0 x8_1).f2), .int .i64 ((rd_T48 l0 x8_1).f3), .int .i64 ((rd_T48 l0 x8_1).f4), .int .i64 ((rd_T48 l0 x8_1).f5), .int .i64 ((rd_T48 l0 x8_1).f6), .int .i64 ((rd_T48 l0 x8_1).f7), .int .i64 ((rd_T48 l0 x8_1).f8), .int .i64 ((rd_T48 l0 x8_1).f9), .bool ((rd_T48 l0 x8_1).f10), .bool ((rd_T48 l0 x8_1).f11), .bool ((rd_T48 l0 x8_1).f12), .int .i64 ((rd_T48 l0 x8_1).f13), .slice A124_14 ((rd_T48 l0 x8_1).f14).length c124_14, .slice none 0 0]) ?_ 15 _ rfl; (with_reducible repeat (first | refine blk_drewN ?_ _ | refine blk_drew ?_ | refine blk_alloc ?_ _)); refine blk_put (cs := #[.int .i64 ((rd_T48 l0 x8_1).f0), .int .i64 ((rd_T48 l0 x8_1).f1), .int .i64 ((rd_T48 l0 x8_1).f2), .int .i64 ((rd_T48 l0 x8_1).f3), .int .i64 ((rd_T48 l0 x8_1).f4), .int .i64 ((rd_T48 l0 x8_1).f5), .int .i64 ((rd_T48 l0 x8_1).f6), .int .i64 ((rd_T48 l0 x8_1).f7), .int .i64 ((rd_T48 l0 x8_1).f8), .int .i64 ((rd_T48 l0 x8_1).f9), .bool ((rd_T48 l0 x8_1).f10), .bool ((rd_T48 l0 x8_1).f11), .bool ((rd_T48 l0 x8_1).f12), .int .i64 ((rd_T48 l0 x8_1).f13), .slice none 0 0, .slice none 0 0]) ?_ 14 _ rfl; (with_reducible repeat (first | refine blk_drewN ?_ _ | refine blk_drew ?_ | refine blk_alloc ?_ _)); refine blk_put (cs := #[.int .i64 ((rd_T48 l0 x8_1).f0), .int .i64 ((rd_T48 l0 x8_1).f1), .int .i64 ((rd_T48 l0 x8_1).f2), .int .i64 ((rd_T48 l0 x8_1).f3), .int .i64 ((rd_T48 l0 x8_1).f4), .int .i64 ((rd_T48 l0 x8_1).f5), .int .i64 ((rd_T48 l0 x8_1).f6), .int .i64 ((rd_T48 l0 x8_1).f7), .int .i64 ((rd_T48 l0 x8_1).f8), .int .i64 ((rd_T48 l0 x8_1).f9), .bool ((rd_T48 l0 x8_1).f10), .bool ((rd_T48 l0 x8_1).f11), .bool ((rd_T48 l0 x8_1).f12), .int .i64 0, .slice none 0 0, .slice none 0 0]) ?_ 13 _ rfl; (with_reducible repeat (first | refine blk_drewN ?_ _ | refine blk_drew ?_ | refine blk_alloc ?_ _)); refine blk_put (cs := #[.int .i64 ((rd_T48 l0 x8_1).f0), .int .i64 ((rd_T48 l0 x8_1).f1), .int .i64 ((rd_T48 l0 x8_1).f2), .int .i64 ((rd_T48 l0 x8_1).f3), .int .i64 ((rd_T48 l0 x8_1).f4), .int .i64 ((rd_T48 l0 x8_1).f5), .int .i64 ((rd_T48 l0 x8_1).f6), .int .i64 ((rd_T48 l0 x8_1).f7), .int .i64 ((rd_T48 l0 x8_1).f8), .int .i64 ((rd_T48 l0 x8_1).f9), .bool ((rd_T48 l0 x8_1).f10), .bool ((rd_T48 l0 x8_1).f11), .bool false, .int .i64 0, .slice none 0 0, .slice none 0 0]) ?_ 12 _ rfl; (with_reducible repeat (first | refine blk_drewN ?_ _ | refine blk_drew ?_ | refine blk_alloc ?_ _)); refine blk_put (cs := #[.int .i64 ((rd_T48 l0 x8_1).f0), .int .i64 ((rd_T48 l0 x8_1).f1), .int .i64 ((rd_T48 l0 x8_1).f2), .int .i64 ((rd_T48 l0 x8_1).f3), .int .i64 ((rd_T48 l0 x8_1).f4), .int .i64 ((rd_T48 l0 x8_1).f5), .int .i64 ((rd_T48 l0 x8_1).f6), .int .i64 ((rd_T48 l0 x8_1).f7), .int .i64 ((rd_T48 l0 x8_1).f8), .int .i64 ((rd_T48 l0 x8_1).f9), .bool ((rd_T48 l0 x8_1).f10), .bool false, .bool false, .int .i64 0, .slice none 0 0, .slice none 0 0]) ?_ 11 _ rfl; (with_reducible repeat (first | refine blk_drewN ?_ _ | refine blk_drew ?_ | refine blk_alloc ?_ _)); refine blk_put (cs := #[.int .i64 ((rd_T48 l0 x8_1).f0), .int .i64 ((rd_T48 l0 x8_1).f1), .int .i64 ((rd_T48 l0 x8_1).f2), .int .i64 ((rd_T48 l0 x8_1).f3), .int .i64 ((rd_T48 l0 x8_1).f4), .int .i64 ((rd_T48 l0 x8_1).f5), .int .i64 ((rd_T48 l0 x8_1).f6), .int .i64 ((rd_T48 l0 x8_1).f7), .int .i64 ((rd_T48 l0 x8_1).f8), .int .i64 ((rd_T48 l0 x8_1).f9), .bool false, .bool false, .bool false, .int .i64 0, .slice none 0 0, .slice none 0 0]) ?_ 10 _ rfl; (with_reducible repeat (first | refine blk_drewN ?_ _ | refine blk_drew ?_ | refine blk_alloc ?_ _)); refine blk_put (cs := #[.int .i64 ((rd_T48 l0 x8_1).f0), .int .i64 ((rd_T48 l0 x8_1).f1), .int .i64 ((rd_T48 l0 x8_1).f2), .int .i64 ((rd_T48 l0 x8_1).f3), .int .i64 ((rd_T48 l0 x8_1).f4), .int .i64 ((rd_T48 l0 x8_1).f5), .int .i64 ((rd_T48 l0 x8_1).f6), .int .i64 ((rd_T48 l0 x8_1).f7), .int .i64 ((rd_T48 l0 x8_1).f8), .int .i64 0, .bool false, .bool false, .bool false, .int .i64 0, .slice none 0 0, .slice none 0 0]) ?_ 9 _ rfl; (with_reducible repeat (first | refine blk_drewN ?_ _ | refine blk_drew ?_ | refine blk_alloc ?_ _)); refine blk_put (cs := #[.int .i64 ((rd_T48 l0 x8_1).f0), .int .i64 ((rd_T48 l0 x8_1).f1), .int .i64 ((rd_T48 l0 x8_1).f2), .int .i64 ((rd_T48 l0 x8_1).f3), .int .i64 ((rd_T48 l0 x8_1).f4), .int .i64 ((rd_T48 l0 x8_1).f5), .int .i64 ((rd_T48 l0 x8_1).f6), .int .i64 ((rd_T48 l0 x8_1).f7), .int .i64 0, .int .i64 0, .bool false, .bool false, .bool false, .int .i64 0, .slice none 0 0, .slice none 0 0]) ?_ 8 _ rfl; (with_reducible repeat (first | refine blk_drewN ?_ _ | refine blk_drew ?_ | refine blk_alloc ?_ _)); refine blk_put (cs := #[.int .i64 ((rd_T48 l0 x8_1).f0), .int .i64 ((rd_T48 l0 x8_1).f1), .int .i64 ((rd_T48 l0 x8_1).f2), .int .i64 ((rd_T48 l0 x8_1).f3), .int .i64 ((rd_T48 l0 x8_1).f4), .int .i64 ((rd_T48 l0 x8_1).f5), .int .i64 ((rd_T48 l0 x8_1).f6), .int .i64 0, .int .i64 0, .int .i64 0, .bool false, .bool false, .bool false, .int .i64 0, .slice none 0 0, .slice none 0 0]) ?_ 7 _ rfl; (with_reducible repeat (first | refine blk_drewN ?_ _ | refine blk_drew ?_ | refine blk_alloc ?_ _)); refine blk_put (cs := #[.int .i64 ((rd_T48 l0 x8_1).f0), .int .i64 ((rd_T48 l0 x8_1).f1), .int .i64 ((rd_T48 l0 x8_1).f2), .int .i64 ((rd_T48 l0 x8_1).f3), .int .i64 ((rd_T48 l0 x8_1).f4), .int .i64 ((rd_T48 l0 x8_1).f5), .int .i64 0, .int .i64 0, .int .i64 0, .int .i64 0, .bool false, .bool false, .bool false, .int .i64 0, .slice none 0 0, .slice none 0 0]) ?_ 6 _ rfl; (with_reducible repeat (first | refine blk_drewN ?_ _ | refine blk_drew ?_ | refine blk_alloc ?_ _)); refine blk_put (cs := #[.int .i64 ((rd_T48 l0 x8_1).f0), .int .i64 ((rd_T48 l0 x8_1).f1), .int .i64 ((rd_T48 l0 x8_1).f2), .int .i64 ((rd_T48 l0 x8_1).f3), .int .i64 ((rd_T48 l0 x8_1).f4), .int .i64 0, .int .i64 0, .int .i64 0, .int .i64 0, .int .i64 0, .bool false, .bool false, .bool false, .int .i64 0, .slice none 0 0, .slice none 0 0]) ?_ 5 _ rfl; (with_reducible repeat (first | refine blk_drewN ?_ _ | refine blk_drew ?_ | refine blk_alloc ?_ _)); refine blk_put (cs := #[.int .i64 ((rd_T48 l0 x8_1).f0), .int .i64 ((rd_T48 l0 x8_1).f1), .int .i64 ((rd_T48 l0 x8_1).f2), .int .i64 ((rd_T48 l0 x8_1).f3), .int .i64 0, .int .i64 0, .int .i64 0, .int .i64 0, .int .i64 0, .int .i64 0, .bool false, .bool false, .bool false, .int .i64 0, .slice none 0 0, .slice none 0 0]) ?_ 4 _ rfl; (with_reducible repeat (first | refine blk_drewN ?_ _ | refine blk_drew ?_ | refine blk_alloc ?_ _)); refine blk_put (cs := #[.int .i64 ((rd_T48 l0 x8_1).f0), .int .i64 ((rd_T48 l0 x8_1).f1), .int .i64 ((rd_T48 l0 x8_1).f2), .int .i64 0, .int .i64 0, .int .i64 0, .int .i64 0, .int .i64 0, .int .i64 0, .int .i64 0, .bool false, .bool false, .bool false, .int .i64 0, .slice none 0 0, .slice none 0 0]) ?_ 3 _ rfl; (with_reducible repeat (first | refine blk_drewN ?_ _ | refine blk_drew ?_ | refine blk_alloc ?_ _)); refine blk_put (cs := #[.int .i64 ((rd_T48 l0 x8_1).f0), .int .i64 ((rd_T48 l0 x8_1).f1), .int .i64 0, .int .i64 0, .int .i64 0, .int .i64 0, .int .i64 0, .int .i64 0, .int .i64 0, .int .i64 0, .bool false, .bool false, .bool false, .int .i64 0, .slice none 0 0, .slice none 0 0]) ?_ 2 _ rfl; (with_reducible repeat (first | refine blk_drewN ?_ _ | refine blk_drew ?_ | refine blk_alloc ?_ _)); refine blk_put (cs := #[.int .i64 ((rd_T48 l0 x8_1).f0), .int .i64 0, .int .i64 0, .int .i64 0, .int .i64 0, .int .i64 0, .int .i64 0, .int .i64 0, .int .i64 0, .int .i64 0, .bool false, .bool false, .bool false, .int .i64 0, .slice none 0 0, .slice none 0 0]) ?_ 1 _ rfl; (with_reducible repeat (first | refine blk_drewN ?_ _ | refine blk_drew ?_ | refine blk_alloc ?_ _)); refine blk_put (cs := #[.int .i64 0, .int .i64 0, .int .i64 0, .int .i64 0, .int .i64 0, .int .i64 0, .int .i64 0, .int .i64 0, .int .i64 0, .int .i64 0, .bool false, .bool false, .bool false, .int .i64 0, .slice none 0 0, .slice none 0 0]) ?_ 0 _ rfl; (with_reducible repeat (first | refine blk_drewN ?_ _ | refine blk_drew ?_ | refine blk_alloc ?_ _)); exact BK125.out⟩, ⟨by repeat (first | (with_reducible first | exact HB.out | apply below_alloc | apply pw_below_drewN | apply below_drew1 | refine below_set ?_ GE125.out) | exact HB.out)⟩⟩
            case rest =>
              clear HC5
              try clear c1
              try clear p1
              try clear q1
              try clear hx1
              try clear c2
              try clear c2b0
              try clear p2
              try clear c3
              try clear c3b0
              try clear c4
              try clear c4b0
              try clear c8
              try clear c8b0
              try clear c8b1
              try clear q9
              try clear c10
              try clear c12
              try clear p12
              try clear q12
              try clear hx12
              try clear hcz11_0
              try clear hcz11_1
              try clear hcz11_10
              try clear hcz11_11
              try clear hcz11_12
              try clear hcz11_13
              try clear hcz11_14
              try clear hcz11_15
              try clear hcz11_2
              try clear hcz11_3
              try clear hcz11_4
              try clear hcz11_5
              try clear hcz11_6
              try clear hcz11_7
              try clear hcz11_8
              try clear hcz11_9
              try clear hcz12_0
              try clear hcz12_1
              try clear hcz12_10
              try clear hcz12_11
              try clear hcz12_12
              try clear hcz12_13
              try clear hcz12_14
              try clear hcz12_15
              try clear hcz12_2
              try clear hcz12_3
              try clear hcz12_4
              try clear hcz12_5
              try clear hcz12_6
              try clear hcz12_7
              try clear hcz12_8
              try clear hcz12_9
              try clear hcz13_0
              try clear hcz13_1
              try clear hcz13_10
              try clear hcz13_11
              try clear hcz13_12
              try clear hcz13_13
              try clear hcz13_14
              try clear hcz13_15
              try clear hcz13_2
              try clear hcz13_3
              try clear hcz13_4
              try clear hcz13_5
              try clear hcz13_6
              try clear hcz13_7
              try clear hcz13_8
              try clear hcz13_9
              try clear hcz7_0
              try clear hcz7_1
              try clear hcz7_10
              try clear hcz7_11
              try clear hcz7_12
              try clear hcz7_13
              try clear hcz7_14
              try clear hcz7_15
              try clear hcz7_2
              try clear hcz7_3
              try clear hcz7_4
              try clear hcz7_5
              try clear hcz7_6
              try clear hcz7_7
              try clear hcz7_8
              try clear hcz7_9
              try clear hfz11_0
              try clear hfz11_1
              try clear hfz11_10
              try clear hfz11_11
              try clear hfz11_12
              try clear hfz11_13
              try clear hfz11_14
              try clear hfz11_15
              try clear hfz11_2
              try clear hfz11_3
              try clear hfz11_4
              try clear hfz11_5
              try clear hfz11_6
              try clear hfz11_7
              try clear hfz11_8
              try clear hfz11_9
              try clear hfz12_0
              try clear hfz12_1
              try clear hfz12_10
              try clear hfz12_11
              try clear hfz12_12
              try clear hfz12_13
              try clear hfz12_14
              try clear hfz12_15
              try clear hfz12_2
              try clear hfz12_3
              try clear hfz12_4
              try clear hfz12_5
              try clear hfz12_6
              try clear hfz12_7
              try clear hfz12_8
              try clear hfz12_9
              try clear hfz13_0
              try clear hfz13_1
              try clear hfz13_10
              try clear hfz13_11
              try clear hfz13_12
              try clear hfz13_13
              try clear hfz13_14
              try clear hfz13_15
              try clear hfz13_2
              try clear hfz13_3
              try clear hfz13_4
              try clear hfz13_5
              try clear hfz13_6
              try clear hfz13_7
              try clear hfz13_8
              try clear hfz13_9
              try clear hfz7_0
              try clear hfz7_1
              try clear hfz7_10
              try clear hfz7_11
              try clear hfz7_12
              try clear hfz7_13
              try clear hfz7_14
              try clear hfz7_15
              try clear hfz7_2
              try clear hfz7_3
              try clear hfz7_4
              try clear hfz7_5
              try clear hfz7_6
              try clear hfz7_7
              try clear hfz7_8
              try clear hfz7_9
              try clear hx124_0
              try clear hx124_1
              try clear hx124_10
              try clear hx124_11
              try clear hx124_12
              try clear hx124_13
              try clear hx124_14
              try clear hx124_15
              try clear hx124_2
              try clear hx124_3
              try clear hx124_4
              try clear hx124_5
              try clear hx124_6
              try clear hx124_7
              try clear hx124_8
              try clear hx124_9
              try clear p124
              try clear q124
              obtain ⟨kq, x25_4, rfl, HA, HJ4, BK125, HB⟩ := hcut
              cases kq with
              | zero => exact absurd HA.out (by simp [throttle_Oldest.j1])
              | succ kj4 =>
                have H := HA.out
                clear HA
                simp only [throttle_Oldest.j1] at H
                by_cases c14 : x25_4 = true
                · subst c14
                  have H1 : (throttle_Oldest.l0 kj4 l0 x3_1 l0 (l0.length : Int) (wrap64 (x8_1 + 1))) = some r := by rw [if_pos rfl] at H; exact H
                  clear H
                  have H := H1
                  clear H1
                  have H' := Aside0.mk H
                  clear H
                  go_wp2
                  repeat (go_quiet (fail); try go_wp2)
                  go_roundg kj4
                  case measure => have := HK1.out; have := HJ4.out; omega
                  case rel => exact ⟨(x3_1), (wrap64 (x8_1 + 1)), (by first | rfl | (simp; done) | (simp [*]; done)), (by first | rfl | (simp; done) | (simp [*]; done)), H', ⟨by have := HK1.out; have := HJ4.out; omega⟩, ⟨by repeat (first | (with_reducible first | exact HB.out | apply below_alloc | apply pw_below_drewN | apply below_drew1 | refine below_set ?_ GE125.out) | exact HB.out)⟩⟩
                · replace c14 := Bool.eq_false_iff.mpr c14
                  subst c14
                  have H1 : (if x3_1 < 0 then (throttle_Oldest.l0 kj4 l0 x8_1 l0 (l0.length : Int) (wrap64 (x8_1 + 1))) else (if 0 ≤ x3_1 then (if x3_1 < (l0.length : Int) then (if ((rd_T48 l0 x8_1).f9) < ((rd_T48 l0 x3_1).f9) then (throttle_Oldest.l0 kj4 l0 x8_1 l0 (l0.length : Int) (wrap64 (x8_1 + 1))) else (throttle_Oldest.l0 kj4 l0 x3_1 l0 (l0.length : Int) (wrap64 (x8_1 + 1)))) else (none)) else (none))) = some r := by rw [if_neg (show ¬ (false = true) by decide)] at H; exact H
                  clear H
                  have H := H1
                  clear H1
                  by_cases c15 : x3_1 < 0
                  · rw [if_pos c15] at H
                    have c15b0 : decide (x3_1 < 0) = true := decide_eq_true c15
                    clear c15
                    have H' := Aside0.mk H
                    clear H
                    go_wp2
                    repeat (go_quiet (fail); try go_wp2)
                    go_roundg kj4
                    case measure => have := HK1.out; have := HJ4.out; omega
                    case rel => exact ⟨(x8_1), (wrap64 (x8_1 + 1)), (by first | rfl | (simp; done) | (simp [*]; done)), (by first | rfl | (simp; done) | (simp [*]; done)), H', ⟨by have := HK1.out; have := HJ4.out; omega⟩, ⟨by repeat (first | (with_reducible first | exact HB.out | apply below_alloc | apply pw_below_drewN | apply below_drew1 | refine below_set ?_ GE125.out) | exact HB.out)⟩⟩
                  · rw [if_neg c15] at H
                    have c15b0 : decide (x3_1 < 0) = false := decide_eq_false c15
                    clear c15
                    by_cases c16 : 0 ≤ x3_1
                    · rw [if_pos c16] at H
                      have c16b0 : decide (0 ≤ x3_1) = true := decide_eq_true c16
                      clear c16
                      by_cases c17 : x3_1 < (l0.length : Int)
                      · rw [if_pos c17] at H
                        have c17b0 : decide (x3_1 < (l0.length : Int)) = true := decide_eq_true c17
                        clear c17
                        by_cases c18 : ((rd_T48 l0 x8_1).f9) < ((rd_T48 l0 x3_1).f9)
                        · rw [if_pos c18] at H
                          have c18b0 : decide (((rd_T48 l0 x8_1).f9) < ((rd_T48 l0 x3_1).f9)) = true := decide_eq_true c18
                          clear c18
                          have H' := Aside0.mk H
                          clear H
                          have hcz19_0 : wc.cell? ⟨gb125, 0, none⟩ = some (.int .i64 ((rd_T48 l0 x8_1).f0)) := (blk_cell BK125.out 0).trans rfl
                          have hcz19_1 : wc.cell? ⟨gb125, 1, none⟩ = some (.int .i64 ((rd_T48 l0 x8_1).f1)) := (blk_cell BK125.out 1).trans rfl
                          have hcz19_2 : wc.cell? ⟨gb125, 2, none⟩ = some (.int .i64 ((rd_T48 l0 x8_1).f2)) := (blk_cell BK125.out 2).trans rfl
                          have hcz19_3 : wc.cell? ⟨gb125, 3, none⟩ = some (.int .i64 ((rd_T48 l0 x8_1).f3)) := (blk_cell BK125.out 3).trans rfl
                          have hcz19_4 : wc.cell? ⟨gb125, 4, none⟩ = some (.int .i64 ((rd_T48 l0 x8_1).f4)) := (blk_cell BK125.out 4).trans rfl
                          have hcz19_5 : wc.cell? ⟨gb125, 5, none⟩ = some (.int .i64 ((rd_T48 l0 x8_1).f5)) := (blk_cell BK125.out 5).trans rfl
                          have hcz19_6 : wc.cell? ⟨gb125, 6, none⟩ = some (.int .i64 ((rd_T48 l0 x8_1).f6)) := (blk_cell BK125.out 6).trans rfl
                          have hcz19_7 : wc.cell? ⟨gb125, 7, none⟩ = some (.int .i64 ((rd_T48 l0 x8_1).f7)) := (blk_cell BK125.out 7).trans rfl
                          have hcz19_8 : wc.cell? ⟨gb125, 8, none⟩ = some (.int .i64 ((rd_T48 l0 x8_1).f8)) := (blk_cell BK125.out 8).trans rfl
                          have hcz19_9 : wc.cell? ⟨gb125, 9, none⟩ = some (.int .i64 ((rd_T48 l0 x8_1).f9)) := (blk_cell BK125.out 9).trans rfl
                          have hcz19_10 : wc.cell? ⟨gb125, 10, none⟩ = some (.bool ((rd_T48 l0 x8_1).f10)) := (blk_cell BK125.out 10).trans rfl
                          have hcz19_11 : wc.cell? ⟨gb125, 11, none⟩ = some (.bool ((rd_T48 l0 x8_1).f11)) := (blk_cell BK125.out 11).trans rfl
                          have hcz19_12 : wc.cell? ⟨gb125, 12, none⟩ = some (.bool ((rd_T48 l0 x8_1).f12)) := (blk_cell BK125.out 12).trans rfl
                          have hcz19_13 : wc.cell? ⟨gb125, 13, none⟩ = some (.int .i64 ((rd_T48 l0 x8_1).f13)) := (blk_cell BK125.out 13).trans rfl
                          have hcz19_14 : wc.cell? ⟨gb125, 14, none⟩ = some (.slice A124_14 ((rd_T48 l0 x8_1).f14).length c124_14) := (blk_cell BK125.out 14).trans rfl
                          have hcz19_15 : wc.cell? ⟨gb125, 15, none⟩ = some (.slice A124_15 ((rd_T48 l0 x8_1).f15).length c124_15) := (blk_cell BK125.out 15).trans rfl
                          have hfz19_0 := blk_frozen BK125.out 0
                          have hfz19_1 := blk_frozen BK125.out 1
                          have hfz19_2 := blk_frozen BK125.out 2
                          have hfz19_3 := blk_frozen BK125.out 3
                          have hfz19_4 := blk_frozen BK125.out 4
                          have hfz19_5 := blk_frozen BK125.out 5
                          have hfz19_6 := blk_frozen BK125.out 6
                          have hfz19_7 := blk_frozen BK125.out 7
                          have hfz19_8 := blk_frozen BK125.out 8
                          have hfz19_9 := blk_frozen BK125.out 9
                          have hfz19_10 := blk_frozen BK125.out 10
                          have hfz19_11 := blk_frozen BK125.out 11
                          have hfz19_12 := blk_frozen BK125.out 12
                          have hfz19_13 := blk_frozen BK125.out 13
                          have hfz19_14 := blk_frozen BK125.out 14
                          have hfz19_15 := blk_frozen BK125.out 15
                          have p126 : 0 ≤ (x3_1 : Int) := of_decide_eq_true (by first | (with_reducible assumption) | assumption)
                          have q126 : x3_1 < (l0.length : Int) := of_decide_eq_true (by first | (with_reducible assumption) | assumption)
                          obtain ⟨ad126, A126_14, c126_14, A126_15, c126_15, e126, hx126_0, hx126_1, hx126_2, hx126_3, hx126_4, hx126_5, hx126_6, hx126_7, hx126_8, hx126_9, hx126_10, hx126_11, hx126_12, hx126_13, hx126_14, hx126_15, hl126_14, hi126_14, hl126_15, hi126_15⟩ := at_T48 HR0.out x3_1 p126 q126
                          obtain rfl : ad124 = ad126 := (by injection e126)
                          replace hx126_0 := (HB.out.cell (World.block_lt_of_cell? w _ hx126_0)).trans hx126_0
                          replace hx126_1 := (HB.out.cell (World.block_lt_of_cell? w _ hx126_1)).trans hx126_1
                          replace hx126_2 := (HB.out.cell (World.block_lt_of_cell? w _ hx126_2)).trans hx126_2
                          replace hx126_3 := (HB.out.cell (World.block_lt_of_cell? w _ hx126_3)).trans hx126_3
                          replace hx126_4 := (HB.out.cell (World.block_lt_of_cell? w _ hx126_4)).trans hx126_4
                          replace hx126_5 := (HB.out.cell (World.block_lt_of_cell? w _ hx126_5)).trans hx126_5
                          replace hx126_6 := (HB.out.cell (World.block_lt_of_cell? w _ hx126_6)).trans hx126_6
                          replace hx126_7 := (HB.out.cell (World.block_lt_of_cell? w _ hx126_7)).trans hx126_7
                          replace hx126_8 := (HB.out.cell (World.block_lt_of_cell? w _ hx126_8)).trans hx126_8
                          replace hx126_9 := (HB.out.cell (World.block_lt_of_cell? w _ hx126_9)).trans hx126_9
                          replace hx126_10 := (HB.out.cell (World.block_lt_of_cell? w _ hx126_10)).trans hx126_10
                          replace hx126_11 := (HB.out.cell (World.block_lt_of_cell? w _ hx126_11)).trans hx126_11
                          replace hx126_12 := (HB.out.cell (World.block_lt_of_cell? w _ hx126_12)).trans hx126_12
                          replace hx126_13 := (HB.out.cell (World.block_lt_of_cell? w _ hx126_13)).trans hx126_13
                          replace hx126_14 := (HB.out.cell (World.block_lt_of_cell? w _ hx126_14)).trans hx126_14
                          replace hx126_15 := (HB.out.cell (World.block_lt_of_cell? w _ hx126_15)).trans hx126_15
                          have HR126_14 := Aside0.mk hi126_14
                          have HC126_14 := Aside0.mk hl126_14
                          clear hi126_14 hl126_14
                          have HR126_15 := Aside0.mk hi126_15
                          have HC126_15 := Aside0.mk hl126_15
                          clear hi126_15 hl126_15
                          replace p126 := eq_true p126
                          replace q126 := eq_true q126
                          go_wp2
                          repeat (go_quiet (fail); try go_wp2)
                          go_roundg kj4
                          case measure => have := HK1.out; have := HJ4.out; omega
                          case rel => exact ⟨(x8_1), (wrap64 (x8_1 + 1)), (by first | rfl | (simp; done) | (simp [*]; done)), (by first | rfl | (simp; done) | (simp [*]; done)), H', ⟨by have := HK1.out; have := HJ4.out; omega⟩, ⟨by repeat (first | (with_reducible first | exact HB.out | apply below_alloc | apply pw_below_drewN | apply below_drew1 | refine below_set ?_ GE125.out) | exact HB.out)⟩⟩
                        · rw [if_neg c18] at H
                          have c18b0 : decide (((rd_T48 l0 x8_1).f9) < ((rd_T48 l0 x3_1).f9)) = false := decide_eq_false c18
                          clear c18
                          have H' := Aside0.mk H
                          clear H
                          have hcz20_0 : wc.cell? ⟨gb125, 0, none⟩ = some (.int .i64 ((rd_T48 l0 x8_1).f0)) := (blk_cell BK125.out 0).trans rfl
                          have hcz20_1 : wc.cell? ⟨gb125, 1, none⟩ = some (.int .i64 ((rd_T48 l0 x8_1).f1)) := (blk_cell BK125.out 1).trans rfl
                          have hcz20_2 : wc.cell? ⟨gb125, 2, none⟩ = some (.int .i64 ((rd_T48 l0 x8_1).f2)) := (blk_cell BK125.out 2).trans rfl
                          have hcz20_3 : wc.cell? ⟨gb125, 3, none⟩ = some (.int .i64 ((rd_T48 l0 x8_1).f3)) := (blk_cell BK125.out 3).trans rfl
                          have hcz20_4 : wc.cell? ⟨gb125, 4, none⟩ = some (.int .i64 ((rd_T48 l0 x8_1).f4)) := (blk_cell BK125.out 4).trans rfl
                          have hcz20_5 : wc.cell? ⟨gb125, 5, none⟩ = some (.int .i64 ((rd_T48 l0 x8_1).f5)) := (blk_cell BK125.out 5).trans rfl
                          have hcz20_6 : wc.cell? ⟨gb125, 6, none⟩ = some (.int .i64 ((rd_T48 l0 x8_1).f6)) := (blk_cell BK125.out 6).trans rfl
                          have hcz20_7 : wc.cell? ⟨gb125, 7, none⟩ = some (.int .i64 ((rd_T48 l0 x8_1).f7)) := (blk_cell BK125.out 7).trans rfl
                          have hcz20_8 : wc.cell? ⟨gb125, 8, none⟩ = some (.int .i64 ((rd_T48 l0 x8_1).f8)) := (blk_cell BK125.out 8).trans rfl
                          have hcz20_9 : wc.cell? ⟨gb125, 9, none⟩ = some (.int .i64 ((rd_T48 l0 x8_1).f9)) := (blk_cell BK125.out 9).trans rfl
                          have hcz20_10 : wc.cell? ⟨gb125, 10, none⟩ = some (.bool ((rd_T48 l0 x8_1).f10)) := (blk_cell BK125.out 10).trans rfl
                          have hcz20_11 : wc.cell? ⟨gb125, 11, none⟩ = some (.bool ((rd_T48 l0 x8_1).f11)) := (blk_cell BK125.out 11).trans rfl
                          have hcz20_12 : wc.cell? ⟨gb125, 12, none⟩ = some (.bool ((rd_T48 l0 x8_1).f12)) := (blk_cell BK125.out 12).trans rfl
                          have hcz20_13 : wc.cell? ⟨gb125, 13, none⟩ = some (.int .i64 ((rd_T48 l0 x8_1).f13)) := (blk_cell BK125.out 13).trans rfl
                          have hcz20_14 : wc.cell? ⟨gb125, 14, none⟩ = some (.slice A124_14 ((rd_T48 l0 x8_1).f14).length c124_14) := (blk_cell BK125.out 14).trans rfl
                          have hcz20_15 : wc.cell? ⟨gb125, 15, none⟩ = some (.slice A124_15 ((rd_T48 l0 x8_1).f15).length c124_15) := (blk_cell BK125.out 15).trans rfl
                          have hfz20_0 := blk_frozen BK125.out 0
                          have hfz20_1 := blk_frozen BK125.out 1
                          have hfz20_2 := blk_frozen BK125.out 2
                          have hfz20_3 := blk_frozen BK125.out 3
                          have hfz20_4 := blk_frozen BK125.out 4
                          have hfz20_5 := blk_frozen BK125.out 5
                          have hfz20_6 := blk_frozen BK125.out 6
                          have hfz20_7 := blk_frozen BK125.out 7
                          have hfz20_8 := blk_frozen BK125.out 8
                          have hfz20_9 := blk_frozen BK125.out 9
                          have hfz20_10 := blk_frozen BK125.out 10
                          have hfz20_11 := blk_frozen BK125.out 11
                          have hfz20_12 := blk_frozen BK125.out 12
                          have hfz20_13 := blk_frozen BK125.out 13
                          have hfz20_14 := blk_frozen BK125.out 14
                          have hfz20_15 := blk_frozen BK125.out 15
                          have p126 : 0 ≤ (x3_1 : Int) := of_decide_eq_true (by first | (with_reducible assumption) | assumption)
                          have q126 : x3_1 < (l0.length : Int) := of_decide_eq_true (by first | (with_reducible assumption) | assumption)
                          obtain ⟨ad126, A126_14, c126_14, A126_15, c126_15, e126, hx126_0, hx126_1, hx126_2, hx126_3, hx126_4, hx126_5, hx126_6, hx126_7, hx126_8, hx126_9, hx126_10, hx126_11, hx126_12, hx126_13, hx126_14, hx126_15, hl126_14, hi126_14, hl126_15, hi126_15⟩ := at_T48 HR0.out x3_1 p126 q126
                          obtain rfl : ad124 = ad126 := (by injection e126)
                          replace hx126_0 := (HB.out.cell (World.block_lt_of_cell? w _ hx126_0)).trans hx126_0
                          replace hx126_1 := (HB.out.cell (World.block_lt_of_cell? w _ hx126_1)).trans hx126_1
                          replace hx126_2 := (HB.out.cell (World.block_lt_of_cell? w _ hx126_2)).trans hx126_2
                          replace hx126_3 := (HB.out.cell (World.block_lt_of_cell? w _ hx126_3)).trans hx126_3
                          replace hx126_4 := (HB.out.cell (World.block_lt_of_cell? w _ hx126_4)).trans hx126_4
                          replace hx126_5 := (HB.out.cell (World.block_lt_of_cell? w _ hx126_5)).trans hx126_5
                          replace hx126_6 := (HB.out.cell (World.block_lt_of_cell? w _ hx126_6)).trans hx126_6
                          replace hx126_7 := (HB.out.cell (World.block_lt_of_cell? w _ hx126_7)).trans hx126_7
                          replace hx126_8 := (HB.out.cell (World.block_lt_of_cell? w _ hx126_8)).trans hx126_8
                          replace hx126_9 := (HB.out.cell (World.block_lt_of_cell? w _ hx126_9)).trans hx126_9
                          replace hx126_10 := (HB.out.cell (World.block_lt_of_cell? w _ hx126_10)).trans hx126_10
                          replace hx126_11 := (HB.out.cell (World.block_lt_of_cell? w _ hx126_11)).trans hx126_11
                          replace hx126_12 := (HB.out.cell (World.block_lt_of_cell? w _ hx126_12)).trans hx126_12
                          replace hx126_13 := (HB.out.cell (World.block_lt_of_cell? w _ hx126_13)).trans hx126_13
                          replace hx126_14 := (HB.out.cell (World.block_lt_of_cell? w _ hx126_14)).trans hx126_14
                          replace hx126_15 := (HB.out.cell (World.block_lt_of_cell? w _ hx126_15)).trans hx126_15
                          have HR126_14 := Aside0.mk hi126_14
                          have HC126_14 := Aside0.mk hl126_14
                          clear hi126_14 hl126_14
                          have HR126_15 := Aside0.mk hi126_15
                          have HC126_15 := Aside0.mk hl126_15
                          clear hi126_15 hl126_15
                          replace p126 := eq_true p126
                          replace q126 := eq_true q126
                          go_wp2
                          repeat (go_quiet (fail); try go_wp2)
                          go_roundg kj4
                          case measure => have := HK1.out; have := HJ4.out; omega
                          case rel => exact ⟨(x3_1), (wrap64 (x8_1 + 1)), (by first | rfl | (simp; done) | (simp [*]; done)), (by first | rfl | (simp; done) | (simp [*]; done)), H', ⟨by have := HK1.out; have := HJ4.out; omega⟩, ⟨by repeat (first | (with_reducible first | exact HB.out | apply below_alloc | apply pw_below_drewN | apply below_drew1 | refine below_set ?_ GE125.out) | exact HB.out)⟩⟩
                      · rw [if_neg c17] at H
                        exact absurd H (by simp)
                    · rw [if_neg c16] at H
                      exact absurd H (by simp)
          · rw [if_neg c4] at H
            exact absurd H (by simp)
        · rw [if_neg c3] at H
          exact absurd H (by simp)
      · rw [if_neg c2] at H
        have c2b0 : decide (x8_1 < (l0.length : Int)) = false := decide_eq_false c2
        clear c2
        obtain rfl := Option.some.inj H
        go_wp2
        repeat (go_quiet (fail); try go_wp2)
        go_ret
        exact ⟨by first | rfl | (simp [errW_none, errW_some] <;> rfl) | (simp [*, errW_none, errW_some] <;> rfl), by repeat (first | (with_reducible first | exact HB.out | apply below_alloc | apply pw_below_drewN | apply below_drew1) | exact HB.out)⟩

/-! ### api_DirtyPage_55: function 55 -/
def api_DirtyPage_55.l0 : Nat → List (S50) → Int → Int → Int → Int → Int → Option (Int)
  | 0, _, _, _, _, _, _ => none
  | k + 1, x0, x7, x8, x128000, x128001, x128002 => if x8 < x7 then (if 0 ≤ x8 then (if x8 < (x0.length : Int) then (if (x128000 == ((rd_T50 x0 x8).f0) && (x128001 == ((rd_T50 x0 x8).f1) && (x128002 == ((rd_T50 x0 x8).f2)))) = true then (some x8) else (api_DirtyPage_55.l0 k x0 x7 (wrap64 (x8 + 1)) x128000 x128001 x128002)) else (none)) else (none)) else (some (-1))
def api_DirtyPage_55.f (k : Nat) (l0 : List (S50)) (a1_0 : Int) (a1_1 : Int) (a1_2 : Int) : Option (Int) := api_DirtyPage_55.l0 k l0 (l0.length : Int) 0 a1_0 a1_1 a1_2
theorem api_DirtyPage_55.mono_l : ∀ k, (∀ y0 y1 y2 y3 y4 y5, LeO (api_DirtyPage_55.l0 k y0 y1 y2 y3 y4 y5) (api_DirtyPage_55.l0 (k + 1) y0 y1 y2 y3 y4 y5))
  | 0 => fun _ _ _ _ _ _ r h => by simp [api_DirtyPage_55.l0] at h
  | k + 1 => by
    have ih0 := api_DirtyPage_55.mono_l k
    · intro y0 y1 y2 y3 y4 y5
      unfold api_DirtyPage_55.l0
      repeat' first
      | (with_reducible exact ih0 _ _ _ _ _ _)
      | (with_reducible exact LeO.refl _)
      | (with_reducible exact LeO.none _)
      | (with_reducible refine LeO.ite ?_ ?_)
      | (with_reducible refine LeO.bind ?_ (fun _ => ?_))
      | exact ih0 _ _ _ _ _ _
      | exact LeO.none _
      | refine LeO.ite ?_ ?_
      | refine LeO.bind ?_ (fun _ => ?_)
theorem api_DirtyPage_55.mono : ∀ a0 a1 a2 a3 k, LeO (api_DirtyPage_55.f k a0 a1 a2 a3) (api_DirtyPage_55.f (k + 1) a0 a1 a2 a3) := by
  intro a0 a1 a2 a3 k
  have ih0 := api_DirtyPage_55.mono_l k
  unfold api_DirtyPage_55.f
  repeat' first
      | (with_reducible exact ih0 _ _ _ _ _ _)
      | (with_reducible exact LeO.refl _)
      | (with_reducible exact LeO.none _)
      | (with_reducible refine LeO.ite ?_ ?_)
      | (with_reducible refine LeO.bind ?_ (fun _ => ?_))
      | exact ih0 _ _ _ _ _ _
      | exact LeO.none _
      | refine LeO.ite ?_ ?_
      | refine LeO.bind ?_ (fun _ => ?_)
set_option maxHeartbeats 8000000 in
set_option maxRecDepth 100000 in
theorem api_DirtyPage_55.calls (k : Nat) (A0 : Option Addr) (c0 : Nat) (l0 : List (S50)) (a1_0 : Int) (a1_1 : Int) (a1_2 : Int) (r : Int) (w : World) (hr0 : Kd.C k50 w A0 l0.length l0) (hc0 : l0.length ≤ c0) (h : api_DirtyPage_55.f k l0 a1_0 a1_1 a1_2 = some r) :
    Calls Try.prog 55 #[.slice A0 l0.length c0, .agg #[.int .i64 a1_0, .int .i64 a1_1, .int .i64 a1_2]] w fun e w' => e = .returned (.int .i64 r) ∧ Below w.heap.size w w' := by
  have hu50 := Try.underlying50
  have HR0 := Aside0.mk hr0
  have HC0 := Aside0.mk hc0
  clear hr0 hc0
  have HB := Aside0.mk (Below.refl w.heap.size w)
  have H : (api_DirtyPage_55.l0 k l0 (l0.length : Int) 0 a1_0 a1_1 a1_2) = some r := h
  clear h
  have H' := Aside0.mk H
  clear H
  go_enter Try.func55, Try.ntmps55
  go_wp2_with (first | ((with_reducible refine gate_dst (N := 3) rfl ?_); refine box_event ?hg (N := 3) ?hd (cs := #[.int .i64 a1_0, .int .i64 a1_1, .int .i64 a1_2]) (t := 50) ?hr ?_; (case hd => rfl); (case hg => rfl); (case hr => first | (go_simp; done) | (go_simp; rfl)); intro gb127 hg w3 hbox hb; have n0_ := Aside0.mk (below_step (by repeat (first | (with_reducible first | exact HB.out | apply below_alloc | apply pw_below_drewN | apply below_drew1) | exact HB.out)) hb); have n1_ := Aside0.mk (hbox); have n2_ := Aside0.mk ((by rw [hg]; exact (below_size (by repeat (first | (with_reducible first | exact HB.out | apply below_alloc | apply pw_below_drewN | apply below_drew1) | exact HB.out))) : w.heap.size ≤ gb127)); have n3_ := Aside0.mk ((by rw [hg]; exact (below_size (by repeat (first | (with_reducible first | exact HB.out | apply below_alloc | apply pw_below_drewN | apply below_drew1) | exact HB.out))) : w.heap.size ≤ gb127)); clear HB; have HB := n0_; have BK127 := n1_; have GW127 := n2_; have GE127 := n3_; clear n0_ n1_ n2_ n3_; clear hb hbox hg))
  repeat (go_quiet (first | ((with_reducible refine gate_dst (N := 3) rfl ?_); refine box_event ?hg (N := 3) ?hd (cs := #[.int .i64 a1_0, .int .i64 a1_1, .int .i64 a1_2]) (t := 50) ?hr ?_; (case hd => rfl); (case hg => rfl); (case hr => first | (go_simp; done) | (go_simp; rfl)); intro gb127 hg w3 hbox hb; have n0_ := Aside0.mk (below_step (by repeat (first | (with_reducible first | exact HB.out | apply below_alloc | apply pw_below_drewN | apply below_drew1) | exact HB.out)) hb); have n1_ := Aside0.mk (hbox); have n2_ := Aside0.mk ((by rw [hg]; exact (below_size (by repeat (first | (with_reducible first | exact HB.out | apply below_alloc | apply pw_below_drewN | apply below_drew1) | exact HB.out))) : w.heap.size ≤ gb127)); have n3_ := Aside0.mk ((by rw [hg]; exact (below_size (by repeat (first | (with_reducible first | exact HB.out | apply below_alloc | apply pw_below_drewN | apply below_drew1) | exact HB.out))) : w.heap.size ≤ gb127)); clear HB; have HB := n0_; have BK127 := n1_; have GW127 := n2_; have GE127 := n3_; clear n0_ n1_ n2_ n3_; clear hb hbox hg)); try go_wp2_with (first | ((with_reducible refine gate_dst (N := 3) rfl ?_); refine box_event ?hg (N := 3) ?hd (cs := #[.int .i64 a1_0, .int .i64 a1_1, .int .i64 a1_2]) (t := 50) ?hr ?_; (case hd => rfl); (case hg => rfl); (case hr => first | (go_simp; done) | (go_simp; rfl)); intro gb127 hg w3 hbox hb; have n0_ := Aside0.mk (below_step (by repeat (first | (with_reducible first | exact HB.out | apply below_alloc | apply pw_below_drewN | apply below_drew1) | exact HB.out)) hb); have n1_ := Aside0.mk (hbox); have n2_ := Aside0.mk ((by rw [hg]; exact (below_size (by repeat (first | (with_reducible first | exact HB.out | apply below_alloc | apply pw_below_drewN | apply below_drew1) | exact HB.out))) : w.heap.size ≤ gb127)); have n3_ := Aside0.mk ((by rw [hg]; exact (below_size (by repeat (first | (with_reducible first | exact HB.out | apply below_alloc | apply pw_below_drewN | apply below_drew1) | exact HB.out))) : w.heap.size ≤ gb127)); clear HB; have HB := n0_; have BK127 := n1_; have GW127 := n2_; have GE127 := n3_; clear n0_ n1_ n2_ n3_; clear hb hbox hg)))
  go_loopg [8] k (fun kq v8 w' => ∃ (x8_1 : Int), v8 = .int .i64 x8_1 ∧ Aside0 (api_DirtyPage_55.l0 kq l0 (l0.length : Int) x8_1 a1_0 a1_1 a1_2 = some r) ∧ Aside0 (kq ≤ k) ∧ Aside0 (w'.heap[gb127]? = some (.cells #[.int .i64 a1_0, .int .i64 a1_1, .int .i64 a1_2] 50 (0, 0))) ∧ Aside0 (Below w.heap.size w w'))
  case atStart => exact ⟨(0), (by first | rfl | (simp; done) | (simp [*]; done)), H', ⟨Nat.le_refl _⟩, ⟨by (with_reducible repeat (first | refine blk_drewN ?_ _ | refine blk_drew ?_ | refine blk_alloc ?_ _)); exact BK127.out⟩, ⟨by repeat (first | (with_reducible first | exact HB.out | apply below_alloc | apply pw_below_drewN | apply below_drew1 | refine below_set ?_ GE127.out) | exact HB.out)⟩⟩
  case round =>
    clear H'
    try clear p2
    obtain ⟨x8_1, rfl, HA, HK1, BK127, HB⟩ := hrel
    cases gk with
    | zero => exact absurd HA.out (by simp [api_DirtyPage_55.l0])
    | succ k1 =>
      have H := HA.out
      clear HA
      simp only [api_DirtyPage_55.l0] at H
      by_cases c4 : x8_1 < (l0.length : Int)
      · rw [if_pos c4] at H
        have c4b0 : decide (x8_1 < (l0.length : Int)) = true := decide_eq_true c4
        clear c4
        by_cases c5 : 0 ≤ x8_1
        · rw [if_pos c5] at H
          have c5b0 : decide (0 ≤ x8_1) = true := decide_eq_true c5
          clear c5
          by_cases c6 : x8_1 < (l0.length : Int)
          · rw [if_pos c6] at H
            have c6b0 : decide (x8_1 < (l0.length : Int)) = true := decide_eq_true c6
            clear c6
            by_cases c7 : (a1_0 == ((rd_T50 l0 x8_1).f0) && (a1_1 == ((rd_T50 l0 x8_1).f1) && (a1_2 == ((rd_T50 l0 x8_1).f2)))) = true
            · rw [if_pos c7] at H
              have c7b0 : (a1_0 == ((rd_T50 l0 x8_1).f0) && (a1_1 == ((rd_T50 l0 x8_1).f1) && (a1_2 == ((rd_T50 l0 x8_1).f2)))) = true := c7
              (try (have c7b1 : decide (a1_0 = ((rd_T50 l0 x8_1).f0) && (a1_1 == ((rd_T50 l0 x8_1).f1) && (a1_2 == ((rd_T50 l0 x8_1).f2)))) = true := by simpa using c7))
              (try (have c7b2 : (a1_0 == ((rd_T50 l0 x8_1).f0) && (a1_1 == ((rd_T50 l0 x8_1).f1) && (a1_2 == ((rd_T50 l0 x8_1).f2)))) = true := by simpa using c7))
              clear c7
              obtain rfl := Option.some.inj H
              have hcz8_0 : wr.cell? ⟨gb127, 0, none⟩ = some (.int .i64 a1_0) := (blk_cell BK127.out 0).trans rfl
              have hcz8_1 : wr.cell? ⟨gb127, 1, none⟩ = some (.int .i64 a1_1) := (blk_cell BK127.out 1).trans rfl
              have hcz8_2 : wr.cell? ⟨gb127, 2, none⟩ = some (.int .i64 a1_2) := (blk_cell BK127.out 2).trans rfl
              have hfz8_0 := blk_frozen BK127.out 0
              have hfz8_1 := blk_frozen BK127.out 1
              have hfz8_2 := blk_frozen BK127.out 2
              have p128 : 0 ≤ (x8_1 : Int) := of_decide_eq_true (by first | (with_reducible assumption) | assumption)
              have q128 : x8_1 < (l0.length : Int) := of_decide_eq_true (by first | (with_reducible assumption) | assumption)
              obtain ⟨ad128, e128, hx128_0, hx128_1, hx128_2⟩ := at_T50 HR0.out x8_1 p128 q128
              cases e128
              replace hx128_0 := (HB.out.cell (World.block_lt_of_cell? w _ hx128_0)).trans hx128_0
              replace hx128_1 := (HB.out.cell (World.block_lt_of_cell? w _ hx128_1)).trans hx128_1
              replace hx128_2 := (HB.out.cell (World.block_lt_of_cell? w _ hx128_2)).trans hx128_2
              replace p128 := eq_true p128
              replace q128 := eq_true q128
              go_wp2
              repeat (go_quiet (fail); try go_wp2)
              go_ret
              exact ⟨by first | rfl | (simp [errW_none, errW_some] <;> rfl) | (simp [*, errW_none, errW_some] <;> rfl), by repeat (first | (with_reducible first | exact HB.out | apply below_alloc | apply pw_below_drewN | apply below_drew1 | refine below_set ?_ GE127.out) | exact HB.out)⟩
            · rw [if_neg c7] at H
              have c7b0 : (a1_0 == ((rd_T50 l0 x8_1).f0) && (a1_1 == ((rd_T50 l0 x8_1).f1) && (a1_2 == ((rd_T50 l0 x8_1).f2)))) = false := by simpa using c7
              (try (have c7b1 : decide (a1_0 = ((rd_T50 l0 x8_1).f0) && (a1_1 == ((rd_T50 l0 x8_1).f1) && (a1_2 == ((rd_T50 l0 x8_1).f2)))) = false := by simpa using c7))
              (try (have c7b2 : (a1_0 == ((rd_T50 l0 x8_1).f0) && (a1_1 == ((rd_T50 l0 x8_1).f1) && (a1_2 == ((rd_T50 l0 x8_1).f2)))) = false := by simpa using c7))
              (try (have c7b3 : ¬ (a1_0 = ((rd_T50 l0 x8_1).f0) && (a1_1 == ((rd_T50 l0 x8_1).f1) && (a1_2 == ((rd_T50 l0 x8_1).f2)))) := by simpa using c7))
              clear c7
              have H' := Aside0.mk H
              clear H
              have hcz9_0 : wr.cell? ⟨gb127, 0, none⟩ = some (.int .i64 a1_0) := (blk_cell BK127.out 0).trans rfl
              have hcz9_1 : wr.cell? ⟨gb127, 1, none⟩ = some (.int .i64 a1_1) := (blk_cell BK127.out 1).trans rfl
              have hcz9_2 : wr.cell? ⟨gb127, 2, none⟩ = some (.int .i64 a1_2) := (blk_cell BK127.out 2).trans rfl
              have hfz9_0 := blk_frozen BK127.out 0
              have hfz9_1 := blk_frozen BK127.out 1
              have hfz9_2 := blk_frozen BK127.out 2
              have p128 : 0 ≤ (x8_1 : Int) := of_decide_eq_true (by first | (with_reducible assumption) | assumption)
              have q128 : x8_1 < (l0.length : Int) := of_decide_eq_true (by first | (with_reducible assumption) | assumption)
              obtain ⟨ad128, e128, hx128_0, hx128_1, hx128_2⟩ := at_T50 HR0.out x8_1 p128 q128
              cases e128
              replace hx128_0 := (HB.out.cell (World.block_lt_of_cell? w _ hx128_0)).trans hx128_0
              replace hx128_1 := (HB.out.cell (World.block_lt_of_cell? w _ hx128_1)).trans hx128_1
              replace hx128_2 := (HB.out.cell (World.block_lt_of_cell? w _ hx128_2)).trans hx128_2
              replace p128 := eq_true p128
              replace q128 := eq_true q128
              go_wp2
              repeat (go_quiet (fail); try go_wp2)
              go_roundg k1
              case measure => have := HK1.out; omega
              case rel => exact ⟨(wrap64 (x8_1 + 1)), (by first | rfl | (simp; done) | (simp [*]; done)), H', ⟨by have := HK1.out; omega⟩, ⟨by (with_reducible repeat (first | refine blk_drewN ?_ _ | refine blk_drew ?_ | refine blk_alloc ?_ _)); exact BK127.out⟩, ⟨by repeat (first | (with_reducible first | exact HB.out | apply below_alloc | apply pw_below_drewN | apply below_drew1 | refine below_set ?_ GE127.out) | exact HB.out)⟩⟩
          · rw [if_neg c6] at H
            exact absurd H (by simp)
        · rw [if_neg c5] at H
          exact absurd H (by simp)
      · rw [if_neg c4] at H
        have c4b0 : decide (x8_1 < (l0.length : Int)) = false := decide_eq_false c4
        clear c4
        obtain rfl := Option.some.inj H
        go_wp2
        repeat (go_quiet (fail); try go_wp2)
        go_ret
        exact ⟨by first | rfl | (simp [errW_none, errW_some] <;> rfl) | (simp [*, errW_none, errW_some] <;> rfl), by repeat (first | (with_reducible first | exact HB.out | apply below_alloc | apply pw_below_drewN | apply below_drew1 | refine below_set ?_ GE127.out) | exact HB.out)⟩

end Go.Proofs.Ytpccpkpljlafcaa.PTopOldestFirst
