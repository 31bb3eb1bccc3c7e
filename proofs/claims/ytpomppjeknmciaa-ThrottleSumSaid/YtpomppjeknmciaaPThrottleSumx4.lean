-- Printed by a copy of the kit's printer that this session has patched (wip/tools/patch_print.py): the session's own text. Lean checks it.
import Derived.Test.YtpomppjeknmciaaPThrottleSumx0
namespace Go.Proofs.Ytpomppjeknmciaa.PThrottleSum
open Go.RowKit Go.Proofs.YtpomppjeknmciaaW.PrintWords Go.Proofs.YtpomppjeknmciaaW.PrintLast Go.Proofs.YtpomppjeknmciaaW.PrintMore
attribute [local go_sem] max2_int min2_int max_two min_two max_three min_three max_four min_four   -- for this text's walks alone
set_option linter.unusedVariables false
set_option linter.unusedSimpArgs false

/-! ### throttle_Oldest: function 22 -/
mutual
def throttle_Oldest.l0 : Nat → List (S35) → Int → List (S35) → Int → Int → Option (Int)
  | 0, _, _, _, _, _ => none
  | k + 1, x0, x3, x6, x7, x8 => if x8 < x7 then (if 0 ≤ x8 then (if x8 < (x6.length : Int) then (if ((rd_T35 x6 x8).f0) = 4 then (if ((rd_T35 x6 x8).f10 = true) then (throttle_Oldest.j1 k x0 x3 x8 x6 x7 x8 (((rd_T35 x6 x8).f1) != 0) ((rd_T35 x6 x8).f0) ((rd_T35 x6 x8).f1) ((rd_T35 x6 x8).f2) ((rd_T35 x6 x8).f3) ((rd_T35 x6 x8).f4) ((rd_T35 x6 x8).f5) ((rd_T35 x6 x8).f6) ((rd_T35 x6 x8).f7) ((rd_T35 x6 x8).f8) ((rd_T35 x6 x8).f9) ((rd_T35 x6 x8).f10) ((rd_T35 x6 x8).f11) ((rd_T35 x6 x8).f12) ((rd_T35 x6 x8).f13) ((rd_T35 x6 x8).f14) ((rd_T35 x6 x8).f15)) else (throttle_Oldest.j1 k x0 x3 x8 x6 x7 x8 true ((rd_T35 x6 x8).f0) ((rd_T35 x6 x8).f1) ((rd_T35 x6 x8).f2) ((rd_T35 x6 x8).f3) ((rd_T35 x6 x8).f4) ((rd_T35 x6 x8).f5) ((rd_T35 x6 x8).f6) ((rd_T35 x6 x8).f7) ((rd_T35 x6 x8).f8) ((rd_T35 x6 x8).f9) ((rd_T35 x6 x8).f10) ((rd_T35 x6 x8).f11) ((rd_T35 x6 x8).f12) ((rd_T35 x6 x8).f13) ((rd_T35 x6 x8).f14) ((rd_T35 x6 x8).f15))) else (throttle_Oldest.j1 k x0 x3 x8 x6 x7 x8 true ((rd_T35 x6 x8).f0) ((rd_T35 x6 x8).f1) ((rd_T35 x6 x8).f2) ((rd_T35 x6 x8).f3) ((rd_T35 x6 x8).f4) ((rd_T35 x6 x8).f5) ((rd_T35 x6 x8).f6) ((rd_T35 x6 x8).f7) ((rd_T35 x6 x8).f8) ((rd_T35 x6 x8).f9) ((rd_T35 x6 x8).f10) ((rd_T35 x6 x8).f11) ((rd_T35 x6 x8).f12) ((rd_T35 x6 x8).f13) ((rd_T35 x6 x8).f14) ((rd_T35 x6 x8).f15))) else (none)) else (none)) else (some x3)
def throttle_Oldest.j1 : Nat → List (S35) → Int → Int → List (S35) → Int → Int → Bool → Int → Int → Int → Int → Int → Int → Int → Int → Int → Int → Bool → Bool → Bool → Int → List (S93) → List Int → Option (Int)
  | 0, _, _, _, _, _, _, _, _, _, _, _, _, _, _, _, _, _, _, _, _, _, _, _ => none
  | k + 1, x0, x3, x4, x6, x7, x8, x25, x144000, x144001, x144002, x144003, x144004, x144005, x144006, x144007, x144008, x144009, x144010, x144011, x144012, x144013, x144014, x144015 => if x25 = true then (throttle_Oldest.l0 k x0 x3 x6 x7 (wrap64 (x8 + 1))) else (if x3 < 0 then (throttle_Oldest.l0 k x0 x4 x6 x7 (wrap64 (x8 + 1))) else (if 0 ≤ x3 then (if x3 < (x0.length : Int) then (if x144009 < ((rd_T35 x0 x3).f9) then (throttle_Oldest.l0 k x0 x4 x6 x7 (wrap64 (x8 + 1))) else (throttle_Oldest.l0 k x0 x3 x6 x7 (wrap64 (x8 + 1)))) else (none)) else (none)))
end
def throttle_Oldest.f (k : Nat) (l0 : List (S35)) : Option (Int) := throttle_Oldest.l0 k l0 (-1) l0 (l0.length : Int) 0
theorem throttle_Oldest.mono_l : ∀ k, (∀ y0 y1 y2 y3 y4, LeO (throttle_Oldest.l0 k y0 y1 y2 y3 y4) (throttle_Oldest.l0 (k + 1) y0 y1 y2 y3 y4)) ∧ (∀ y0 y1 y2 y3 y4 y5 y6 y7 y8 y9 y10 y11 y12 y13 y14 y15 y16 y17 y18 y19 y20 y21 y22, LeO (throttle_Oldest.j1 k y0 y1 y2 y3 y4 y5 y6 y7 y8 y9 y10 y11 y12 y13 y14 y15 y16 y17 y18 y19 y20 y21 y22) (throttle_Oldest.j1 (k + 1) y0 y1 y2 y3 y4 y5 y6 y7 y8 y9 y10 y11 y12 y13 y14 y15 y16 y17 y18 y19 y20 y21 y22))
  | 0 => ⟨fun _ _ _ _ _ r h => by simp [throttle_Oldest.l0] at h, fun _ _ _ _ _ _ _ _ _ _ _ _ _ _ _ _ _ _ _ _ _ _ _ r h => by simp [throttle_Oldest.j1] at h⟩
  | k + 1 => by
    obtain ⟨ih0, ih1⟩ := throttle_Oldest.mono_l k
    refine ⟨?_, ?_⟩
    · intro y0 y1 y2 y3 y4
      unfold throttle_Oldest.l0
      repeat' first
      | (with_reducible exact ih0 _ _ _ _ _)
      | (with_reducible exact ih1 _ _ _ _ _ _ _ _ _ _ _ _ _ _ _ _ _ _ _ _ _ _ _)
      | (with_reducible exact LeO.refl _)
      | (with_reducible exact LeO.none _)
      | (with_reducible refine LeO.ite ?_ ?_)
      | (with_reducible refine LeO.bind ?_ (fun _ => ?_))
      | exact ih0 _ _ _ _ _
      | exact ih1 _ _ _ _ _ _ _ _ _ _ _ _ _ _ _ _ _ _ _ _ _ _ _
      | exact LeO.none _
      | refine LeO.ite ?_ ?_
      | refine LeO.bind ?_ (fun _ => ?_)
    · intro y0 y1 y2 y3 y4 y5 y6 y7 y8 y9 y10 y11 y12 y13 y14 y15 y16 y17 y18 y19 y20 y21 y22
      unfold throttle_Oldest.j1
      repeat' first
      | (with_reducible exact ih0 _ _ _ _ _)
      | (with_reducible exact ih1 _ _ _ _ _ _ _ _ _ _ _ _ _ _ _ _ _ _ _ _ _ _ _)
      | (with_reducible exact LeO.refl _)
      | (with_reducible exact LeO.none _)
      | (with_reducible refine LeO.ite ?_ ?_)
      | (with_reducible refine LeO.bind ?_ (fun _ => ?_))
      | exact ih0 _ _ _ _ _
      | exact ih1 _ _ _ _ _ _ _ _ _ _ _ _ _ _ _ _ _ _ _ _ _ _ _
      | exact LeO.none _
      | refine LeO.ite ?_ ?_
      | refine LeO.bind ?_ (fun _ => ?_)
theorem throttle_Oldest.mono : ∀ a0 k, LeO (throttle_Oldest.f k a0) (throttle_Oldest.f (k + 1) a0) := by
  intro a0 k
  obtain ⟨ih0, ih1⟩ := throttle_Oldest.mono_l k
  unfold throttle_Oldest.f
  repeat' first
      | (with_reducible exact ih0 _ _ _ _ _)
      | (with_reducible exact ih1 _ _ _ _ _ _ _ _ _ _ _ _ _ _ _ _ _ _ _ _ _ _ _)
      | (with_reducible exact LeO.refl _)
      | (with_reducible exact LeO.none _)
      | (with_reducible refine LeO.ite ?_ ?_)
      | (with_reducible refine LeO.bind ?_ (fun _ => ?_))
      | exact ih0 _ _ _ _ _
      | exact ih1 _ _ _ _ _ _ _ _ _ _ _ _ _ _ _ _ _ _ _ _ _ _ _
      | exact LeO.none _
      | refine LeO.ite ?_ ?_
      | refine LeO.bind ?_ (fun _ => ?_)
set_option maxHeartbeats 8000000 in
set_option maxRecDepth 100000 in
theorem throttle_Oldest.calls (k : Nat) (A0 : Option Addr) (c0 : Nat) (l0 : List (S35)) (r : Int) (w : World) (hr0 : Kd.C k35 w A0 l0.length l0) (hc0 : l0.length ≤ c0) (h : throttle_Oldest.f k l0 = some r) :
    Calls Try.prog 22 #[.slice A0 l0.length c0] w fun e w' => e = .returned (.int .i64 r) ∧ Below w.heap.size w w' := by
  have hu35 := Try.underlying35
  have HR0 := Aside0.mk hr0
  have HC0 := Aside0.mk hc0
  clear hr0 hc0
  have HB := Aside0.mk (Below.refl w.heap.size w)
  have H : (throttle_Oldest.l0 k l0 (-1) l0 (l0.length : Int) 0) = some r := h
  clear h
  have H' := Aside0.mk H
  clear H
  go_enter Try.func22, Try.ntmps22
  go_wp2
  repeat (go_quiet (fail); try go_wp2)
  go_loopg [3, 8] k (fun kq v3 v8 w' => ∃ (x3_1 : Int) (x8_1 : Int), v3 = .int .i64 x3_1 ∧ v8 = .int .i64 x8_1 ∧ Aside0 (throttle_Oldest.l0 kq l0 x3_1 l0 (l0.length : Int) x8_1 = some r) ∧ Aside0 (kq ≤ k) ∧ Aside0 (Below w.heap.size w w'))
  case atStart => exact ⟨((-1)), (0), (by first | rfl | (simp; done) | (simp [*]; done)), (by first | rfl | (simp; done) | (simp [*]; done)), H', ⟨Nat.le_refl _⟩, ⟨by repeat (first | (with_reducible first | exact HB.out | apply below_alloc | apply pw_below_drewN | apply below_drew1) | exact HB.out)⟩⟩
  case round =>
    clear H'
    obtain ⟨x3_1, x8_1, rfl, rfl, HA, HK1, HB⟩ := hrel
    cases gk with
    | zero => exact absurd HA.out (by simp [throttle_Oldest.l0])
    | succ k1 =>
      have H := HA.out
      clear HA
      simp only [throttle_Oldest.l0] at H
      by_cases c2 : x8_1 < (l0.length : Int)
      · rw [if_pos c2] at H
        have c2b0 : decide (x8_1 < (l0.length : Int)) = true := decide_eq_true c2
        clear c2
        by_cases c3 : 0 ≤ x8_1
        · rw [if_pos c3] at H
          have c3b0 : decide (0 ≤ x8_1) = true := decide_eq_true c3
          clear c3
          by_cases c4 : x8_1 < (l0.length : Int)
          · rw [if_pos c4] at H
            have c4b0 : decide (x8_1 < (l0.length : Int)) = true := decide_eq_true c4
            clear c4
            have HC5 := Aside0.mk H
            clear H
            have p142 : 0 ≤ (x8_1 : Int) := of_decide_eq_true (by first | (with_reducible assumption) | assumption)
            have q142 : x8_1 < (l0.length : Int) := of_decide_eq_true (by first | (with_reducible assumption) | assumption)
            obtain ⟨ad142, A142_14, c142_14, A142_15, c142_15, e142, hx142_0, hx142_1, hx142_2, hx142_3, hx142_4, hx142_5, hx142_6, hx142_7, hx142_8, hx142_9, hx142_10, hx142_11, hx142_12, hx142_13, hx142_14, hx142_15, hl142_14, hi142_14, hl142_15, hi142_15⟩ := at_T35 HR0.out x8_1 p142 q142
            cases e142
            replace hx142_0 := (HB.out.cell (World.block_lt_of_cell? w _ hx142_0)).trans hx142_0
            replace hx142_1 := (HB.out.cell (World.block_lt_of_cell? w _ hx142_1)).trans hx142_1
            replace hx142_2 := (HB.out.cell (World.block_lt_of_cell? w _ hx142_2)).trans hx142_2
            replace hx142_3 := (HB.out.cell (World.block_lt_of_cell? w _ hx142_3)).trans hx142_3
            replace hx142_4 := (HB.out.cell (World.block_lt_of_cell? w _ hx142_4)).trans hx142_4
            replace hx142_5 := (HB.out.cell (World.block_lt_of_cell? w _ hx142_5)).trans hx142_5
            replace hx142_6 := (HB.out.cell (World.block_lt_of_cell? w _ hx142_6)).trans hx142_6
            replace hx142_7 := (HB.out.cell (World.block_lt_of_cell? w _ hx142_7)).trans hx142_7
            replace hx142_8 := (HB.out.cell (World.block_lt_of_cell? w _ hx142_8)).trans hx142_8
            replace hx142_9 := (HB.out.cell (World.block_lt_of_cell? w _ hx142_9)).trans hx142_9
            replace hx142_10 := (HB.out.cell (World.block_lt_of_cell? w _ hx142_10)).trans hx142_10
            replace hx142_11 := (HB.out.cell (World.block_lt_of_cell? w _ hx142_11)).trans hx142_11
            replace hx142_12 := (HB.out.cell (World.block_lt_of_cell? w _ hx142_12)).trans hx142_12
            replace hx142_13 := (HB.out.cell (World.block_lt_of_cell? w _ hx142_13)).trans hx142_13
            replace hx142_14 := (HB.out.cell (World.block_lt_of_cell? w _ hx142_14)).trans hx142_14
            replace hx142_15 := (HB.out.cell (World.block_lt_of_cell? w _ hx142_15)).trans hx142_15
            have HR142_14 := Aside0.mk hi142_14
            have HC142_14 := Aside0.mk hl142_14
            clear hi142_14 hl142_14
            have HR142_15 := Aside0.mk hi142_15
            have HC142_15 := Aside0.mk hl142_15
            clear hi142_15 hl142_15
            replace p142 := eq_true p142
            replace q142 := eq_true q142
            go_upto_region 5 with (first | ((with_reducible refine gate_dst (N := 5) rfl ?_); refine box_event ?hg (N := 5) ?hd (cs := #[.int .i64 0, .int .i64 0, .int .i64 0, .int .i64 0, .int .i64 0, .int .i64 0, .int .i64 0, .int .i64 0, .int .i64 0, .int .i64 0, .bool false, .bool false, .bool false, .int .i64 0, .slice none 0 0, .slice none 0 0]) (t := 35) ?hr ?_; (case hd => rfl); (case hg => rfl); (case hr => first | (go_simp; done) | (go_simp; rfl)); intro gb143 hg w6 hbox hb; have n0_ := Aside0.mk (below_step (by repeat (first | (with_reducible first | exact HB.out | apply below_alloc | apply pw_below_drewN | apply below_drew1) | exact HB.out)) hb); have n1_ := Aside0.mk (hbox); have n2_ := Aside0.mk ((by rw [hg]; exact (below_size (by repeat (first | (with_reducible first | exact HB.out | apply below_alloc | apply pw_below_drewN | apply below_drew1) | exact HB.out))) : w.heap.size ≤ gb143)); have n3_ := Aside0.mk ((by rw [hg]; exact (below_size (by repeat (first | (with_reducible first | exact HB.out | apply below_alloc | apply pw_below_drewN | apply below_drew1) | exact HB.out))) : w.heap.size ≤ gb143)); clear HB; have HB := n0_; have BK143 := n1_; have GW143 := n2_; have GE143 := n3_; clear n0_ n1_ n2_ n3_; clear hb hbox hg; have hcz7_0 : w6.cell? ⟨gb143, 0, none⟩ = some (.int .i64 0) := (blk_cell BK143.out 0).trans rfl; have hcz7_1 : w6.cell? ⟨gb143, 1, none⟩ = some (.int .i64 0) := (blk_cell BK143.out 1).trans rfl; have hcz7_2 : w6.cell? ⟨gb143, 2, none⟩ = some (.int .i64 0) := (blk_cell BK143.out 2).trans rfl; have hcz7_3 : w6.cell? ⟨gb143, 3, none⟩ = some (.int .i64 0) := (blk_cell BK143.out 3).trans rfl; have hcz7_4 : w6.cell? ⟨gb143, 4, none⟩ = some (.int .i64 0) := (blk_cell BK143.out 4).trans rfl; have hcz7_5 : w6.cell? ⟨gb143, 5, none⟩ = some (.int .i64 0) := (blk_cell BK143.out 5).trans rfl; have hcz7_6 : w6.cell? ⟨gb143, 6, none⟩ = some (.int .i64 0) := (blk_cell BK143.out 6).trans rfl; have hcz7_7 : w6.cell? ⟨gb143, 7, none⟩ = some (.int .i64 0) := (blk_cell BK143.out 7).trans rfl; have hcz7_8 : w6.cell? ⟨gb143, 8, none⟩ = some (.int .i64 0) := (blk_cell BK143.out 8).trans rfl; have hcz7_9 : w6.cell? ⟨gb143, 9, none⟩ = some (.int .i64 0) := (blk_cell BK143.out 9).trans rfl; have hcz7_10 : w6.cell? ⟨gb143, 10, none⟩ = some (.bool false) := (blk_cell BK143.out 10).trans rfl; have hcz7_11 : w6.cell? ⟨gb143, 11, none⟩ = some (.bool false) := (blk_cell BK143.out 11).trans rfl; have hcz7_12 : w6.cell? ⟨gb143, 12, none⟩ = some (.bool false) := (blk_cell BK143.out 12).trans rfl; have hcz7_13 : w6.cell? ⟨gb143, 13, none⟩ = some (.int .i64 0) := (blk_cell BK143.out 13).trans rfl; have hcz7_14 : w6.cell? ⟨gb143, 14, none⟩ = some (.slice none 0 0) := (blk_cell BK143.out 14).trans rfl; have hcz7_15 : w6.cell? ⟨gb143, 15, none⟩ = some (.slice none 0 0) := (blk_cell BK143.out 15).trans rfl; have hfz7_0 := blk_frozen BK143.out 0; have hfz7_1 := blk_frozen BK143.out 1; have hfz7_2 := blk_frozen BK143.out 2; have hfz7_3 := blk_frozen BK143.out 3; have hfz7_4 := blk_frozen BK143.out 4; have hfz7_5 := blk_frozen BK143.out 5; have hfz7_6 := blk_frozen BK143.out 6; have hfz7_7 := blk_frozen BK143.out 7; have hfz7_8 := blk_frozen BK143.out 8; have hfz7_9 := blk_frozen BK143.out 9; have hfz7_10 := blk_frozen BK143.out 10; have hfz7_11 := blk_frozen BK143.out 11; have hfz7_12 := blk_frozen BK143.out 12; have hfz7_13 := blk_frozen BK143.out 13; have hfz7_14 := blk_frozen BK143.out 14; have hfz7_15 := blk_frozen BK143.out 15))
            repeat (go_quiet (first | ((with_reducible refine gate_dst (N := 5) rfl ?_); refine box_event ?hg (N := 5) ?hd (cs := #[.int .i64 0, .int .i64 0, .int .i64 0, .int .i64 0, .int .i64 0, .int .i64 0, .int .i64 0, .int .i64 0, .int .i64 0, .int .i64 0, .bool false, .bool false, .bool false, .int .i64 0, .slice none 0 0, .slice none 0 0]) (t := 35) ?hr ?_; (case hd => rfl); (case hg => rfl); (case hr => first | (go_simp; done) | (go_simp; rfl)); intro gb143 hg w6 hbox hb; have n0_ := Aside0.mk (below_step (by repeat (first | (with_reducible first | exact HB.out | apply below_alloc | apply pw_below_drewN | apply below_drew1) | exact HB.out)) hb); have n1_ := Aside0.mk (hbox); have n2_ := Aside0.mk ((by rw [hg]; exact (below_size (by repeat (first | (with_reducible first | exact HB.out | apply below_alloc | apply pw_below_drewN | apply below_drew1) | exact HB.out))) : w.heap.size ≤ gb143)); have n3_ := Aside0.mk ((by rw [hg]; exact (below_size (by repeat (first | (with_reducible first | exact HB.out | apply below_alloc | apply pw_below_drewN | apply below_drew1) | exact HB.out))) : w.heap.size ≤ gb143)); clear HB; have HB := n0_; have BK143 := n1_; have GW143 := n2_; have GE143 := n3_; clear n0_ n1_ n2_ n3_; clear hb hbox hg; have hcz7_0 : w6.cell? ⟨gb143, 0, none⟩ = some (.int .i64 0) := (blk_cell BK143.out 0).trans rfl; have hcz7_1 : w6.cell? ⟨gb143, 1, none⟩ = some (.int .i64 0) := (blk_cell BK143.out 1).trans rfl; have hcz7_2 : w6.cell? ⟨gb143, 2, none⟩ = some (.int .i64 0) := (blk_cell BK143.out 2).trans rfl; have hcz7_3 : w6.cell? ⟨gb143, 3, none⟩ = some (.int .i64 0) := (blk_cell BK143.out 3).trans rfl; have hcz7_4 : w6.cell? ⟨gb143, 4, none⟩ = some (.int .i64 0) := (blk_cell BK143.out 4).trans rfl; have hcz7_5 : w6.cell? ⟨gb143, 5, none⟩ = some (.int .i64 0) := (blk_cell BK143.out 5).trans rfl; have hcz7_6 : w6.cell? ⟨gb143, 6, none⟩ = some (.int .i64 0) := (blk_cell BK143.out 6).trans rfl; have hcz7_7 : w6.cell? ⟨gb143, 7, none⟩ = some (.int .i64 0) := (blk_cell BK143.out 7).trans rfl; have hcz7_8 : w6.cell? ⟨gb143, 8, none⟩ = some (.int .i64 0) := (blk_cell BK143.out 8).trans rfl; have hcz7_9 : w6.cell? ⟨gb143, 9, none⟩ = some (.int .i64 0) := (blk_cell BK143.out 9).trans rfl; have hcz7_10 : w6.cell? ⟨gb143, 10, none⟩ = some (.bool false) := (blk_cell BK143.out 10).trans rfl; have hcz7_11 : w6.cell? ⟨gb143, 11, none⟩ = some (.bool false) := (blk_cell BK143.out 11).trans rfl; have hcz7_12 : w6.cell? ⟨gb143, 12, none⟩ = some (.bool false) := (blk_cell BK143.out 12).trans rfl; have hcz7_13 : w6.cell? ⟨gb143, 13, none⟩ = some (.int .i64 0) := (blk_cell BK143.out 13).trans rfl; have hcz7_14 : w6.cell? ⟨gb143, 14, none⟩ = some (.slice none 0 0) := (blk_cell BK143.out 14).trans rfl; have hcz7_15 : w6.cell? ⟨gb143, 15, none⟩ = some (.slice none 0 0) := (blk_cell BK143.out 15).trans rfl; have hfz7_0 := blk_frozen BK143.out 0; have hfz7_1 := blk_frozen BK143.out 1; have hfz7_2 := blk_frozen BK143.out 2; have hfz7_3 := blk_frozen BK143.out 3; have hfz7_4 := blk_frozen BK143.out 4; have hfz7_5 := blk_frozen BK143.out 5; have hfz7_6 := blk_frozen BK143.out 6; have hfz7_7 := blk_frozen BK143.out 7; have hfz7_8 := blk_frozen BK143.out 8; have hfz7_9 := blk_frozen BK143.out 9; have hfz7_10 := blk_frozen BK143.out 10; have hfz7_11 := blk_frozen BK143.out 11; have hfz7_12 := blk_frozen BK143.out 12; have hfz7_13 := blk_frozen BK143.out 13; have hfz7_14 := blk_frozen BK143.out 14; have hfz7_15 := blk_frozen BK143.out 15)); go_upto_region 5 with (first | ((with_reducible refine gate_dst (N := 5) rfl ?_); refine box_event ?hg (N := 5) ?hd (cs := #[.int .i64 0, .int .i64 0, .int .i64 0, .int .i64 0, .int .i64 0, .int .i64 0, .int .i64 0, .int .i64 0, .int .i64 0, .int .i64 0, .bool false, .bool false, .bool false, .int .i64 0, .slice none 0 0, .slice none 0 0]) (t := 35) ?hr ?_; (case hd => rfl); (case hg => rfl); (case hr => first | (go_simp; done) | (go_simp; rfl)); intro gb143 hg w6 hbox hb; have n0_ := Aside0.mk (below_step (by repeat (first | (with_reducible first | exact HB.out | apply below_alloc | apply pw_below_drewN | apply below_drew1) | exact HB.out)) hb); have n1_ := Aside0.mk (hbox); have n2_ := Aside0.mk ((by rw [hg]; exact (below_size (by repeat (first | (with_reducible first | exact HB.out | apply below_alloc | apply pw_below_drewN | apply below_drew1) | exact HB.out))) : w.heap.size ≤ gb143)); have n3_ := Aside0.mk ((by rw [hg]; exact (below_size (by repeat (first | (with_reducible first | exact HB.out | apply below_alloc | apply pw_below_drewN | apply below_drew1) | exact HB.out))) : w.heap.size ≤ gb143)); clear HB; have HB := n0_; have BK143 := n1_; have GW143 := n2_; have GE143 := n3_; clear n0_ n1_ n2_ n3_; clear hb hbox hg; have hcz7_0 : w6.cell? ⟨gb143, 0, none⟩ = some (.int .i64 0) := (blk_cell BK143.out 0).trans rfl; have hcz7_1 : w6.cell? ⟨gb143, 1, none⟩ = some (.int .i64 0) := (blk_cell BK143.out 1).trans rfl; have hcz7_2 : w6.cell? ⟨gb143, 2, none⟩ = some (.int .i64 0) := (blk_cell BK143.out 2).trans rfl; have hcz7_3 : w6.cell? ⟨gb143, 3, none⟩ = some (.int .i64 0) := (blk_cell BK143.out 3).trans rfl; have hcz7_4 : w6.cell? ⟨gb143, 4, none⟩ = some (.int .i64 0) := (blk_cell BK143.out 4).trans rfl; have hcz7_5 : w6.cell? ⟨gb143, 5, none⟩ = some (.int .i64 0) := (blk_cell BK143.out 5).trans rfl; have hcz7_6 : w6.cell? ⟨gb143, 6, none⟩ = some (.int .i64 0) := (blk_cell BK143.out 6).trans rfl; have hcz7_7 : w6.cell? ⟨gb143, 7, none⟩ = some (.int .i64 0) := (blk_cell BK143.out 7).trans rfl; have hcz7_8 : w6.cell? ⟨gb143, 8, none⟩ = some (.int .i64 0) := (blk_cell BK143.out 8).trans rfl; have hcz7_9 : w6.cell? ⟨gb143, 9, none⟩ = some (.int .i64 0) := (blk_cell BK143.out 9).trans rfl; have hcz7_10 : w6.cell? ⟨gb143, 10, none⟩ = some (.bool false) := (blk_cell BK143.out 10).trans rfl; have hcz7_11 : w6.cell? ⟨gb143, 11, none⟩ = some (.bool false) := (blk_cell BK143.out 11).trans rfl; have hcz7_12 : w6.cell? ⟨gb143, 12, none⟩ = some (.bool false) := (blk_cell BK143.out 12).trans rfl; have hcz7_13 : w6.cell? ⟨gb143, 13, none⟩ = some (.int .i64 0) := (blk_cell BK143.out 13).trans rfl; have hcz7_14 : w6.cell? ⟨gb143, 14, none⟩ = some (.slice none 0 0) := (blk_cell BK143.out 14).trans rfl; have hcz7_15 : w6.cell? ⟨gb143, 15, none⟩ = some (.slice none 0 0) := (blk_cell BK143.out 15).trans rfl; have hfz7_0 := blk_frozen BK143.out 0; have hfz7_1 := blk_frozen BK143.out 1; have hfz7_2 := blk_frozen BK143.out 2; have hfz7_3 := blk_frozen BK143.out 3; have hfz7_4 := blk_frozen BK143.out 4; have hfz7_5 := blk_frozen BK143.out 5; have hfz7_6 := blk_frozen BK143.out 6; have hfz7_7 := blk_frozen BK143.out 7; have hfz7_8 := blk_frozen BK143.out 8; have hfz7_9 := blk_frozen BK143.out 9; have hfz7_10 := blk_frozen BK143.out 10; have hfz7_11 := blk_frozen BK143.out 11; have hfz7_12 := blk_frozen BK143.out 12; have hfz7_13 := blk_frozen BK143.out 13; have hfz7_14 := blk_frozen BK143.out 14; have hfz7_15 := blk_frozen BK143.out 15)))
            (try simp only [Act.put, List.setIfInBounds_toArray, List.set_cons_zero, List.set_cons_succ])
            go_cut [25] (fun v25 wc => ∃ (kq : Nat) (x25_4 : Bool), v25 = .bool x25_4 ∧ Aside0 (throttle_Oldest.j1 kq l0 x3_1 x8_1 l0 (l0.length : Int) x8_1 x25_4 ((rd_T35 l0 x8_1).f0) ((rd_T35 l0 x8_1).f1) ((rd_T35 l0 x8_1).f2) ((rd_T35 l0 x8_1).f3) ((rd_T35 l0 x8_1).f4) ((rd_T35 l0 x8_1).f5) ((rd_T35 l0 x8_1).f6) ((rd_T35 l0 x8_1).f7) ((rd_T35 l0 x8_1).f8) ((rd_T35 l0 x8_1).f9) ((rd_T35 l0 x8_1).f10) ((rd_T35 l0 x8_1).f11) ((rd_T35 l0 x8_1).f12) ((rd_T35 l0 x8_1).f13) ((rd_T35 l0 x8_1).f14) ((rd_T35 l0 x8_1).f15) = some r) ∧ Aside0 (kq ≤ k1) ∧ Aside0 (wc.heap[gb143]? = some (.cells #[.int .i64 ((rd_T35 l0 x8_1).f0), .int .i64 ((rd_T35 l0 x8_1).f1), .int .i64 ((rd_T35 l0 x8_1).f2), .int .i64 ((rd_T35 l0 x8_1).f3), .int .i64 ((rd_T35 l0 x8_1).f4), .int .i64 ((rd_T35 l0 x8_1).f5), .int .i64 ((rd_T35 l0 x8_1).f6), .int .i64 ((rd_T35 l0 x8_1).f7), .int .i64 ((rd_T35 l0 x8_1).f8), .int .i64 ((rd_T35 l0 x8_1).f9), .bool ((rd_T35 l0 x8_1).f10), .bool ((rd_T35 l0 x8_1).f11), .bool ((rd_T35 l0 x8_1).f12), .int .i64 ((rd_T35 l0 x8_1).f13), (.slice A142_14 ((rd_T35 l0 x8_1).f14).length c142_14), (.slice A142_15 ((rd_T35 l0 x8_1).f15).length c142_15)] 35 (0, 0))) ∧ Aside0 (Below w.heap.size w wc))
            case first =>
              have H := HC5.out
              clear HC5
              by_cases c8 : ((rd_T35 l0 x8_1).f0) = 4
              · rw [if_pos c8] at H
                have c8b0 : (((rd_T35 l0 x8_1).f0) == 4) = true := beq_iff_eq.mpr c8
                have c8b1 : (((rd_T35 l0 x8_1).f0) != 4) = false := bne_eq_false_iff_eq.mpr c8
                clear c8
                (first | rw [c8b0] | (simp only [i64_w, i32_w]; rw [c8b0]) | skip)
                obtain ⟨bq9, hbq9⟩ : ∃ b_ : Bool, b_ = ((rd_T35 l0 x8_1).f10) := ⟨_, rfl⟩
                replace H : (if (bq9 = true) then (throttle_Oldest.j1 k1 l0 x3_1 x8_1 l0 (l0.length : Int) x8_1 (((rd_T35 l0 x8_1).f1) != 0) ((rd_T35 l0 x8_1).f0) ((rd_T35 l0 x8_1).f1) ((rd_T35 l0 x8_1).f2) ((rd_T35 l0 x8_1).f3) ((rd_T35 l0 x8_1).f4) ((rd_T35 l0 x8_1).f5) ((rd_T35 l0 x8_1).f6) ((rd_T35 l0 x8_1).f7) ((rd_T35 l0 x8_1).f8) ((rd_T35 l0 x8_1).f9) bq9 ((rd_T35 l0 x8_1).f11) ((rd_T35 l0 x8_1).f12) ((rd_T35 l0 x8_1).f13) ((rd_T35 l0 x8_1).f14) ((rd_T35 l0 x8_1).f15)) else (throttle_Oldest.j1 k1 l0 x3_1 x8_1 l0 (l0.length : Int) x8_1 true ((rd_T35 l0 x8_1).f0) ((rd_T35 l0 x8_1).f1) ((rd_T35 l0 x8_1).f2) ((rd_T35 l0 x8_1).f3) ((rd_T35 l0 x8_1).f4) ((rd_T35 l0 x8_1).f5) ((rd_T35 l0 x8_1).f6) ((rd_T35 l0 x8_1).f7) ((rd_T35 l0 x8_1).f8) ((rd_T35 l0 x8_1).f9) bq9 ((rd_T35 l0 x8_1).f11) ((rd_T35 l0 x8_1).f12) ((rd_T35 l0 x8_1).f13) ((rd_T35 l0 x8_1).f14) ((rd_T35 l0 x8_1).f15))) = some r := by rw [← hbq9] at H; exact H
                have Nbq9 := Aside0.mk hbq9
                clear hbq9
                by_cases c10 : (bq9 = true)
                · subst c10
                  have H1 : (throttle_Oldest.j1 k1 l0 x3_1 x8_1 l0 (l0.length : Int) x8_1 (((rd_T35 l0 x8_1).f1) != 0) ((rd_T35 l0 x8_1).f0) ((rd_T35 l0 x8_1).f1) ((rd_T35 l0 x8_1).f2) ((rd_T35 l0 x8_1).f3) ((rd_T35 l0 x8_1).f4) ((rd_T35 l0 x8_1).f5) ((rd_T35 l0 x8_1).f6) ((rd_T35 l0 x8_1).f7) ((rd_T35 l0 x8_1).f8) ((rd_T35 l0 x8_1).f9) true ((rd_T35 l0 x8_1).f11) ((rd_T35 l0 x8_1).f12) ((rd_T35 l0 x8_1).f13) ((rd_T35 l0 x8_1).f14) ((rd_T35 l0 x8_1).f15)) = some r := by rw [if_pos rfl] at H; exact H
                  clear H
                  have H := H1
                  clear H1
                  have H' := Aside0.mk H
                  clear H
                  have hcz11_0 : w6.cell? ⟨gb143, 0, none⟩ = some (.int .i64 0) := (blk_cell BK143.out 0).trans rfl
                  have hcz11_1 : w6.cell? ⟨gb143, 1, none⟩ = some (.int .i64 0) := (blk_cell BK143.out 1).trans rfl
                  have hcz11_2 : w6.cell? ⟨gb143, 2, none⟩ = some (.int .i64 0) := (blk_cell BK143.out 2).trans rfl
                  have hcz11_3 : w6.cell? ⟨gb143, 3, none⟩ = some (.int .i64 0) := (blk_cell BK143.out 3).trans rfl
                  have hcz11_4 : w6.cell? ⟨gb143, 4, none⟩ = some (.int .i64 0) := (blk_cell BK143.out 4).trans rfl
                  have hcz11_5 : w6.cell? ⟨gb143, 5, none⟩ = some (.int .i64 0) := (blk_cell BK143.out 5).trans rfl
                  have hcz11_6 : w6.cell? ⟨gb143, 6, none⟩ = some (.int .i64 0) := (blk_cell BK143.out 6).trans rfl
                  have hcz11_7 : w6.cell? ⟨gb143, 7, none⟩ = some (.int .i64 0) := (blk_cell BK143.out 7).trans rfl
                  have hcz11_8 : w6.cell? ⟨gb143, 8, none⟩ = some (.int .i64 0) := (blk_cell BK143.out 8).trans rfl
                  have hcz11_9 : w6.cell? ⟨gb143, 9, none⟩ = some (.int .i64 0) := (blk_cell BK143.out 9).trans rfl
                  have hcz11_10 : w6.cell? ⟨gb143, 10, none⟩ = some (.bool false) := (blk_cell BK143.out 10).trans rfl
                  have hcz11_11 : w6.cell? ⟨gb143, 11, none⟩ = some (.bool false) := (blk_cell BK143.out 11).trans rfl
                  have hcz11_12 : w6.cell? ⟨gb143, 12, none⟩ = some (.bool false) := (blk_cell BK143.out 12).trans rfl
                  have hcz11_13 : w6.cell? ⟨gb143, 13, none⟩ = some (.int .i64 0) := (blk_cell BK143.out 13).trans rfl
                  have hcz11_14 : w6.cell? ⟨gb143, 14, none⟩ = some (.slice none 0 0) := (blk_cell BK143.out 14).trans rfl
                  have hcz11_15 : w6.cell? ⟨gb143, 15, none⟩ = some (.slice none 0 0) := (blk_cell BK143.out 15).trans rfl
                  have hfz11_0 := blk_frozen BK143.out 0
                  have hfz11_1 := blk_frozen BK143.out 1
                  have hfz11_2 := blk_frozen BK143.out 2
                  have hfz11_3 := blk_frozen BK143.out 3
                  have hfz11_4 := blk_frozen BK143.out 4
                  have hfz11_5 := blk_frozen BK143.out 5
                  have hfz11_6 := blk_frozen BK143.out 6
                  have hfz11_7 := blk_frozen BK143.out 7
                  have hfz11_8 := blk_frozen BK143.out 8
                  have hfz11_9 := blk_frozen BK143.out 9
                  have hfz11_10 := blk_frozen BK143.out 10
                  have hfz11_11 := blk_frozen BK143.out 11
                  have hfz11_12 := blk_frozen BK143.out 12
                  have hfz11_13 := blk_frozen BK143.out 13
                  have hfz11_14 := blk_frozen BK143.out 14
                  have hfz11_15 := blk_frozen BK143.out 15
                  (try rw [← Nbq9.out])
                  (try rw [← Nbq9.out] at BK143)
                  go_wp2
                  repeat (go_quiet (fail); try go_wp2)
                  go_meet
                  case rel => (try rw [← Nbq9.out]); exact ⟨_, ((((rd_T35 l0 x8_1).f1) != 0)), (by first | rfl | (simp; done) | (simp [*]; done)), H', ⟨by have := HK1.out; first | omega | exact Nat.le_refl _⟩, ⟨by (with_reducible repeat (first | refine blk_drewN ?_ _ | refine blk_drew ?_ | refine blk_alloc ?_ _)); refine blk_put (cs := #[.int .i64 ((rd_T35 l0 x8_1).f0), .int .i64 ((rd_T35 l0 x8_1).f1), .int .i64 ((rd_T35 l0 x8_1).f2), .int .i64 ((rd_T35 l0 x8_1).f3), .int .i64 ((rd_T35 l0 x8_1).f4), .int .i64 ((rd_T35 l0 x8_1).f5), .int .i64 ((rd_T35 l0 x8_1).f6), .int .i64 ((rd_T35 l0 x8_1).f7), .int .i64 ((rd_T35 l0 x8_1).f8), .int .i64 ((rd_T35 l0 x8_1).f9), .bool (true), .bool ((rd_T35 l0 x8_1).f11), .bool ((rd_T35 l0 x8_1).f12), .int .i64 ((rd_T35 l0 x8_1).f13), .slice A142_14 ((rd_T35 l0 x8_1).f14).length c142_14, .slice none 0 0]) ?_ 15 _ rfl; (with_reducible repeat (first | refine blk_drewN ?_ _ | refine blk_drew ?_ | refine blk_alloc ?_ _)); refine blk_put (cs := #[.int .i64 ((rd_T35 l0 x8_1).f0), .int .i64 ((rd_T35 l0 x8_1).f1), .int .i64 ((rd_T35 l0 x8_1).f2), .int .i64 ((rd_T35 l0 x8_1).f3), .int .i64 ((rd_T35 l0 x8_1).f4), .int .i64 ((rd_T35 l0 x8_1).f5), .int .i64 ((rd_T35 l0 x8_1).f6), .int .i64 ((rd_T35 l0 x8_1).f7), .int .i64 ((rd_T35 l0 x8_1).f8), .int .i64 ((rd_T35 l0 x8_1).f9), .bool (true), .bool ((rd_T35 l0 x8_1).f11), .bool ((rd_T35 l0 x8_1).f12), .int .i64 ((rd_T35 l0 x8_1).f13), .slice none 0 0, .slice none 0 0]) ?_ 14 _ rfl; (with_reducible repeat (first | refine blk_drewN ?_ _ | refine blk_drew ?_ | refine blk_alloc ?_ _)); refine blk_put (cs := #[.int .i64 ((rd_T35 l0 x8_1).f0), .int .i64 ((rd_T35 l0 x8_1).f1), .int .i64 ((rd_T35 l0 x8_1).f2), .int .i64 ((rd_T35 l0 x8_1).f3), .int .i64 ((rd_T35 l0 x8_1).f4), .int .i64 ((rd_T35 l0 x8_1).f5), .int .i64 ((rd_T35 l0 x8_1).f6), .int .i64 ((rd_T35 l0 x8_1).f7), .int .i64 ((rd_T35 l0 x8_1).f8), .int .i64 ((rd_T35 l0 x8_1).f9), .bool (true), .bool ((rd_T35 l0 x8_1).f11), .bool ((rd_T35 l0 x8_1).f12), .int .i64 0, .slice none 0 0, .slice none 0 0]) ?_ 13 _ rfl; (with_reducible repeat (first | refine blk_drewN ?_ _ | refine blk_drew ?_ | refine blk_alloc ?_ _)); refine blk_put (cs := #[.int .i64 ((rd_T35 l0 x8_1).f0), .int .i64 ((rd_T35 l0 x8_1).f1), .int .i64 ((rd_T35 l0 x8_1).f2), .int .i64 ((rd_T35 l0 x8_1).f3), .int .i64 ((rd_T35 l0 x8_1).f4), .int .i64 ((rd_T35 l0 x8_1).f5), .int .i64 ((rd_T35 l0 x8_1).f6), .int .i64 ((rd_T35 l0 x8_1).f7), .int .i64 ((rd_T35 l0 x8_1).f8), .int .i64 ((rd_T35 l0 x8_1).f9), .bool (true), .bool ((rd_T35 l0 x8_1).f11), .bool false, .int .i64 0, .slice none 0 0, .slice none 0 0]) ?_ 12 _ rfl; (with_reducible repeat (first | refine blk_drewN ?_ _ | refine blk_drew ?_ | refine blk_alloc ?_ _)); refine blk_put (cs := #[.int .i64 ((rd_T35 l0 x8_1).f0), .int .i64 ((rd_T35 l0 x8_1).f1), .int .i64 ((rd_T35 l0 x8_1).f2), .int .i64 ((rd_T35 l0 x8_1).f3), .int .i64 ((rd_T35 l0 x8_1).f4), .int .i64 ((rd_T35 l0 x8_1).f5), .int .i64 ((rd_T35 l0 x8_1).f6), .int .i64 ((rd_T35 l0 x8_1).f7), .int .i64 ((rd_T35 l0 x8_1).f8), .int .i64 ((rd_T35 l0 x8_1).f9), .bool (true), .bool false, .bool false, .int .i64 0, .slice none 0 0, .slice none 0 0]) ?_ 11 _ rfl; (with_reducible repeat (first | refine blk_drewN ?_ _ | refine blk_drew ?_ | refine blk_alloc ?_ _)); refine blk_put (cs := #[.int .i64 ((rd_T35 l0 x8_1).f0), .int .i64 ((rd_T35 l0 x8_1).f1), .int .i64 ((rd_T35 l0 x8_1).f2), .int .i64 ((rd_T35 l0 x8_1).f3), .int .i64 ((rd_T35 l0 x8_1).f4), .int .i64 ((rd_T35 l0 x8_1).f5), .int .i64 ((rd_T35 l0 x8_1).f6), .int .i64 ((rd_T35 l0 x8_1).f7), .int .i64 ((rd_T35 l0 x8_1).f8), .int .i64 ((rd_T35 l0 x8_1).f9), .bool false, .bool false, .bool false, .int .i64 0, .slice none 0 0, .slice none 0 0]) ?_ 10 _ rfl; (with_reducible repeat (first | refine blk_drewN ?_ _ | refine blk_drew ?_ | refine blk_alloc ?_ _)); refine blk_put (cs := #[.int .i64 ((rd_T35 l0 x8_1).f0), .int .i64 ((rd_T35 l0 x8_1).f1), .int .i64 ((rd_T35 l0 x8_1).f2), .int .i64 ((rd_T35 l0 x8_1).f3), .int .i64 ((rd_T35 l0 x8_1).f4), .int .i64 ((rd_T35 l0 x8_1).f5), .int .i64 ((rd_T35 l0 x8_1).f6), .int .i64 ((rd_T35 l0 x8_1).f7), .int .i64 ((rd_T35 l0 x8_1).f8), .int .i64 0, .bool false, .bool false, .bool false, .int .i64 0, .slice none 0 0, .slice none 0 0]) ?_ 9 _ rfl; (with_reducible repeat (first | refine blk_drewN ?_ _ | refine blk_drew ?_ | refine blk_alloc ?_ _)); refine blk_put (cs := #[.int .i64 ((rd_T35 l0 x8_1).f0), .int .i64 ((rd_T35 l0 x8_1).f1), .int .i64 ((rd_T35 l0 x8_1).f2), .int .i64 ((rd_T35 l0 x8_1).f3), .int .i64 ((rd_T35 l0 x8_1).f4), .int .i64 ((rd_T35 l0 x8_1).f5), .int .i64 ((rd_T35 l0 x8_1).f6), .int .i64 ((rd_T35 l0 x8_1).f7), .int .i64 0, .int .i64 0, .bool false, .bool false, .bool false, .int .i64 0, .slice none 0 0, .slice none 0 0]) ?_ 8 _ rfl; (with_reducible repeat (first | refine blk_drewN ?_ _ | refine blk_drew ?_ | refine blk_alloc ?_ _)); refine blk_put (cs := #[.int .i64 ((rd_T35 l0 x8_1).f0), .int .i64 ((rd_T35 l0 x8_1).f1), .int .i64 ((rd_T35 l0 x8_1).f2), .int .i64 ((rd_T35 l0 x8_1).f3), .int .i64 ((rd_T35 l0 x8_1).f4), .int .i64 ((rd_T35 l0 x8_1).f5), .int .i64 ((rd_T35 l0 x8_1).f6), .int .i64 0, .int .i64 0, .int .i64 0, .bool false, .bool false, .bool false, .int .i64 0, .slice none 0 0, .slice none 0 0]) ?_ 7 _ rfl; (with_reducible repeat (first | refine blk_drewN ?_ _ | refine blk_drew ?_ | refine blk_alloc ?_ _)); refine blk_put (cs := #[.int .i64 ((rd_T35 l0 x8_1).f0), .int .i64 ((rd_T35 l0 x8_1).f1), .int .i64 ((rd_T35 l0 x8_1).f2), .int .i64 ((rd_T35 l0 x8_1).f3), .int .i64 ((rd_T35 l0 x8_1).f4), .int .i64 ((rd_T35 l0 x8_1).f5), .int .i64 0, .int .i64 0, .int .i64 0, .int .i64 0, .bool false, .bool false, .bool false, .int .i64 0, .slice none 0 0, .slice none 0 0]) ?_ 6 _ rfl; (with_reducible repeat (first | refine blk_drewN ?_ _ | refine blk_drew ?_ | refine blk_alloc ?_ _)); refine blk_put (cs := #[.int .i64 ((rd_T35 l0 x8_1).f0), .int .i64 ((rd_T35 l0 x8_1).f1), .int .i64 ((rd_T35 l0 x8_1).f2), .int .i64 ((rd_T35 l0 x8_1).f3), .int .i64 ((rd_T35 l0 x8_1).f4), .int .i64 0, .int .i64 0, .int .i64 0, .int .i64 0, .int .i64 0, .bool false, .bool false, .bool false, .int .i64 0, .slice none 0 0, .slice none 0 0]) ?_ 5 _ rfl; (with_reducible repeat (first | refine blk_drewN ?_ _ | refine blk_drew ?_ | refine blk_alloc ?_ _)); refine blk_put (cs := #[.int .i64 ((rd_T35 l0 x8_1).f0), .int .i64 ((rd_T35 l0 x8_1).f1), .int .i64 ((rd_T35 l0 x8_1).f2), .int .i64 ((rd_T35 l0 x8_1).f3), .int .i64 0, .int .i64 0, .int .i64 0, .int .i64 0, .int .i64 0, .int .i64 0, .bool false, .bool false, .bool false, .int .i64 0, .slice none 0 0, .slice none 0 0]) ?_ 4 _ rfl; (with_reducible repeat (first | refine blk_drewN ?_ _ | refine blk_drew ?_ | refine blk_alloc ?_ _)); refine blk_put (cs := #[.int .i64 ((rd_T35 l0 x8_1).f0), .int .i64 ((rd_T35 l0 x8_1).f1), .int .i64 ((rd_T35 l0 x8_1).f2), .int .i64 0, .int .i64 0, .int .i64 0, .int .i64 0, .int .i64 0, .int .i64 0, .int .i64 0, .bool false, .bool false, .bool false, .int .i64 0, .slice none 0 0, .slice none 0 0]) ?_ 3 _ rfl; (with_reducible repeat (first | refine blk_drewN ?_ _ | refine blk_drew ?_ | refine blk_alloc ?_ _)); refine blk_put (cs := #[.int .i64 ((rd_T35 l0 x8_1).f0), .int .i64 ((rd_T35 l0 x8_1).f1), .int .i64 0, .int .i64 0, .int .i64 0, .int .i64 0, .int .i64 0, .int .i64 0, .int .i64 0, .int .i64 0, .bool false, .bool false, .bool false, .int .i64 0, .slice none 0 0, .slice none 0 0]) ?_ 2 _ rfl; (with_reducible repeat (first | refine blk_drewN ?_ _ | refine blk_drew ?_ | refine blk_alloc ?_ _)); refine blk_put (cs := #[.int .i64 ((rd_T35 l0 x8_1).f0), .int .i64 0, .int .i64 0, .int .i64 0, .int .i64 0, .int .i64 0, .int .i64 0, .int .i64 0, .int .i64 0, .int .i64 0, .bool false, .bool false, .bool false, .int .i64 0, .slice none 0 0, .slice none 0 0]) ?_ 1 _ rfl; (with_reducible repeat (first | refine blk_drewN ?_ _ | refine blk_drew ?_ | refine blk_alloc ?_ _)); refine blk_put (cs := #[.int .i64 0, .int .i64 0, .int .i64 0, .int .i64 0, .int .i64 0, .int .i64 0, .int .i64 0, .int .i64 0, .int .i64 0, .int .i64 0, .bool false, .bool false, .bool false, .int .i64 0, .slice none 0 0, .slice none 0 0]) ?_ 0 _ rfl; (with_reducible repeat (first | refine blk_drewN ?_ _ | refine blk_drew ?_ | refine blk_alloc ?_ _)); exact BK143.out⟩, ⟨by repeat (first | (with_reducible first | exact HB.out | apply below_alloc | apply pw_below_drewN | apply below_drew1 | refine below_set ?_ GE143.out) | exact HB.out)⟩⟩
                · replace c10 := Bool.eq_false_iff.mpr c10
                  subst c10
                  have H1 : (throttle_Oldest.j1 k1 l0 x3_1 x8_1 l0 (l0.length : Int) x8_1 true ((rd_T35 l0 x8_1).f0) ((rd_T35 l0 x8_1).f1) ((rd_T35 l0 x8_1).f2) ((rd_T35 l0 x8_1).f3) ((rd_T35 l0 x8_1).f4) ((rd_T35 l0 x8_1).f5) ((rd_T35 l0 x8_1).f6) ((rd_T35 l0 x8_1).f7) ((rd_T35 l0 x8_1).f8) ((rd_T35 l0 x8_1).f9) false ((rd_T35 l0 x8_1).f11) ((rd_T35 l0 x8_1).f12) ((rd_T35 l0 x8_1).f13) ((rd_T35 l0 x8_1).f14) ((rd_T35 l0 x8_1).f15)) = some r := by rw [if_neg (show ¬ (false = true) by decide)] at H; exact H
                  clear H
                  have H := H1
                  clear H1
                  have H' := Aside0.mk H
                  clear H
                  have hcz12_0 : w6.cell? ⟨gb143, 0, none⟩ = some (.int .i64 0) := (blk_cell BK143.out 0).trans rfl
                  have hcz12_1 : w6.cell? ⟨gb143, 1, none⟩ = some (.int .i64 0) := (blk_cell BK143.out 1).trans rfl
                  have hcz12_2 : w6.cell? ⟨gb143, 2, none⟩ = some (.int .i64 0) := (blk_cell BK143.out 2).trans rfl
                  have hcz12_3 : w6.cell? ⟨gb143, 3, none⟩ = some (.int .i64 0) := (blk_cell BK143.out 3).trans rfl
                  have hcz12_4 : w6.cell? ⟨gb143, 4, none⟩ = some (.int .i64 0) := (blk_cell BK143.out 4).trans rfl
                  have hcz12_5 : w6.cell? ⟨gb143, 5, none⟩ = some (.int .i64 0) := (blk_cell BK143.out 5).trans rfl
                  have hcz12_6 : w6.cell? ⟨gb143, 6, none⟩ = some (.int .i64 0) := (blk_cell BK143.out 6).trans rfl
                  have hcz12_7 : w6.cell? ⟨gb143, 7, none⟩ = some (.int .i64 0) := (blk_cell BK143.out 7).trans rfl
                  have hcz12_8 : w6.cell? ⟨gb143, 8, none⟩ = some (.int .i64 0) := (blk_cell BK143.out 8).trans rfl
                  have hcz12_9 : w6.cell? ⟨gb143, 9, none⟩ = some (.int .i64 0) := (blk_cell BK143.out 9).trans rfl
                  have hcz12_10 : w6.cell? ⟨gb143, 10, none⟩ = some (.bool false) := (blk_cell BK143.out 10).trans rfl
                  have hcz12_11 : w6.cell? ⟨gb143, 11, none⟩ = some (.bool false) := (blk_cell BK143.out 11).trans rfl
                  have hcz12_12 : w6.cell? ⟨gb143, 12, none⟩ = some (.bool false) := (blk_cell BK143.out 12).trans rfl
                  have hcz12_13 : w6.cell? ⟨gb143, 13, none⟩ = some (.int .i64 0) := (blk_cell BK143.out 13).trans rfl
                  have hcz12_14 : w6.cell? ⟨gb143, 14, none⟩ = some (.slice none 0 0) := (blk_cell BK143.out 14).trans rfl
                  have hcz12_15 : w6.cell? ⟨gb143, 15, none⟩ = some (.slice none 0 0) := (blk_cell BK143.out 15).trans rfl
                  have hfz12_0 := blk_frozen BK143.out 0
                  have hfz12_1 := blk_frozen BK143.out 1
                  have hfz12_2 := blk_frozen BK143.out 2
                  have hfz12_3 := blk_frozen BK143.out 3
                  have hfz12_4 := blk_frozen BK143.out 4
                  have hfz12_5 := blk_frozen BK143.out 5
                  have hfz12_6 := blk_frozen BK143.out 6
                  have hfz12_7 := blk_frozen BK143.out 7
                  have hfz12_8 := blk_frozen BK143.out 8
                  have hfz12_9 := blk_frozen BK143.out 9
                  have hfz12_10 := blk_frozen BK143.out 10
                  have hfz12_11 := blk_frozen BK143.out 11
                  have hfz12_12 := blk_frozen BK143.out 12
                  have hfz12_13 := blk_frozen BK143.out 13
                  have hfz12_14 := blk_frozen BK143.out 14
                  have hfz12_15 := blk_frozen BK143.out 15
                  (try rw [← Nbq9.out])
                  (try rw [← Nbq9.out] at BK143)
                  go_wp2
                  repeat (go_quiet (fail); try go_wp2)
                  go_meet
                  case rel => (try rw [← Nbq9.out]); exact ⟨_, (true), (by first | rfl | (simp; done) | (simp [*]; done)), H', ⟨by have := HK1.out; first | omega | exact Nat.le_refl _⟩, ⟨by (with_reducible repeat (first | refine blk_drewN ?_ _ | refine blk_drew ?_ | refine blk_alloc ?_ _)); refine blk_put (cs := #[.int .i64 ((rd_T35 l0 x8_1).f0), .int .i64 ((rd_T35 l0 x8_1).f1), .int .i64 ((rd_T35 l0 x8_1).f2), .int .i64 ((rd_T35 l0 x8_1).f3), .int .i64 ((rd_T35 l0 x8_1).f4), .int .i64 ((rd_T35 l0 x8_1).f5), .int .i64 ((rd_T35 l0 x8_1).f6), .int .i64 ((rd_T35 l0 x8_1).f7), .int .i64 ((rd_T35 l0 x8_1).f8), .int .i64 ((rd_T35 l0 x8_1).f9), .bool (false), .bool ((rd_T35 l0 x8_1).f11), .bool ((rd_T35 l0 x8_1).f12), .int .i64 ((rd_T35 l0 x8_1).f13), .slice A142_14 ((rd_T35 l0 x8_1).f14).length c142_14, .slice none 0 0]) ?_ 15 _ rfl; (with_reducible repeat (first | refine blk_drewN ?_ _ | refine blk_drew ?_ | refine blk_alloc ?_ _)); refine blk_put (cs := #[.int .i64 ((rd_T35 l0 x8_1).f0), .int .i64 ((rd_T35 l0 x8_1).f1), .int .i64 ((rd_T35 l0 x8_1).f2), .int .i64 ((rd_T35 l0 x8_1).f3), .int .i64 ((rd_T35 l0 x8_1).f4), .int .i64 ((rd_T35 l0 x8_1).f5), .int .i64 ((rd_T35 l0 x8_1).f6), .int .i64 ((rd_T35 l0 x8_1).f7), .int .i64 ((rd_T35 l0 x8_1).f8), .int .i64 ((rd_T35 l0 x8_1).f9), .bool (false), .bool ((rd_T35 l0 x8_1).f11), .bool ((rd_T35 l0 x8_1).f12), .int .i64 ((rd_T35 l0 x8_1).f13), .slice none 0 0, .slice none 0 0]) ?_ 14 _ rfl; (with_reducible repeat (first | refine blk_drewN ?_ _ | refine blk_drew ?_ | refine blk_alloc ?_ _)); refine blk_put (cs := #[.int .i64 ((rd_T35 l0 x8_1).f0), .int .i64 ((rd_T35 l0 x8_1).f1), .int .i64 ((rd_T35 l0 x8_1).f2), .int .i64 ((rd_T35 l0 x8_1).f3), .int .i64 ((rd_T35 l0 x8_1).f4), .int .i64 ((rd_T35 l0 x8_1).f5), .int .i64 ((rd_T35 l0 x8_1).f6), .int .i64 ((rd_T35 l0 x8_1).f7), .int .i64 ((rd_T35 l0 x8_1).f8), .int .i64 ((rd_T35 l0 x8_1).f9), .bool (false), .bool ((rd_T35 l0 x8_1).f11), .bool ((rd_T35 l0 x8_1).f12), .int .i64 0, .slice none 0 0, .slice none 0 0]) ?_ 13 _ rfl; (with_reducible repeat (first | refine blk_drewN ?_ _ | refine blk_drew ?_ | refine blk_alloc ?_ _)); refine blk_put (cs := #[.int .i64 ((rd_T35 l0 x8_1).f0), .int .i64 ((rd_T35 l0 x8_1).f1), .int .i64 ((rd_T35 l0 x8_1).f2), .int .i64 ((rd_T35 l0 x8_1).f3), .int .i64 ((rd_T35 l0 x8_1).f4), .int .i64 ((rd_T35 l0 x8_1).f5), .int .i64 ((rd_T35 l0 x8_1).f6), .int .i64 ((rd_T35 l0 x8_1).f7), .int .i64 ((rd_T35 l0 x8_1).f8), .int .i64 ((rd_T35 l0 x8_1).f9), .bool (false), .bool ((rd_T35 l0 x8_1).f11), .bool false, .int .i64 0, .slice none 0 0, .slice none 0 0]) ?_ 12 _ rfl; (with_reducible repeat (first | refine blk_drewN ?_ _ | refine blk_drew ?_ | refine blk_alloc ?_ _)); refine blk_put (cs := #[.int .i64 ((rd_T35 l0 x8_1).f0), .int .i64 ((rd_T35 l0 x8_1).f1), .int .i64 ((rd_T35 l0 x8_1).f2), .int .i64 ((rd_T35 l0 x8_1).f3), .int .i64 ((rd_T35 l0 x8_1).f4), .int .i64 ((rd_T35 l0 x8_1).f5), .int .i64 ((rd_T35 l0 x8_1).f6), .int .i64 ((rd_T35 l0 x8_1).f7), .int .i64 ((rd_T35 l0 x8_1).f8), .int .i64 ((rd_T35 l0 x8_1).f9), .bool (false), .bool false, .bool false, .int .i64 0, .slice none 0 0, .slice none 0 0]) ?_ 11 _ rfl; (with_reducible repeat (first | refine blk_drewN ?_ _ | refine blk_drew ?_ | refine blk_alloc ?_ _)); refine blk_put (cs := #[.int .i64 ((rd_T35 l0 x8_1).f0), .int .i64 ((rd_T35 l0 x8_1).f1), .int .i64 ((rd_T35 l0 x8_1).f2), .int .i64 ((rd_T35 l0 x8_1).f3), .int .i64 ((rd_T35 l0 x8_1).f4), .int .i64 ((rd_T35 l0 x8_1).f5), .int .i64 ((rd_T35 l0 x8_1).f6), .int .i64 ((rd_T35 l0 x8_1).f7), .int .i64 ((rd_T35 l0 x8_1).f8), .int .i64 ((rd_T35 l0 x8_1).f9), .bool false, .bool false, .bool false, .int .i64 0, .slice none 0 0, .slice none 0 0]) ?_ 10 _ rfl; (with_reducible repeat (first | refine blk_drewN ?_ _ | refine blk_drew ?_ | refine blk_alloc ?_ _)); refine blk_put (cs := #[.int .i64 ((rd_T35 l0 x8_1).f0), .int .i64 ((rd_T35 l0 x8_1).f1), .int .i64 ((rd_T35 l0 x8_1).f2), .int .i64 ((rd_T35 l0 x8_1).f3), .int .i64 ((rd_T35 l0 x8_1).f4), .int .i64 ((rd_T35 l0 x8_1).f5), .int .i64 ((rd_T35 l0 x8_1).f6), .int .i64 ((rd_T35 l0 x8_1).f7), .int .i64 ((rd_T35 l0 x8_1).f8), .int .i64 0, .bool false, .bool false, .bool false, .int .i64 0, .slice none 0 0, .slice none 0 0]) ?_ 9 _ rfl; (with_reducible repeat (first | refine blk_drewN ?_ _ | refine blk_drew ?_ | refine blk_alloc ?_ _)); refine blk_put (cs := #[.int .i64 ((rd_T35 l0 x8_1).f0), .int .i64 ((rd_T35 l0 x8_1).f1), .int .i64 ((rd_T35 l0 x8_1).f2), .int .i64 ((rd_T35 l0 x8_1).f3), .int .i64 ((rd_T35 l0 x8_1).f4), .int .i64 ((rd_T35 l0 x8_1).f5), .int .i64 ((rd_T35 l0 x8_1).f6), .int .i64 ((rd_T35 l0 x8_1).f7), .int .i64 0, .int .i64 0, .bool false, .bool false, .bool false, .int .i64 0, .slice none 0 0, .slice none 0 0]) ?_ 8 _ rfl; (with_reducible repeat (first | refine blk_drewN ?_ _ | refine blk_drew ?_ | refine blk_alloc ?_ _)); refine blk_put (cs := #[.int .i64 ((rd_T35 l0 x8_1).f0), .int .i64 ((rd_T35 l0 x8_1).f1), .int .i64 ((rd_T35 l0 x8_1).f2), .int .i64 ((rd_T35 l0 x8_1).f3), .int .i64 ((rd_T35 l0 x8_1).f4), .int .i64 ((rd_T35 l0 x8_1).f5), .int .i64 ((rd_T35 l0 x8_1).f6), .int .i64 0, .int .i64 0, .int .i64 0, .bool false, .bool false, .bool false, .int .i64 0, .slice none 0 0, .slice none 0 0]) ?_ 7 _ rfl; (with_reducible repeat (first | refine blk_drewN ?_ _ | refine blk_drew ?_ | refine blk_alloc ?_ _)); refine blk_put (cs := #[.int .i64 ((rd_T35 l0 x8_1).f0), .int .i64 ((rd_T35 l0 x8_1).f1), .int .i64 ((rd_T35 l0 x8_1).f2), .int .i64 ((rd_T35 l0 x8_1).f3), .int .i64 ((rd_T35 l0 x8_1).f4), .int .i64 ((rd_T35 l0 x8_1).f5), .int .i64 0, .int .i64 0, .int .i64 0, .int .i64 0, .bool false, .bool false, .bool false, .int .i64 0, .slice none 0 0, .slice none 0 0]) ?_ 6 _ rfl; (with_reducible repeat (first | refine blk_drewN ?_ _ | refine blk_drew ?_ | refine blk_alloc ?_ _)); refine blk_put (cs := #[.int .i64 ((rd_T35 l0 x8_1).f0), .int .i64 ((rd_T35 l0 x8_1).f1), .int .i64 ((rd_T35 l0 x8_1).f2), .int .i64 ((rd_T35 l0 x8_1).f3), .int .i64 ((rd_T35 l0 x8_1).f4), .int .i64 0, .int .i64 0, .int .i64 0, .int .i64 0, .int .i64 0, .bool false, .bool false, .bool false, .int .i64 0, .slice none 0 0, .slice none 0 0]) ?_ 5 _ rfl; (with_reducible repeat (first | refine blk_drewN ?_ _ | refine blk_drew ?_ | refine blk_alloc ?_ _)); refine blk_put (cs := #[.int .i64 ((rd_T35 l0 x8_1).f0), .int .i64 ((rd_T35 l0 x8_1).f1), .int .i64 ((rd_T35 l0 x8_1).f2), .int .i64 ((rd_T35 l0 x8_1).f3), .int .i64 0, .int .i64 0, .int .i64 0, .int .i64 0, .int .i64 0, .int .i64 0, .bool false, .bool false, .bool false, .int .i64 0, .slice none 0 0, .slice none 0 0]) ?_ 4 _ rfl; (with_reducible repeat (first | refine blk_drewN ?_ _ | refine blk_drew ?_ | refine blk_alloc ?_ _)); refine blk_put (cs := #[.int .i64 ((rd_T35 l0 x8_1).f0), .int .i64 ((rd_T35 l0 x8_1).f1), .int .i64 ((rd_T35 l0 x8_1).f2), .int .i64 0, .int .i64 0, .int .i64 0, .int .i64 0, .int .i64 0, .int .i64 0, .int .i64 0, .bool false, .bool false, .bool false, .int .i64 0, .slice none 0 0, .slice none 0 0]) ?_ 3 _ rfl; (with_reducible repeat (first | refine blk_drewN ?_ _ | refine blk_drew ?_ | refine blk_alloc ?_ _)); refine blk_put (cs := #[.int .i64 ((rd_T35 l0 x8_1).f0), .int .i64 ((rd_T35 l0 x8_1).f1), .int .i64 0, .int .i64 0, .int .i64 0, .int .i64 0, .int .i64 0, .int .i64 0, .int .i64 0, .int .i64 0, .bool false, .bool false, .bool false, .int .i64 0, .slice none 0 0, .slice none 0 0]) ?_ 2 _ rfl; (with_reducible repeat (first | refine blk_drewN ?_ _ | refine blk_drew ?_ | refine blk_alloc ?_ _)); refine blk_put (cs := #[.int .i64 ((rd_T35 l0 x8_1).f0), .int .i64 0, .int .i64 0, .int .i64 0, .int .i64 0, .int .i64 0, .int .i64 0, .int .i64 0, .int .i64 0, .int .i64 0, .bool false, .bool false, .bool false, .int .i64 0, .slice none 0 0, .slice none 0 0]) ?_ 1 _ rfl; (with_reducible repeat (first | refine blk_drewN ?_ _ | refine blk_drew ?_ | refine blk_alloc ?_ _)); refine blk_put (cs := #[.int .i64 0, .int .i64 0, .int .i64 0, .int .i64 0, .int .i64 0, .int .i64 0, .int .i64 0, .int .i64 0, .int .i64 0, .int .i64 0, .bool false, .bool false, .bool false, .int .i64 0, .slice none 0 0, .slice none 0 0]) ?_ 0 _ rfl; (with_reducible repeat (first | refine blk_drewN ?_ _ | refine blk_drew ?_ | refine blk_alloc ?_ _)); exact BK143.out⟩, ⟨by repeat (first | (with_reducible first | exact HB.out | apply below_alloc | apply pw_below_drewN | apply below_drew1 | refine below_set ?_ GE143.out) | exact HB.out)⟩⟩
              · rw [if_neg c8] at H
                have c8b0 : (((rd_T35 l0 x8_1).f0) == 4) = false := beq_eq_false_iff_ne.mpr c8
                have c8b1 : (((rd_T35 l0 x8_1).f0) != 4) = true := bne_iff_ne.mpr c8
                (first | rw [c8b0] | (simp only [i64_w, i32_w]; rw [c8b0]) | skip)
                have H' := Aside0.mk H
                clear H
                have hcz13_0 : w6.cell? ⟨gb143, 0, none⟩ = some (.int .i64 0) := (blk_cell BK143.out 0).trans rfl
                have hcz13_1 : w6.cell? ⟨gb143, 1, none⟩ = some (.int .i64 0) := (blk_cell BK143.out 1).trans rfl
                have hcz13_2 : w6.cell? ⟨gb143, 2, none⟩ = some (.int .i64 0) := (blk_cell BK143.out 2).trans rfl
                have hcz13_3 : w6.cell? ⟨gb143, 3, none⟩ = some (.int .i64 0) := (blk_cell BK143.out 3).trans rfl
                have hcz13_4 : w6.cell? ⟨gb143, 4, none⟩ = some (.int .i64 0) := (blk_cell BK143.out 4).trans rfl
                have hcz13_5 : w6.cell? ⟨gb143, 5, none⟩ = some (.int .i64 0) := (blk_cell BK143.out 5).trans rfl
                have hcz13_6 : w6.cell? ⟨gb143, 6, none⟩ = some (.int .i64 0) := (blk_cell BK143.out 6).trans rfl
                have hcz13_7 : w6.cell? ⟨gb143, 7, none⟩ = some (.int .i64 0) := (blk_cell BK143.out 7).trans rfl
                have hcz13_8 : w6.cell? ⟨gb143, 8, none⟩ = some (.int .i64 0) := (blk_cell BK143.out 8).trans rfl
                have hcz13_9 : w6.cell? ⟨gb143, 9, none⟩ = some (.int .i64 0) := (blk_cell BK143.out 9).trans rfl
                have hcz13_10 : w6.cell? ⟨gb143, 10, none⟩ = some (.bool false) := (blk_cell BK143.out 10).trans rfl
                have hcz13_11 : w6.cell? ⟨gb143, 11, none⟩ = some (.bool false) := (blk_cell BK143.out 11).trans rfl
                have hcz13_12 : w6.cell? ⟨gb143, 12, none⟩ = some (.bool false) := (blk_cell BK143.out 12).trans rfl
                have hcz13_13 : w6.cell? ⟨gb143, 13, none⟩ = some (.int .i64 0) := (blk_cell BK143.out 13).trans rfl
                have hcz13_14 : w6.cell? ⟨gb143, 14, none⟩ = some (.slice none 0 0) := (blk_cell BK143.out 14).trans rfl
                have hcz13_15 : w6.cell? ⟨gb143, 15, none⟩ = some (.slice none 0 0) := (blk_cell BK143.out 15).trans rfl
                have hfz13_0 := blk_frozen BK143.out 0
                have hfz13_1 := blk_frozen BK143.out 1
                have hfz13_2 := blk_frozen BK143.out 2
                have hfz13_3 := blk_frozen BK143.out 3
                have hfz13_4 := blk_frozen BK143.out 4
                have hfz13_5 := blk_frozen BK143.out 5
                have hfz13_6 := blk_frozen BK143.out 6
                have hfz13_7 := blk_frozen BK143.out 7
                have hfz13_8 := blk_frozen BK143.out 8
                have hfz13_9 := blk_frozen BK143.out 9
                have hfz13_10 := blk_frozen BK143.out 10
                have hfz13_11 := blk_frozen BK143.out 11
                have hfz13_12 := blk_frozen BK143.out 12
                have hfz13_13 := blk_frozen BK143.out 13
                have hfz13_14 := blk_frozen BK143.out 14
                have hfz13_15 := blk_frozen BK143.out 15
                go_wp2
                repeat (go_quiet (fail); try go_wp2)
                go_meet
                case rel => exact ⟨_, (true), (by first | rfl | (simp; done) | (simp [*]; done)), H', ⟨by have := HK1.out; first | omega | exact Nat.le_refl _⟩, ⟨by (with_reducible repeat (first | refine blk_drewN ?_ _ | refine blk_drew ?_ | refine blk_alloc ?_ _)); refine blk_put (cs := #[.int .i64 ((rd_T35 l0 x8_1).f0), .int .i64 ((rd_T35 l0 x8_1).f1), .int .i64 ((rd_T35 l0 x8_1).f2), .int .i64 ((rd_T35 l0 x8_1).f3), .int .i64 ((rd_T35 l0 x8_1).f4), .int .i64 ((rd_T35 l0 x8_1).f5), .int .i64 ((rd_T35 l0 x8_1).f6), .int .i64 ((rd_T35 l0 x8_1).f7), .int .i64 ((rd_T35 l0 x8_1).f8), .int .i64 ((rd_T35 l0 x8_1).f9), .bool ((rd_T35 l0 x8_1).f10), .bool ((rd_T35 l0 x8_1).f11), .bool ((rd_T35 l0 x8_1).f12), .int .i64 ((rd_T35 l0 x8_1).f13), .slice A142_14 ((rd_T35 l0 x8_1).f14).length c142_14, .slice none 0 0]) ?_ 15 _ rfl; (with_reducible repeat (first | refine blk_drewN ?_ _ | refine blk_drew ?_ | refine blk_alloc ?_ _)); refine blk_put (cs := #[.int .i64 ((rd_T35 l0 x8_1).f0), .int .i64 ((rd_T35 l0 x8_1).f1), .int .i64 ((rd_T35 l0 x8_1).f2), .int .i64 ((rd_T35 l0 x8_1).f3), .int .i64 ((rd_T35 l0 x8_1).f4), .int .i64 ((rd_T35 l0 x8_1).f5), .int .i64 ((rd_T35 l0 x8_1).f6), .int .i64 ((rd_T35 l0 x8_1).f7), .int .i64 ((rd_T35 l0 x8_1).f8), .int .i64 ((rd_T35 l0 x8_1).f9), .bool ((rd_T35 l0 x8_1).f10), .bool ((rd_T35 l0 x8_1).f11), .bool ((rd_T35 l0 x8_1).f12), .int .i64 ((rd_T35 l0 x8_1).f13), .slice none 0 0, .slice none 0 0]) ?_ 14 _ rfl; (with_reducible repeat (first | refine blk_drewN ?_ _ | refine blk_drew ?_ | refine blk_alloc ?_ _)); refine blk_put (cs := #[.int .i64 ((rd_T35 l0 x8_1).f0), .int .i64 ((rd_T35 l0 x8_1).f1), .int .i64 ((rd_T35 l0 x8_1).f2), .int .i64 ((rd_T35 l0 x8_1).f3), .int .i64 ((rd_T35 l0 x8_1).f4), .int .i64 ((rd_T35 l0 x8_1).f5), .int .i64 ((rd_T35 l0 x8_1).f6), .int .i64 ((rd_T35 l0 x8_1).f7), .int .i64 ((rd_T35 l0 x8_1).f8), .int .i64 ((rd_T35 l0 x8_1).f9), .bool ((rd_T35 l0 x8_1).f10), .bool ((rd_T35 l0 x8_1).f11), .bool ((rd_T35 l0 x8_1).f12), .int .i64 0, .slice none 0 0, .slice none 0 0]) ?_ 13 _ rfl; (with_reducible repeat (first | refine blk_drewN ?_ _ | refine blk_drew ?_ | refine blk_alloc ?_ _)); refine blk_put (cs := #[.int .i64 ((rd_T35 l0 x8_1).f0), .int .i64 ((rd_T35 l0 x8_1).f1), .int .i64 ((rd_T35 l0 x8_1).f2), .int .i64 ((rd_T35 l0 x8_1).f3), .int .i64 ((rd_T35 l0 x8_1).f4), .int .i64 ((rd_T35 l0 x8_1).f5), .int .i64 ((rd_T35 l0 x8_1).f6), .int .i64 ((rd_T35 l0 x8_1).f7), .int .i64 ((rd_T35 l0 x8_1).f8), .int .i64 ((rd_T35 l0 x8_1).f9), .bool ((rd_T35 l0 x8_1).f10), .bool ((rd_T35 l0 x8_1).f11), .bool false, .int .i64 0, .slice none 0 0, .slice none 0 0]) ?_ 12 _ rfl; (with_reducible repeat (first | refine blk_drewN ?_ _ | refine blk_drew ?_ | refine blk_alloc ?_ _)); refine blk_put (cs := #[.int .i64 ((rd_T35 l0 x8_1).f0), .int .i64 ((rd_T35 l0 x8_1).f1), .int .i64 ((rd_T35 l0 x8_1).f2), .int .i64 ((rd_T35 l0 x8_1).f3), .int .i64 ((rd_T35 l0 x8_1).f4), .int .i64 ((rd_T35 l0 x8_1).f5), .int .i64 ((rd_T35 l0 x8_1).f6), .int .i64 ((rd_T35 l0 x8_1).f7), .int .i64 ((rd_T35 l0 x8_1).f8), .int .i64 ((rd_T35 l0 x8_1).f9), .bool ((rd_T35 l0 x8_1).f10), .bool false, .bool false, .int .i64 0, .slice none 0 0, .slice none 0 0]) ?_ 11 _ rfl; (with_reducible repeat (first | refine blk_drewN ?_ _ | refine blk_drew ?_ | refine blk_alloc ?_ _)); refine blk_put (cs := #[.int .i64 ((rd_T35 l0 x8_1).f0), .int .i64 ((rd_T35 l0 x8_1).f1), .int .i64 ((rd_T35 l0 x8_1).f2), .int .i64 ((rd_T35 l0 x8_1).f3), .int .i64 ((rd_T35 l0 x8_1).f4), .int .i64 ((rd_T35 l0 x8_1).f5), .int .i64 ((rd_T35 l0 x8_1).f6), .int .i64 ((rd_T35 l0 x8_1).f7), .int .i64 ((rd_T35 l0 x8_1).f8), .int .i64 ((rd_T35 l0 x8_1).f9), .bool false, .bool false, .bool false, .int .i64 0, .slice none 0 0, .slice none 0 0]) ?_ 10 _ rfl; (with_reducible repeat (first | refine blk_drewN ?_ _ | refine blk_drew ?_ | refine blk_alloc ?_ _)); refine blk_put (cs := #[.int .i64 ((rd_T35 l0 x8_1).f0), .int .i64 ((rd_T35 l0 x8_1).f1), .int .i64 ((rd_T35 l0 x8_1).f2), .int .i64 ((rd_T35 l0 x8_1).f3), .int .i64 ((rd_T35 l0 x8_1).f4), .int .i64 ((rd_T35 l0 x8_1).f5), .int .i64 ((rd_T35 l0 x8_1).f6), .int .i64 ((rd_T35 l0 x8_1).f7), .int .i64 ((rd_T35 l0 x8_1).f8), .int .i64 0, .bool false, .bool false, .bool false, .int .i64 0, .slice none 0 0, .slice none 0 0]) ?_ 9 _ rfl; (with_reducible repeat (first | refine blk_drewN ?_ _ | refine blk_drew ?_ | refine blk_alloc ?_ _)); refine blk_put (cs := #[.int .i64 ((rd_T35 l0 x8_1).f0), .int .i64 ((rd_T35 l0 x8_1).f1), .int .i64 ((rd_T35 l0 x8_1).f2), .int .i64 ((rd_T35 l0 x8_1).f3), .int .i64 ((rd_T35 l0 x8_1).f4), .int .i64 ((rd_T35 l0 x8_1).f5), .int .i64 ((rd_T35 l0 x8_1).f6), .int .i64 ((rd_T35 l0 x8_1).f7), .int .i64 0, .int .i64 0, .bool false, .bool false, .bool false, .int .i64 0, .slice none 0 0, .slice none 0 0]) ?_ 8 _ rfl; (with_reducible repeat (first | refine blk_drewN ?_ _ | refine blk_drew ?_ | refine blk_alloc ?_ _)); refine blk_put (cs := #[.int .i64 ((rd_T35 l0 x8_1).f0), .int .i64 ((rd_T35 l0 x8_1).f1), .int .i64 ((rd_T35 l0 x8_1).f2), .int .i64 ((rd_T35 l0 x8_1).f3), .int .i64 ((rd_T35 l0 x8_1).f4), .int .i64 ((rd_T35 l0 x8_1).f5), .int .i64 ((rd_T35 l0 x8_1).f6), .int .i64 0, .int .i64 0, .int .i64 0, .bool false, .bool false, .bool false, .int .i64 0, .slice none 0 0, .slice none 0 0]) ?_ 7 _ rfl; (with_reducible repeat (first | refine blk_drewN ?_ _ | refine blk_drew ?_ | refine blk_alloc ?_ _)); refine blk_put (cs := #[.int .i64 ((rd_T35 l0 x8_1).f0), .int .i64 ((rd_T35 l0 x8_1).f1), .int .i64 ((rd_T35 l0 x8_1).f2), .int .i64 ((rd_T35 l0 x8_1).f3), .int .i64 ((rd_T35 l0 x8_1).f4), .int .i64 ((rd_T35 l0 x8_1).f5), .int .i64 0, .int .i64 0, .int .i64 0, .int .i64 0, .bool false, .bool false, .bool false, .int .i64 0, .slice none 0 0, .slice none 0 0]) ?_ 6 _ rfl; (with_reducible repeat (first | refine blk_drewN ?_ _ | refine blk_drew ?_ | refine blk_alloc ?_ _)); refine blk_put (cs := #[.int .i64 ((rd_T35 l0 x8_1).f0), .int .i64 ((rd_T35 l0 x8_1).f1), .int .i64 ((rd_T35 l0 x8_1).f2), .int .i64 ((rd_T35 l0 x8_1).f3), .int .i64 ((rd_T35 l0 x8_1).f4), .int .i64 0, .int .i64 0, .int .i64 0, .int .i64 0, .int .i64 0, .bool false, .bool false, .bool false, .int .i64 0, .slice none 0 0, .slice none 0 0]) ?_ 5 _ rfl; (with_reducible repeat (first | refine blk_drewN ?_ _ | refine blk_drew ?_ | refine blk_alloc ?_ _)); refine blk_put (cs := #[.int .i64 ((rd_T35 l0 x8_1).f0), .int .i64 ((rd_T35 l0 x8_1).f1), .int .i64 ((rd_T35 l0 x8_1).f2), .int .i64 ((rd_T35 l0 x8_1).f3), .int .i64 0, .int .i64 0, .int .i64 0, .int .i64 0, .int .i64 0, .int .i64 0, .bool false, .bool false, .bool false, .int .i64 0, .slice none 0 0, .slice none 0 0]) ?_ 4 _ rfl; (with_reducible repeat (first | refine blk_drewN ?_ _ | refine blk_drew ?_ | refine blk_alloc ?_ _)); refine blk_put (cs := #[.int .i64 ((rd_T35 l0 x8_1).f0), .int .i64 ((rd_T35 l0 x8_1).f1), .int .i64 ((rd_T35 l0 x8_1).f2), .int .i64 0, .int .i64 0, .int .i64 0, .int .i64 0, .int .i64 0, .int .i64 0, .int .i64 0, .bool false, .bool false, .bool false, .int .i64 0, .slice none 0 0, .slice none 0 0]) ?_ 3 _ rfl; (with_reducible repeat (first | refine blk_drewN ?_ _ | refine blk_drew ?_ | refine blk_alloc ?_ _)); refine blk_put (cs := #[.int .i64 ((rd_T35 l0 x8_1).f0), .int .i64 ((rd_T35 l0 x8_1).f1), .int .i64 0, .int .i64 0, .int .i64 0, .int .i64 0, .int .i64 0, .int .i64 0, .int .i64 0, .int .i64 0, .bool false, .bool false, .bool false, .int .i64 0, .slice none 0 0, .slice none 0 0]) ?_ 2 _ rfl; (with_reducible repeat (first | refine blk_drewN ?_ _ | refine blk_drew ?_ | refine blk_alloc ?_ _)); refine blk_put (cs := #[.int .i64 ((rd_T35 l0 x8_1).f0), .int .i64 0, .int .i64 0, .int .i64 0, .int .i64 0, .int .i64 0, .int .i64 0, .int .i64 0, .int .i64 0, .int .i64 0, .bool false, .bool false, .bool false, .int .i64 0, .slice none 0 0, .slice none 0 0]) ?_ 1 _ rfl; (with_reducible repeat (first | refine blk_drewN ?_ _ | refine blk_drew ?_ | refine blk_alloc ?_ _)); refine blk_put (cs := #[.int .i64 0, .int .i64 0, .int .i64 0, .int .i64 0, .int .i64 0, .int .i64 0, .int .i64 0, .int .i64 0, .int .i64 0, .int .i64 0, .bool false, .bool false, .bool false, .int .i64 0, .slice none 0 0, .slice none 0 0]) ?_ 0 _ rfl; (with_reducible repeat (first | refine blk_drewN ?_ _ | refine blk_drew ?_ | refine blk_alloc ?_ _)); exact BK143.out⟩, ⟨by repeat (first | (with_reducible first | exact HB.out | apply below_alloc | apply pw_below_drewN | apply below_drew1 | refine below_set ?_ GE143.out) | exact HB.out)⟩⟩
            case rest =>
              clear HC5
              try clear c1
              try clear p1
              try clear q1
              try clear hx1
              try clear c2
              try clear c2b0
              try clear p2
              try clear c3
              try clear c3b0
              try clear c4
              try clear c4b0
              try clear c8
              try clear c8b0
              try clear c8b1
              try clear q9
              try clear c10
              try clear hcz11_0
              try clear hcz11_1
              try clear hcz11_10
              try clear hcz11_11
              try clear hcz11_12
              try clear hcz11_13
              try clear hcz11_14
              try clear hcz11_15
              try clear hcz11_2
              try clear hcz11_3
              try clear hcz11_4
              try clear hcz11_5
              try clear hcz11_6
              try clear hcz11_7
              try clear hcz11_8
              try clear hcz11_9
              try clear hcz12_0
              try clear hcz12_1
              try clear hcz12_10
              try clear hcz12_11
              try clear hcz12_12
              try clear hcz12_13
              try clear hcz12_14
              try clear hcz12_15
              try clear hcz12_2
              try clear hcz12_3
              try clear hcz12_4
              try clear hcz12_5
              try clear hcz12_6
              try clear hcz12_7
              try clear hcz12_8
              try clear hcz12_9
              try clear hcz13_0
              try clear hcz13_1
              try clear hcz13_10
              try clear hcz13_11
              try clear hcz13_12
              try clear hcz13_13
              try clear hcz13_14
              try clear hcz13_15
              try clear hcz13_2
              try clear hcz13_3
              try clear hcz13_4
              try clear hcz13_5
              try clear hcz13_6
              try clear hcz13_7
              try clear hcz13_8
              try clear hcz13_9
              try clear hcz7_0
              try clear hcz7_1
              try clear hcz7_10
              try clear hcz7_11
              try clear hcz7_12
              try clear hcz7_13
              try clear hcz7_14
              try clear hcz7_15
              try clear hcz7_2
              try clear hcz7_3
              try clear hcz7_4
              try clear hcz7_5
              try clear hcz7_6
              try clear hcz7_7
              try clear hcz7_8
              try clear hcz7_9
              try clear hfz11_0
              try clear hfz11_1
              try clear hfz11_10
              try clear hfz11_11
              try clear hfz11_12
              try clear hfz11_13
              try clear hfz11_14
              try clear hfz11_15
              try clear hfz11_2
              try clear hfz11_3
              try clear hfz11_4
              try clear hfz11_5
              try clear hfz11_6
              try clear hfz11_7
              try clear hfz11_8
              try clear hfz11_9
              try clear hfz12_0
              try clear hfz12_1
              try clear hfz12_10
              try clear hfz12_11
              try clear hfz12_12
              try clear hfz12_13
              try clear hfz12_14
              try clear hfz12_15
              try clear hfz12_2
              try clear hfz12_3
              try clear hfz12_4
              try clear hfz12_5
              try clear hfz12_6
              try clear hfz12_7
              try clear hfz12_8
              try clear hfz12_9
              try clear hfz13_0
              try clear hfz13_1
              try clear hfz13_10
              try clear hfz13_11
              try clear hfz13_12
              try clear hfz13_13
              try clear hfz13_14
              try clear hfz13_15
              try clear hfz13_2
              try clear hfz13_3
              try clear hfz13_4
              try clear hfz13_5
              try clear hfz13_6
              try clear hfz13_7
              try clear hfz13_8
              try clear hfz13_9
              try clear hfz7_0
              try clear hfz7_1
              try clear hfz7_10
              try clear hfz7_11
              try clear hfz7_12
              try clear hfz7_13
              try clear hfz7_14
              try clear hfz7_15
              try clear hfz7_2
              try clear hfz7_3
              try clear hfz7_4
              try clear hfz7_5
              try clear hfz7_6
              try clear hfz7_7
              try clear hfz7_8
              try clear hfz7_9
              try clear hx142_0
              try clear hx142_1
              try clear hx142_10
              try clear hx142_11
              try clear hx142_12
              try clear hx142_13
              try clear hx142_14
              try clear hx142_15
              try clear hx142_2
              try clear hx142_3
              try clear hx142_4
              try clear hx142_5
              try clear hx142_6
              try clear hx142_7
              try clear hx142_8
              try clear hx142_9
              try clear p142
              try clear q142
              obtain ⟨kq, x25_4, rfl, HA, HJ4, BK143, HB⟩ := hcut
              cases kq with
              | zero => exact absurd HA.out (by simp [throttle_Oldest.j1])
              | succ kj4 =>
                have H := HA.out
                clear HA
                simp only [throttle_Oldest.j1] at H
                by_cases c14 : x25_4 = true
                · subst c14
                  have H1 : (throttle_Oldest.l0 kj4 l0 x3_1 l0 (l0.length : Int) (wrap64 (x8_1 + 1))) = some r := by rw [if_pos rfl] at H; exact H
                  clear H
                  have H := H1
                  clear H1
                  have H' := Aside0.mk H
                  clear H
                  go_wp2
                  repeat (go_quiet (fail); try go_wp2)
                  go_roundg kj4
                  case measure => have := HK1.out; have := HJ4.out; omega
                  case rel => exact ⟨(x3_1), (wrap64 (x8_1 + 1)), (by first | rfl | (simp; done) | (simp [*]; done)), (by first | rfl | (simp; done) | (simp [*]; done)), H', ⟨by have := HK1.out; have := HJ4.out; omega⟩, ⟨by repeat (first | (with_reducible first | exact HB.out | apply below_alloc | apply pw_below_drewN | apply below_drew1 | refine below_set ?_ GE143.out) | exact HB.out)⟩⟩
                · replace c14 := Bool.eq_false_iff.mpr c14
                  subst c14
                  have H1 : (if x3_1 < 0 then (throttle_Oldest.l0 kj4 l0 x8_1 l0 (l0.length : Int) (wrap64 (x8_1 + 1))) else (if 0 ≤ x3_1 then (if x3_1 < (l0.length : Int) then (if ((rd_T35 l0 x8_1).f9) < ((rd_T35 l0 x3_1).f9) then (throttle_Oldest.l0 kj4 l0 x8_1 l0 (l0.length : Int) (wrap64 (x8_1 + 1))) else (throttle_Oldest.l0 kj4 l0 x3_1 l0 (l0.length : Int) (wrap64 (x8_1 + 1)))) else (none)) else (none))) = some r := by rw [if_neg (show ¬ (false = true) by decide)] at H; exact H
                  clear H
                  have H := H1
                  clear H1
                  by_cases c15 : x3_1 < 0
                  · rw [if_pos c15] at H
                    have c15b0 : decide (x3_1 < 0) = true := decide_eq_true c15
                    clear c15
                    have H' := Aside0.mk H
                    clear H
                    go_wp2
                    repeat (go_quiet (fail); try go_wp2)
                    go_roundg kj4
                    case measure => have := HK1.out; have := HJ4.out; omega
                    case rel => exact ⟨(x8_1), (wrap64 (x8_1 + 1)), (by first | rfl | (simp; done) | (simp [*]; done)), (by first | rfl | (simp; done) | (simp [*]; done)), H', ⟨by have := HK1.out; have := HJ4.out; omega⟩, ⟨by repeat (first | (with_reducible first | exact HB.out | apply below_alloc | apply pw_below_drewN | apply below_drew1 | refine below_set ?_ GE143.out) | exact HB.out)⟩⟩
                  · rw [if_neg c15] at H
                    have c15b0 : decide (x3_1 < 0) = false := decide_eq_false c15
                    clear c15
                    by_cases c16 : 0 ≤ x3_1
                    · rw [if_pos c16] at H
                      have c16b0 : decide (0 ≤ x3_1) = true := decide_eq_true c16
                      clear c16
                      by_cases c17 : x3_1 < (l0.length : Int)
                      · rw [if_pos c17] at H
                        have c17b0 : decide (x3_1 < (l0.length : Int)) = true := decide_eq_true c17
                        clear c17
                        by_cases c18 : ((rd_T35 l0 x8_1).f9) < ((rd_T35 l0 x3_1).f9)
                        · rw [if_pos c18] at H
                          have c18b0 : decide (((rd_T35 l0 x8_1).f9) < ((rd_T35 l0 x3_1).f9)) = true := decide_eq_true c18
                          clear c18
                          have H' := Aside0.mk H
                          clear H
                          have hcz19_0 : wc.cell? ⟨gb143, 0, none⟩ = some (.int .i64 ((rd_T35 l0 x8_1).f0)) := (blk_cell BK143.out 0).trans rfl
                          have hcz19_1 : wc.cell? ⟨gb143, 1, none⟩ = some (.int .i64 ((rd_T35 l0 x8_1).f1)) := (blk_cell BK143.out 1).trans rfl
                          have hcz19_2 : wc.cell? ⟨gb143, 2, none⟩ = some (.int .i64 ((rd_T35 l0 x8_1).f2)) := (blk_cell BK143.out 2).trans rfl
                          have hcz19_3 : wc.cell? ⟨gb143, 3, none⟩ = some (.int .i64 ((rd_T35 l0 x8_1).f3)) := (blk_cell BK143.out 3).trans rfl
                          have hcz19_4 : wc.cell? ⟨gb143, 4, none⟩ = some (.int .i64 ((rd_T35 l0 x8_1).f4)) := (blk_cell BK143.out 4).trans rfl
                          have hcz19_5 : wc.cell? ⟨gb143, 5, none⟩ = some (.int .i64 ((rd_T35 l0 x8_1).f5)) := (blk_cell BK143.out 5).trans rfl
                          have hcz19_6 : wc.cell? ⟨gb143, 6, none⟩ = some (.int .i64 ((rd_T35 l0 x8_1).f6)) := (blk_cell BK143.out 6).trans rfl
                          have hcz19_7 : wc.cell? ⟨gb143, 7, none⟩ = some (.int .i64 ((rd_T35 l0 x8_1).f7)) := (blk_cell BK143.out 7).trans rfl
                          have hcz19_8 : wc.cell? ⟨gb143, 8, none⟩ = some (.int .i64 ((rd_T35 l0 x8_1).f8)) := (blk_cell BK143.out 8).trans rfl
                          have hcz19_9 : wc.cell? ⟨gb143, 9, none⟩ = some (.int .i64 ((rd_T35 l0 x8_1).f9)) := (blk_cell BK143.out 9).trans rfl
                          have hcz19_10 : wc.cell? ⟨gb143, 10, none⟩ = some (.bool ((rd_T35 l0 x8_1).f10)) := (blk_cell BK143.out 10).trans rfl
                          have hcz19_11 : wc.cell? ⟨gb143, 11, none⟩ = some (.bool ((rd_T35 l0 x8_1).f11)) := (blk_cell BK143.out 11).trans rfl
                          have hcz19_12 : wc.cell? ⟨gb143, 12, none⟩ = some (.bool ((rd_T35 l0 x8_1).f12)) := (blk_cell BK143.out 12).trans rfl
                          have hcz19_13 : wc.cell? ⟨gb143, 13, none⟩ = some (.int .i64 ((rd_T35 l0 x8_1).f13)) := (blk_cell BK143.out 13).trans rfl
                          have hcz19_14 : wc.cell? ⟨gb143, 14, none⟩ = some (.slice A142_14 ((rd_T35 l0 x8_1).f14).length c142_14) := (blk_cell BK143.out 14).trans rfl
                          have hcz19_15 : wc.cell? ⟨gb143, 15, none⟩ = some (.slice A142_15 ((rd_T35 l0 x8_1).f15).length c142_15) := (blk_cell BK143.out 15).trans rfl
                          have hfz19_0 := blk_frozen BK143.out 0
                          have hfz19_1 := blk_frozen BK143.out 1
                          have hfz19_2 := blk_frozen BK143.out 2
                          have hfz19_3 := blk_frozen BK143.out 3
                          have hfz19_4 := blk_frozen BK143.out 4
                          have hfz19_5 := blk_frozen BK143.out 5
                          have hfz19_6 := blk_frozen BK143.out 6
                          have hfz19_7 := blk_frozen BK143.out 7
                          have hfz19_8 := blk_frozen BK143.out 8
                          have hfz19_9 := blk_frozen BK143.out 9
                          have hfz19_10 := blk_frozen BK143.out 10
                          have hfz19_11 := blk_frozen BK143.out 11
                          have hfz19_12 := blk_frozen BK143.out 12
                          have hfz19_13 := blk_frozen BK143.out 13
                          have hfz19_14 := blk_frozen BK143.out 14
                          have hfz19_15 := blk_frozen BK143.out 15
                          have p144 : 0 ≤ (x3_1 : Int) := of_decide_eq_true (by first | (with_reducible assumption) | assumption)
                          have q144 : x3_1 < (l0.length : Int) := of_decide_eq_true (by first | (with_reducible assumption) | assumption)
                          obtain ⟨ad144, A144_14, c144_14, A144_15, c144_15, e144, hx144_0, hx144_1, hx144_2, hx144_3, hx144_4, hx144_5, hx144_6, hx144_7, hx144_8, hx144_9, hx144_10, hx144_11, hx144_12, hx144_13, hx144_14, hx144_15, hl144_14, hi144_14, hl144_15, hi144_15⟩ := at_T35 HR0.out x3_1 p144 q144
                          obtain rfl : ad142 = ad144 := (by injection e144)
                          replace hx144_0 := (HB.out.cell (World.block_lt_of_cell? w _ hx144_0)).trans hx144_0
                          replace hx144_1 := (HB.out.cell (World.block_lt_of_cell? w _ hx144_1)).trans hx144_1
                          replace hx144_2 := (HB.out.cell (World.block_lt_of_cell? w _ hx144_2)).trans hx144_2
                          replace hx144_3 := (HB.out.cell (World.block_lt_of_cell? w _ hx144_3)).trans hx144_3
                          replace hx144_4 := (HB.out.cell (World.block_lt_of_cell? w _ hx144_4)).trans hx144_4
                          replace hx144_5 := (HB.out.cell (World.block_lt_of_cell? w _ hx144_5)).trans hx144_5
                          replace hx144_6 := (HB.out.cell (World.block_lt_of_cell? w _ hx144_6)).trans hx144_6
                          replace hx144_7 := (HB.out.cell (World.block_lt_of_cell? w _ hx144_7)).trans hx144_7
                          replace hx144_8 := (HB.out.cell (World.block_lt_of_cell? w _ hx144_8)).trans hx144_8
                          replace hx144_9 := (HB.out.cell (World.block_lt_of_cell? w _ hx144_9)).trans hx144_9
                          replace hx144_10 := (HB.out.cell (World.block_lt_of_cell? w _ hx144_10)).trans hx144_10
                          replace hx144_11 := (HB.out.cell (World.block_lt_of_cell? w _ hx144_11)).trans hx144_11
                          replace hx144_12 := (HB.out.cell (World.block_lt_of_cell? w _ hx144_12)).trans hx144_12
                          replace hx144_13 := (HB.out.cell (World.block_lt_of_cell? w _ hx144_13)).trans hx144_13
                          replace hx144_14 := (HB.out.cell (World.block_lt_of_cell? w _ hx144_14)).trans hx144_14
                          replace hx144_15 := (HB.out.cell (World.block_lt_of_cell? w _ hx144_15)).trans hx144_15
                          have HR144_14 := Aside0.mk hi144_14
                          have HC144_14 := Aside0.mk hl144_14
                          clear hi144_14 hl144_14
                          have HR144_15 := Aside0.mk hi144_15
                          have HC144_15 := Aside0.mk hl144_15
                          clear hi144_15 hl144_15
                          replace p144 := eq_true p144
                          replace q144 := eq_true q144
                          go_wp2
                          repeat (go_quiet (fail); try go_wp2)
                          go_roundg kj4
                          case measure => have := HK1.out; have := HJ4.out; omega
                          case rel => exact ⟨(x8_1), (wrap64 (x8_1 + 1)), (by first | rfl | (simp; done) | (simp [*]; done)), (by first | rfl | (simp; done) | (simp [*]; done)), H', ⟨by have := HK1.out; have := HJ4.out; omega⟩, ⟨by repeat (first | (with_reducible first | exact HB.out | apply below_alloc | apply pw_below_drewN | apply below_drew1 | refine below_set ?_ GE143.out) | exact HB.out)⟩⟩
                        · rw [if_neg c18] at H
                          have c18b0 : decide (((rd_T35 l0 x8_1).f9) < ((rd_T35 l0 x3_1).f9)) = false := decide_eq_false c18
                          clear c18
                          have H' := Aside0.mk H
                          clear H
                          have hcz20_0 : wc.cell? ⟨gb143, 0, none⟩ = some (.int .i64 ((rd_T35 l0 x8_1).f0)) := (blk_cell BK143.out 0).trans rfl
                          have hcz20_1 : wc.cell? ⟨gb143, 1, none⟩ = some (.int .i64 ((rd_T35 l0 x8_1).f1)) := (blk_cell BK143.out 1).trans rfl
                          have hcz20_2 : wc.cell? ⟨gb143, 2, none⟩ = some (.int .i64 ((rd_T35 l0 x8_1).f2)) := (blk_cell BK143.out 2).trans rfl
                          have hcz20_3 : wc.cell? ⟨gb143, 3, none⟩ = some (.int .i64 ((rd_T35 l0 x8_1).f3)) := (blk_cell BK143.out 3).trans rfl
                          have hcz20_4 : wc.cell? ⟨gb143, 4, none⟩ = some (.int .i64 ((rd_T35 l0 x8_1).f4)) := (blk_cell BK143.out 4).trans rfl
                          have hcz20_5 : wc.cell? ⟨gb143, 5, none⟩ = some (.int .i64 ((rd_T35 l0 x8_1).f5)) := (blk_cell BK143.out 5).trans rfl
                          have hcz20_6 : wc.cell? ⟨gb143, 6, none⟩ = some (.int .i64 ((rd_T35 l0 x8_1).f6)) := (blk_cell BK143.out 6).trans rfl
                          have hcz20_7 : wc.cell? ⟨gb143, 7, none⟩ = some (.int .i64 ((rd_T35 l0 x8_1).f7)) := (blk_cell BK143.out 7).trans rfl
                          have hcz20_8 : wc.cell? ⟨gb143, 8, none⟩ = some (.int .i64 ((rd_T35 l0 x8_1).f8)) := (blk_cell BK143.out 8).trans rfl
                          have hcz20_9 : wc.cell? ⟨gb143, 9, none⟩ = some (.int .i64 ((rd_T35 l0 x8_1).f9)) := (blk_cell BK143.out 9).trans rfl
                          have hcz20_10 : wc.cell? ⟨gb143, 10, none⟩ = some (.bool ((rd_T35 l0 x8_1).f10)) := (blk_cell BK143.out 10).trans rfl
                          have hcz20_11 : wc.cell? ⟨gb143, 11, none⟩ = some (.bool ((rd_T35 l0 x8_1).f11)) := (blk_cell BK143.out 11).trans rfl
                          have hcz20_12 : wc.cell? ⟨gb143, 12, none⟩ = some (.bool ((rd_T35 l0 x8_1).f12)) := (blk_cell BK143.out 12).trans rfl
                          have hcz20_13 : wc.cell? ⟨gb143, 13, none⟩ = some (.int .i64 ((rd_T35 l0 x8_1).f13)) := (blk_cell BK143.out 13).trans rfl
                          have hcz20_14 : wc.cell? ⟨gb143, 14, none⟩ = some (.slice A142_14 ((rd_T35 l0 x8_1).f14).length c142_14) := (blk_cell BK143.out 14).trans rfl
                          have hcz20_15 : wc.cell? ⟨gb143, 15, none⟩ = some (.slice A142_15 ((rd_T35 l0 x8_1).f15).length c142_15) := (blk_cell BK143.out 15).trans rfl
                          have hfz20_0 := blk_frozen BK143.out 0
                          have hfz20_1 := blk_frozen BK143.out 1
                          have hfz20_2 := blk_frozen BK143.out 2
                          have hfz20_3 := blk_frozen BK143.out 3
                          have hfz20_4 := blk_frozen BK143.out 4
                          have hfz20_5 := blk_frozen BK143.out 5
                          have hfz20_6 := blk_frozen BK143.out 6
                          have hfz20_7 := blk_frozen BK143.out 7
                          have hfz20_8 := blk_frozen BK143.out 8
                          have hfz20_9 := blk_frozen BK143.out 9
                          have hfz20_10 := blk_frozen BK143.out 10
                          have hfz20_11 := blk_frozen BK143.out 11
                          have hfz20_12 := blk_frozen BK143.out 12
                          have hfz20_13 := blk_frozen BK143.out 13
                          have hfz20_14 := blk_frozen BK143.out 14
                          have hfz20_15 := blk_frozen BK143.out 15
                          have p144 : 0 ≤ (x3_1 : Int) := of_decide_eq_true (by first | (with_reducible assumption) | assumption)
                          have q144 : x3_1 < (l0.length : Int) := of_decide_eq_true (by first | (with_reducible assumption) | assumption)
                          obtain ⟨ad144, A144_14, c144_14, A144_15, c144_15, e144, hx144_0, hx144_1, hx144_2, hx144_3, hx144_4, hx144_5, hx144_6, hx144_7, hx144_8, hx144_9, hx144_10, hx144_11, hx144_12, hx144_13, hx144_14, hx144_15, hl144_14, hi144_14, hl144_15, hi144_15⟩ := at_T35 HR0.out x3_1 p144 q144
                          obtain rfl : ad142 = ad144 := (by injection e144)
                          replace hx144_0 := (HB.out.cell (World.block_lt_of_cell? w _ hx144_0)).trans hx144_0
                          replace hx144_1 := (HB.out.cell (World.block_lt_of_cell? w _ hx144_1)).trans hx144_1
                          replace hx144_2 := (HB.out.cell (World.block_lt_of_cell? w _ hx144_2)).trans hx144_2
                          replace hx144_3 := (HB.out.cell (World.block_lt_of_cell? w _ hx144_3)).trans hx144_3
                          replace hx144_4 := (HB.out.cell (World.block_lt_of_cell? w _ hx144_4)).trans hx144_4
                          replace hx144_5 := (HB.out.cell (World.block_lt_of_cell? w _ hx144_5)).trans hx144_5
                          replace hx144_6 := (HB.out.cell (World.block_lt_of_cell? w _ hx144_6)).trans hx144_6
                          replace hx144_7 := (HB.out.cell (World.block_lt_of_cell? w _ hx144_7)).trans hx144_7
                          replace hx144_8 := (HB.out.cell (World.block_lt_of_cell? w _ hx144_8)).trans hx144_8
                          replace hx144_9 := (HB.out.cell (World.block_lt_of_cell? w _ hx144_9)).trans hx144_9
                          replace hx144_10 := (HB.out.cell (World.block_lt_of_cell? w _ hx144_10)).trans hx144_10
                          replace hx144_11 := (HB.out.cell (World.block_lt_of_cell? w _ hx144_11)).trans hx144_11
                          replace hx144_12 := (HB.out.cell (World.block_lt_of_cell? w _ hx144_12)).trans hx144_12
                          replace hx144_13 := (HB.out.cell (World.block_lt_of_cell? w _ hx144_13)).trans hx144_13
                          replace hx144_14 := (HB.out.cell (World.block_lt_of_cell? w _ hx144_14)).trans hx144_14
                          replace hx144_15 := (HB.out.cell (World.block_lt_of_cell? w _ hx144_15)).trans hx144_15
                          have HR144_14 := Aside0.mk hi144_14
                          have HC144_14 := Aside0.mk hl144_14
                          clear hi144_14 hl144_14
                          have HR144_15 := Aside0.mk hi144_15
                          have HC144_15 := Aside0.mk hl144_15
                          clear hi144_15 hl144_15
                          replace p144 := eq_true p144
                          replace q144 := eq_true q144
                          go_wp2
                          repeat (go_quiet (fail); try go_wp2)
                          go_roundg kj4
                          case measure => have := HK1.out; have := HJ4.out; omega
                          case rel => exact ⟨(x3_1), (wrap64 (x8_1 + 1)), (by first | rfl | (simp; done) | (simp [*]; done)), (by first | rfl | (simp; done) | (simp [*]; done)), H', ⟨by have := HK1.out; have := HJ4.out; omega⟩, ⟨by repeat (first | (with_reducible first | exact HB.out | apply below_alloc | apply pw_below_drewN | apply below_drew1 | refine below_set ?_ GE143.out) | exact HB.out)⟩⟩
                      · rw [if_neg c17] at H
                        exact absurd H (by simp)
                    · rw [if_neg c16] at H
                      exact absurd H (by simp)
          · rw [if_neg c4] at H
            exact absurd H (by simp)
        · rw [if_neg c3] at H
          exact absurd H (by simp)
      · rw [if_neg c2] at H
        have c2b0 : decide (x8_1 < (l0.length : Int)) = false := decide_eq_false c2
        clear c2
        obtain rfl := Option.some.inj H
        go_wp2
        repeat (go_quiet (fail); try go_wp2)
        go_ret
        exact ⟨by first | rfl | (simp [errW_none, errW_some] <;> rfl) | (simp [*, errW_none, errW_some] <;> rfl), by repeat (first | (with_reducible first | exact HB.out | apply below_alloc | apply pw_below_drewN | apply below_drew1) | exact HB.out)⟩

/-! ### throttle_Counts: function 44 -/
def throttle_Counts.f (a0_0 : Int) (a0_1 : Int) (a0_2 : Int) (a0_3 : Int) (a0_4 : Int) (a0_5 : Int) (a0_6 : Int) (a0_7 : Int) (a0_8 : Int) (a0_9 : Int) (a0_10 : Bool) (a0_11 : Bool) (a0_12 : Bool) (a0_13 : Int) (l0_14 : List (S93)) (l0_15 : List Int) : Option (Bool) := if a0_0 = 4 then (if a0_10 = true then (some true) else (if a0_1 = 2 then (some true) else (some (a0_1 == 4)))) else (some false)
set_option maxHeartbeats 8000000 in
set_option maxRecDepth 100000 in
theorem throttle_Counts.calls (a0_0 : Int) (a0_1 : Int) (a0_2 : Int) (a0_3 : Int) (a0_4 : Int) (a0_5 : Int) (a0_6 : Int) (a0_7 : Int) (a0_8 : Int) (a0_9 : Int) (a0_10 : Bool) (a0_11 : Bool) (a0_12 : Bool) (a0_13 : Int) (A0_14 : Option Addr) (c0_14 : Nat) (l0_14 : List (S93)) (A0_15 : Option Addr) (c0_15 : Nat) (l0_15 : List Int) (r : Bool) (w : World) (hr0_14 : Kd.C k93 w A0_14 l0_14.length l0_14) (hc0_14 : l0_14.length ≤ c0_14) (hr0_15 : Kd.C (Kd.int .u8) w A0_15 l0_15.length l0_15) (hc0_15 : l0_15.length ≤ c0_15) (h : throttle_Counts.f a0_0 a0_1 a0_2 a0_3 a0_4 a0_5 a0_6 a0_7 a0_8 a0_9 a0_10 a0_11 a0_12 a0_13 l0_14 l0_15 = some r) :
    Calls Try.prog 44 #[.agg #[.int .i64 a0_0, .int .i64 a0_1, .int .i64 a0_2, .int .i64 a0_3, .int .i64 a0_4, .int .i64 a0_5, .int .i64 a0_6, .int .i64 a0_7, .int .i64 a0_8, .int .i64 a0_9, .bool a0_10, .bool a0_11, .bool a0_12, .int .i64 a0_13, .slice A0_14 l0_14.length c0_14, .slice A0_15 l0_15.length c0_15]] w fun e w' => e = .returned (.bool r) ∧ Below w.heap.size w w' := by
  have hu35 := Try.underlying35
  have HR0_14 := Aside0.mk hr0_14
  have HC0_14 := Aside0.mk hc0_14
  clear hr0_14 hc0_14
  have HR0_15 := Aside0.mk hr0_15
  have HC0_15 := Aside0.mk hc0_15
  clear hr0_15 hc0_15
  have HB := Aside0.mk (Below.refl w.heap.size w)
  have H : (if a0_0 = 4 then (if a0_10 = true then (some true) else (if a0_1 = 2 then (some true) else (some (a0_1 == 4)))) else (some false)) = some r := h
  clear h
  by_cases c2 : a0_0 = 4
  · rw [if_pos c2] at H
    have c2b0 : (a0_0 == 4) = true := beq_iff_eq.mpr c2
    have c2b1 : (a0_0 != 4) = false := bne_eq_false_iff_eq.mpr c2
    clear c2
    by_cases c3 : a0_10 = true
    · subst c3
      have H1 : (some true) = some r := by rw [if_pos rfl] at H; exact H
      clear H
      have H := H1
      clear H1
      obtain rfl := Option.some.inj H
      go_enter Try.func44, Try.ntmps44
      go_wp2_with (first | ((with_reducible refine gate_dst (N := 1) rfl ?_); refine box_event ?hg (N := 1) ?hd (cs := #[.int .i64 a0_0, .int .i64 a0_1, .int .i64 a0_2, .int .i64 a0_3, .int .i64 a0_4, .int .i64 a0_5, .int .i64 a0_6, .int .i64 a0_7, .int .i64 a0_8, .int .i64 a0_9, .bool true, .bool a0_11, .bool a0_12, .int .i64 a0_13, .slice A0_14 l0_14.length c0_14, .slice A0_15 l0_15.length c0_15]) (t := 35) ?hr ?_; (case hd => rfl); (case hg => rfl); (case hr => first | (go_simp; done) | (go_simp; rfl)); intro gb145 hg w4 hbox hb; have n0_ := Aside0.mk (below_step (by repeat (first | (with_reducible first | exact HB.out | apply below_alloc | apply pw_below_drewN | apply below_drew1) | exact HB.out)) hb); have n1_ := Aside0.mk (hbox); have n2_ := Aside0.mk ((by rw [hg]; exact (below_size (by repeat (first | (with_reducible first | exact HB.out | apply below_alloc | apply pw_below_drewN | apply below_drew1) | exact HB.out))) : w.heap.size ≤ gb145)); have n3_ := Aside0.mk ((by rw [hg]; exact (below_size (by repeat (first | (with_reducible first | exact HB.out | apply below_alloc | apply pw_below_drewN | apply below_drew1) | exact HB.out))) : w.heap.size ≤ gb145)); clear HB; have HB := n0_; have BK145 := n1_; have GW145 := n2_; have GE145 := n3_; clear n0_ n1_ n2_ n3_; clear hb hbox hg; have hcz5_0 : w4.cell? ⟨gb145, 0, none⟩ = some (.int .i64 a0_0) := (blk_cell BK145.out 0).trans rfl; have hcz5_1 : w4.cell? ⟨gb145, 1, none⟩ = some (.int .i64 a0_1) := (blk_cell BK145.out 1).trans rfl; have hcz5_2 : w4.cell? ⟨gb145, 2, none⟩ = some (.int .i64 a0_2) := (blk_cell BK145.out 2).trans rfl; have hcz5_3 : w4.cell? ⟨gb145, 3, none⟩ = some (.int .i64 a0_3) := (blk_cell BK145.out 3).trans rfl; have hcz5_4 : w4.cell? ⟨gb145, 4, none⟩ = some (.int .i64 a0_4) := (blk_cell BK145.out 4).trans rfl; have hcz5_5 : w4.cell? ⟨gb145, 5, none⟩ = some (.int .i64 a0_5) := (blk_cell BK145.out 5).trans rfl; have hcz5_6 : w4.cell? ⟨gb145, 6, none⟩ = some (.int .i64 a0_6) := (blk_cell BK145.out 6).trans rfl; have hcz5_7 : w4.cell? ⟨gb145, 7, none⟩ = some (.int .i64 a0_7) := (blk_cell BK145.out 7).trans rfl; have hcz5_8 : w4.cell? ⟨gb145, 8, none⟩ = some (.int .i64 a0_8) := (blk_cell BK145.out 8).trans rfl; have hcz5_9 : w4.cell? ⟨gb145, 9, none⟩ = some (.int .i64 a0_9) := (blk_cell BK145.out 9).trans rfl; have hcz5_10 : w4.cell? ⟨gb145, 10, none⟩ = some (.bool true) := (blk_cell BK145.out 10).trans rfl; have hcz5_11 : w4.cell? ⟨gb145, 11, none⟩ = some (.bool a0_11) := (blk_cell BK145.out 11).trans rfl; have hcz5_12 : w4.cell? ⟨gb145, 12, none⟩ = some (.bool a0_12) := (blk_cell BK145.out 12).trans rfl; have hcz5_13 : w4.cell? ⟨gb145, 13, none⟩ = some (.int .i64 a0_13) := (blk_cell BK145.out 13).trans rfl; have hcz5_14 : w4.cell? ⟨gb145, 14, none⟩ = some (.slice A0_14 l0_14.length c0_14) := (blk_cell BK145.out 14).trans rfl; have hcz5_15 : w4.cell? ⟨gb145, 15, none⟩ = some (.slice A0_15 l0_15.length c0_15) := (blk_cell BK145.out 15).trans rfl; have hfz5_0 := blk_frozen BK145.out 0; have hfz5_1 := blk_frozen BK145.out 1; have hfz5_2 := blk_frozen BK145.out 2; have hfz5_3 := blk_frozen BK145.out 3; have hfz5_4 := blk_frozen BK145.out 4; have hfz5_5 := blk_frozen BK145.out 5; have hfz5_6 := blk_frozen BK145.out 6; have hfz5_7 := blk_frozen BK145.out 7; have hfz5_8 := blk_frozen BK145.out 8; have hfz5_9 := blk_frozen BK145.out 9; have hfz5_10 := blk_frozen BK145.out 10; have hfz5_11 := blk_frozen BK145.out 11; have hfz5_12 := blk_frozen BK145.out 12; have hfz5_13 := blk_frozen BK145.out 13; have hfz5_14 := blk_frozen BK145.out 14; have hfz5_15 := blk_frozen BK145.out 15))
      go_ret
      exact ⟨by first | rfl | (simp [errW_none, errW_some] <;> rfl) | (simp [*, errW_none, errW_some] <;> rfl), by repeat (first | (with_reducible first | exact HB.out | apply below_alloc | apply pw_below_drewN | apply below_drew1 | refine below_set ?_ GE145.out) | exact HB.out)⟩
    · replace c3 := Bool.eq_false_iff.mpr c3
      subst c3
      have H1 : (if a0_1 = 2 then (some true) else (some (a0_1 == 4))) = some r := by rw [if_neg (show ¬ (false = true) by decide)] at H; exact H
      clear H
      have H := H1
      clear H1
      by_cases c6 : a0_1 = 2
      · rw [if_pos c6] at H
        have c6b0 : (a0_1 == 2) = true := beq_iff_eq.mpr c6
        have c6b1 : (a0_1 != 2) = false := bne_eq_false_iff_eq.mpr c6
        clear c6
        obtain rfl := Option.some.inj H
        go_enter Try.func44, Try.ntmps44
        go_wp2_with (first | ((with_reducible refine gate_dst (N := 1) rfl ?_); refine box_event ?hg (N := 1) ?hd (cs := #[.int .i64 a0_0, .int .i64 a0_1, .int .i64 a0_2, .int .i64 a0_3, .int .i64 a0_4, .int .i64 a0_5, .int .i64 a0_6, .int .i64 a0_7, .int .i64 a0_8, .int .i64 a0_9, .bool false, .bool a0_11, .bool a0_12, .int .i64 a0_13, .slice A0_14 l0_14.length c0_14, .slice A0_15 l0_15.length c0_15]) (t := 35) ?hr ?_; (case hd => rfl); (case hg => rfl); (case hr => first | (go_simp; done) | (go_simp; rfl)); intro gb145 hg w7 hbox hb; have n0_ := Aside0.mk (below_step (by repeat (first | (with_reducible first | exact HB.out | apply below_alloc | apply pw_below_drewN | apply below_drew1) | exact HB.out)) hb); have n1_ := Aside0.mk (hbox); have n2_ := Aside0.mk ((by rw [hg]; exact (below_size (by repeat (first | (with_reducible first | exact HB.out | apply below_alloc | apply pw_below_drewN | apply below_drew1) | exact HB.out))) : w.heap.size ≤ gb145)); have n3_ := Aside0.mk ((by rw [hg]; exact (below_size (by repeat (first | (with_reducible first | exact HB.out | apply below_alloc | apply pw_below_drewN | apply below_drew1) | exact HB.out))) : w.heap.size ≤ gb145)); clear HB; have HB := n0_; have BK145 := n1_; have GW145 := n2_; have GE145 := n3_; clear n0_ n1_ n2_ n3_; clear hb hbox hg; have hcz8_0 : w7.cell? ⟨gb145, 0, none⟩ = some (.int .i64 a0_0) := (blk_cell BK145.out 0).trans rfl; have hcz8_1 : w7.cell? ⟨gb145, 1, none⟩ = some (.int .i64 a0_1) := (blk_cell BK145.out 1).trans rfl; have hcz8_2 : w7.cell? ⟨gb145, 2, none⟩ = some (.int .i64 a0_2) := (blk_cell BK145.out 2).trans rfl; have hcz8_3 : w7.cell? ⟨gb145, 3, none⟩ = some (.int .i64 a0_3) := (blk_cell BK145.out 3).trans rfl; have hcz8_4 : w7.cell? ⟨gb145, 4, none⟩ = some (.int .i64 a0_4) := (blk_cell BK145.out 4).trans rfl; have hcz8_5 : w7.cell? ⟨gb145, 5, none⟩ = some (.int .i64 a0_5) := (blk_cell BK145.out 5).trans rfl; have hcz8_6 : w7.cell? ⟨gb145, 6, none⟩ = some (.int .i64 a0_6) := (blk_cell BK145.out 6).trans rfl; have hcz8_7 : w7.cell? ⟨gb145, 7, none⟩ = some (.int .i64 a0_7) := (blk_cell BK145.out 7).trans rfl; have hcz8_8 : w7.cell? ⟨gb145, 8, none⟩ = some (.int .i64 a0_8) := (blk_cell BK145.out 8).trans rfl; have hcz8_9 : w7.cell? ⟨gb145, 9, none⟩ = some (.int .i64 a0_9) := (blk_cell BK145.out 9).trans rfl; have hcz8_10 : w7.cell? ⟨gb145, 10, none⟩ = some (.bool false) := (blk_cell BK145.out 10).trans rfl; have hcz8_11 : w7.cell? ⟨gb145, 11, none⟩ = some (.bool a0_11) := (blk_cell BK145.out 11).trans rfl; have hcz8_12 : w7.cell? ⟨gb145, 12, none⟩ = some (.bool a0_12) := (blk_cell BK145.out 12).trans rfl; have hcz8_13 : w7.cell? ⟨gb145, 13, none⟩ = some (.int .i64 a0_13) := (blk_cell BK145.out 13).trans rfl; have hcz8_14 : w7.cell? ⟨gb145, 14, none⟩ = some (.slice A0_14 l0_14.length c0_14) := (blk_cell BK145.out 14).trans rfl; have hcz8_15 : w7.cell? ⟨gb145, 15, none⟩ = some (.slice A0_15 l0_15.length c0_15) := (blk_cell BK145.out 15).trans rfl; have hfz8_0 := blk_frozen BK145.out 0; have hfz8_1 := blk_frozen BK145.out 1; have hfz8_2 := blk_frozen BK145.out 2; have hfz8_3 := blk_frozen BK145.out 3; have hfz8_4 := blk_frozen BK145.out 4; have hfz8_5 := blk_frozen BK145.out 5; have hfz8_6 := blk_frozen BK145.out 6; have hfz8_7 := blk_frozen BK145.out 7; have hfz8_8 := blk_frozen BK145.out 8; have hfz8_9 := blk_frozen BK145.out 9; have hfz8_10 := blk_frozen BK145.out 10; have hfz8_11 := blk_frozen BK145.out 11; have hfz8_12 := blk_frozen BK145.out 12; have hfz8_13 := blk_frozen BK145.out 13; have hfz8_14 := blk_frozen BK145.out 14; have hfz8_15 := blk_frozen BK145.out 15))
        go_ret
        exact ⟨by first | rfl | (simp [errW_none, errW_some] <;> rfl) | (simp [*, errW_none, errW_some] <;> rfl), by repeat (first | (with_reducible first | exact HB.out | apply below_alloc | apply pw_below_drewN | apply below_drew1 | refine below_set ?_ GE145.out) | exact HB.out)⟩
      · rw [if_neg c6] at H
        have c6b0 : (a0_1 == 2) = false := beq_eq_false_iff_ne.mpr c6
        have c6b1 : (a0_1 != 2) = true := bne_iff_ne.mpr c6
        obtain rfl := Option.some.inj H
        go_enter Try.func44, Try.ntmps44
        go_wp2_with (first | ((with_reducible refine gate_dst (N := 1) rfl ?_); refine box_event ?hg (N := 1) ?hd (cs := #[.int .i64 a0_0, .int .i64 a0_1, .int .i64 a0_2, .int .i64 a0_3, .int .i64 a0_4, .int .i64 a0_5, .int .i64 a0_6, .int .i64 a0_7, .int .i64 a0_8, .int .i64 a0_9, .bool false, .bool a0_11, .bool a0_12, .int .i64 a0_13, .slice A0_14 l0_14.length c0_14, .slice A0_15 l0_15.length c0_15]) (t := 35) ?hr ?_; (case hd => rfl); (case hg => rfl); (case hr => first | (go_simp; done) | (go_simp; rfl)); intro gb145 hg w9 hbox hb; have n0_ := Aside0.mk (below_step (by repeat (first | (with_reducible first | exact HB.out | apply below_alloc | apply pw_below_drewN | apply below_drew1) | exact HB.out)) hb); have n1_ := Aside0.mk (hbox); have n2_ := Aside0.mk ((by rw [hg]; exact (below_size (by repeat (first | (with_reducible first | exact HB.out | apply below_alloc | apply pw_below_drewN | apply below_drew1) | exact HB.out))) : w.heap.size ≤ gb145)); have n3_ := Aside0.mk ((by rw [hg]; exact (below_size (by repeat (first | (with_reducible first | exact HB.out | apply below_alloc | apply pw_below_drewN | apply below_drew1) | exact HB.out))) : w.heap.size ≤ gb145)); clear HB; have HB := n0_; have BK145 := n1_; have GW145 := n2_; have GE145 := n3_; clear n0_ n1_ n2_ n3_; clear hb hbox hg; have hcz10_0 : w9.cell? ⟨gb145, 0, none⟩ = some (.int .i64 a0_0) := (blk_cell BK145.out 0).trans rfl; have hcz10_1 : w9.cell? ⟨gb145, 1, none⟩ = some (.int .i64 a0_1) := (blk_cell BK145.out 1).trans rfl; have hcz10_2 : w9.cell? ⟨gb145, 2, none⟩ = some (.int .i64 a0_2) := (blk_cell BK145.out 2).trans rfl; have hcz10_3 : w9.cell? ⟨gb145, 3, none⟩ = some (.int .i64 a0_3) := (blk_cell BK145.out 3).trans rfl; have hcz10_4 : w9.cell? ⟨gb145, 4, none⟩ = some (.int .i64 a0_4) := (blk_cell BK145.out 4).trans rfl; have hcz10_5 : w9.cell? ⟨gb145, 5, none⟩ = some (.int .i64 a0_5) := (blk_cell BK145.out 5).trans rfl; have hcz10_6 : w9.cell? ⟨gb145, 6, none⟩ = some (.int .i64 a0_6) := (blk_cell BK145.out 6).trans rfl; have hcz10_7 : w9.cell? ⟨gb145, 7, none⟩ = some (.int .i64 a0_7) := (blk_cell BK145.out 7).trans rfl; have hcz10_8 : w9.cell? ⟨gb145, 8, none⟩ = some (.int .i64 a0_8) := (blk_cell BK145.out 8).trans rfl; have hcz10_9 : w9.cell? ⟨gb145, 9, none⟩ = some (.int .i64 a0_9) := (blk_cell BK145.out 9).trans rfl; have hcz10_10 : w9.cell? ⟨gb145, 10, none⟩ = some (.bool false) := (blk_cell BK145.out 10).trans rfl; have hcz10_11 : w9.cell? ⟨gb145, 11, none⟩ = some (.bool a0_11) := (blk_cell BK145.out 11).trans rfl; have hcz10_12 : w9.cell? ⟨gb145, 12, none⟩ = some (.bool a0_12) := (blk_cell BK145.out 12).trans rfl; have hcz10_13 : w9.cell? ⟨gb145, 13, none⟩ = some (.int .i64 a0_13) := (blk_cell BK145.out 13).trans rfl; have hcz10_14 : w9.cell? ⟨gb145, 14, none⟩ = some (.slice A0_14 l0_14.length c0_14) := (blk_cell BK145.out 14).trans rfl; have hcz10_15 : w9.cell? ⟨gb145, 15, none⟩ = some (.slice A0_15 l0_15.length c0_15) := (blk_cell BK145.out 15).trans rfl; have hfz10_0 := blk_frozen BK145.out 0; have hfz10_1 := blk_frozen BK145.out 1; have hfz10_2 := blk_frozen BK145.out 2; have hfz10_3 := blk_frozen BK145.out 3; have hfz10_4 := blk_frozen BK145.out 4; have hfz10_5 := blk_frozen BK145.out 5; have hfz10_6 := blk_frozen BK145.out 6; have hfz10_7 := blk_frozen BK145.out 7; have hfz10_8 := blk_frozen BK145.out 8; have hfz10_9 := blk_frozen BK145.out 9; have hfz10_10 := blk_frozen BK145.out 10; have hfz10_11 := blk_frozen BK145.out 11; have hfz10_12 := blk_frozen BK145.out 12; have hfz10_13 := blk_frozen BK145.out 13; have hfz10_14 := blk_frozen BK145.out 14; have hfz10_15 := blk_frozen BK145.out 15))
        go_ret
        exact ⟨by first | rfl | (simp [errW_none, errW_some] <;> rfl) | (simp [*, errW_none, errW_some] <;> rfl), by repeat (first | (with_reducible first | exact HB.out | apply below_alloc | apply pw_below_drewN | apply below_drew1 | refine below_set ?_ GE145.out) | exact HB.out)⟩
  · rw [if_neg c2] at H
    have c2b0 : (a0_0 == 4) = false := beq_eq_false_iff_ne.mpr c2
    have c2b1 : (a0_0 != 4) = true := bne_iff_ne.mpr c2
    obtain rfl := Option.some.inj H
    go_enter Try.func44, Try.ntmps44
    go_wp2_with (first | ((with_reducible refine gate_dst (N := 1) rfl ?_); refine box_event ?hg (N := 1) ?hd (cs := #[.int .i64 a0_0, .int .i64 a0_1, .int .i64 a0_2, .int .i64 a0_3, .int .i64 a0_4, .int .i64 a0_5, .int .i64 a0_6, .int .i64 a0_7, .int .i64 a0_8, .int .i64 a0_9, .bool a0_10, .bool a0_11, .bool a0_12, .int .i64 a0_13, .slice A0_14 l0_14.length c0_14, .slice A0_15 l0_15.length c0_15]) (t := 35) ?hr ?_; (case hd => rfl); (case hg => rfl); (case hr => first | (go_simp; done) | (go_simp; rfl)); intro gb145 hg w11 hbox hb; have n0_ := Aside0.mk (below_step (by repeat (first | (with_reducible first | exact HB.out | apply below_alloc | apply pw_below_drewN | apply below_drew1) | exact HB.out)) hb); have n1_ := Aside0.mk (hbox); have n2_ := Aside0.mk ((by rw [hg]; exact (below_size (by repeat (first | (with_reducible first | exact HB.out | apply below_alloc | apply pw_below_drewN | apply below_drew1) | exact HB.out))) : w.heap.size ≤ gb145)); have n3_ := Aside0.mk ((by rw [hg]; exact (below_size (by repeat (first | (with_reducible first | exact HB.out | apply below_alloc | apply pw_below_drewN | apply below_drew1) | exact HB.out))) : w.heap.size ≤ gb145)); clear HB; have HB := n0_; have BK145 := n1_; have GW145 := n2_; have GE145 := n3_; clear n0_ n1_ n2_ n3_; clear hb hbox hg; have hcz12_0 : w11.cell? ⟨gb145, 0, none⟩ = some (.int .i64 a0_0) := (blk_cell BK145.out 0).trans rfl; have hcz12_1 : w11.cell? ⟨gb145, 1, none⟩ = some (.int .i64 a0_1) := (blk_cell BK145.out 1).trans rfl; have hcz12_2 : w11.cell? ⟨gb145, 2, none⟩ = some (.int .i64 a0_2) := (blk_cell BK145.out 2).trans rfl; have hcz12_3 : w11.cell? ⟨gb145, 3, none⟩ = some (.int .i64 a0_3) := (blk_cell BK145.out 3).trans rfl; have hcz12_4 : w11.cell? ⟨gb145, 4, none⟩ = some (.int .i64 a0_4) := (blk_cell BK145.out 4).trans rfl; have hcz12_5 : w11.cell? ⟨gb145, 5, none⟩ = some (.int .i64 a0_5) := (blk_cell BK145.out 5).trans rfl; have hcz12_6 : w11.cell? ⟨gb145, 6, none⟩ = some (.int .i64 a0_6) := (blk_cell BK145.out 6).trans rfl; have hcz12_7 : w11.cell? ⟨gb145, 7, none⟩ = some (.int .i64 a0_7) := (blk_cell BK145.out 7).trans rfl; have hcz12_8 : w11.cell? ⟨gb145, 8, none⟩ = some (.int .i64 a0_8) := (blk_cell BK145.out 8).trans rfl; have hcz12_9 : w11.cell? ⟨gb145, 9, none⟩ = some (.int .i64 a0_9) := (blk_cell BK145.out 9).trans rfl; have hcz12_10 : w11.cell? ⟨gb145, 10, none⟩ = some (.bool a0_10) := (blk_cell BK145.out 10).trans rfl; have hcz12_11 : w11.cell? ⟨gb145, 11, none⟩ = some (.bool a0_11) := (blk_cell BK145.out 11).trans rfl; have hcz12_12 : w11.cell? ⟨gb145, 12, none⟩ = some (.bool a0_12) := (blk_cell BK145.out 12).trans rfl; have hcz12_13 : w11.cell? ⟨gb145, 13, none⟩ = some (.int .i64 a0_13) := (blk_cell BK145.out 13).trans rfl; have hcz12_14 : w11.cell? ⟨gb145, 14, none⟩ = some (.slice A0_14 l0_14.length c0_14) := (blk_cell BK145.out 14).trans rfl; have hcz12_15 : w11.cell? ⟨gb145, 15, none⟩ = some (.slice A0_15 l0_15.length c0_15) := (blk_cell BK145.out 15).trans rfl; have hfz12_0 := blk_frozen BK145.out 0; have hfz12_1 := blk_frozen BK145.out 1; have hfz12_2 := blk_frozen BK145.out 2; have hfz12_3 := blk_frozen BK145.out 3; have hfz12_4 := blk_frozen BK145.out 4; have hfz12_5 := blk_frozen BK145.out 5; have hfz12_6 := blk_frozen BK145.out 6; have hfz12_7 := blk_frozen BK145.out 7; have hfz12_8 := blk_frozen BK145.out 8; have hfz12_9 := blk_frozen BK145.out 9; have hfz12_10 := blk_frozen BK145.out 10; have hfz12_11 := blk_frozen BK145.out 11; have hfz12_12 := blk_frozen BK145.out 12; have hfz12_13 := blk_frozen BK145.out 13; have hfz12_14 := blk_frozen BK145.out 14; have hfz12_15 := blk_frozen BK145.out 15))
    go_ret
    exact ⟨by first | rfl | (simp [errW_none, errW_some] <;> rfl) | (simp [*, errW_none, errW_some] <;> rfl), by repeat (first | (with_reducible first | exact HB.out | apply below_alloc | apply pw_below_drewN | apply below_drew1 | refine below_set ?_ GE145.out) | exact HB.out)⟩

/-! ### throttle_Count: function 24 -/
def throttle_Count.l0 : Nat → List (S35) → Int → Int → Int → Option (Int)
  | 0, _, _, _, _ => none
  | k + 1, x0, x3, x6, x7 => if x7 < x6 then (if 0 ≤ x7 then (if x7 < (x0.length : Int) then ((throttle_Counts.f ((rd_T35 x0 x7).f0) ((rd_T35 x0 x7).f1) ((rd_T35 x0 x7).f2) ((rd_T35 x0 x7).f3) ((rd_T35 x0 x7).f4) ((rd_T35 x0 x7).f5) ((rd_T35 x0 x7).f6) ((rd_T35 x0 x7).f7) ((rd_T35 x0 x7).f8) ((rd_T35 x0 x7).f9) ((rd_T35 x0 x7).f10) ((rd_T35 x0 x7).f11) ((rd_T35 x0 x7).f12) ((rd_T35 x0 x7).f13) ((rd_T35 x0 x7).f14) ((rd_T35 x0 x7).f15)).bind fun t147 => (if t147 = true then (throttle_Count.l0 k x0 (wrap64 (x3 + 1)) x6 (wrap64 (x7 + 1))) else (throttle_Count.l0 k x0 x3 x6 (wrap64 (x7 + 1))))) else (none)) else (none)) else (some x3)
def throttle_Count.f (k : Nat) (l0 : List (S35)) : Option (Int) := throttle_Count.l0 k l0 0 (l0.length : Int) 0
theorem throttle_Count.mono_l : ∀ k, (∀ y0 y1 y2 y3, LeO (throttle_Count.l0 k y0 y1 y2 y3) (throttle_Count.l0 (k + 1) y0 y1 y2 y3))
  | 0 => fun _ _ _ _ r h => by simp [throttle_Count.l0] at h
  | k + 1 => by
    have ih0 := throttle_Count.mono_l k
    · intro y0 y1 y2 y3
      unfold throttle_Count.l0
      repeat' first
      | (with_reducible exact ih0 _ _ _ _)
      | (with_reducible exact LeO.refl _)
      | (with_reducible exact LeO.none _)
      | (with_reducible refine LeO.ite ?_ ?_)
      | (with_reducible refine LeO.bind ?_ (fun _ => ?_))
      | exact ih0 _ _ _ _
      | exact LeO.none _
      | refine LeO.ite ?_ ?_
      | refine LeO.bind ?_ (fun _ => ?_)
theorem throttle_Count.mono : ∀ a0 k, LeO (throttle_Count.f k a0) (throttle_Count.f (k + 1) a0) := by
  intro a0 k
  have ih0 := throttle_Count.mono_l k
  unfold throttle_Count.f
  repeat' first
      | (with_reducible exact ih0 _ _ _ _)
      | (with_reducible exact LeO.refl _)
      | (with_reducible exact LeO.none _)
      | (with_reducible refine LeO.ite ?_ ?_)
      | (with_reducible refine LeO.bind ?_ (fun _ => ?_))
      | exact ih0 _ _ _ _
      | exact LeO.none _
      | refine LeO.ite ?_ ?_
      | refine LeO.bind ?_ (fun _ => ?_)
set_option maxHeartbeats 8000000 in
set_option maxRecDepth 100000 in
theorem throttle_Count.calls (k : Nat) (A0 : Option Addr) (c0 : Nat) (l0 : List (S35)) (r : Int) (w : World) (hr0 : Kd.C k35 w A0 l0.length l0) (hc0 : l0.length ≤ c0) (h : throttle_Count.f k l0 = some r) :
    Calls Try.prog 24 #[.slice A0 l0.length c0] w fun e w' => e = .returned (.int .i64 r) ∧ Below w.heap.size w w' := by
  have hu35 := Try.underlying35
  have HR0 := Aside0.mk hr0
  have HC0 := Aside0.mk hc0
  clear hr0 hc0
  have HB := Aside0.mk (Below.refl w.heap.size w)
  have H : (throttle_Count.l0 k l0 0 (l0.length : Int) 0) = some r := h
  clear h
  have H' := Aside0.mk H
  clear H
  go_enter Try.func24, Try.ntmps24
  go_wp2
  go_loopg [3, 7] k (fun kq v3 v7 w' => ∃ (x3_1 : Int) (x7_1 : Int), v3 = .int .i64 x3_1 ∧ v7 = .int .i64 x7_1 ∧ Aside0 (throttle_Count.l0 kq l0 x3_1 (l0.length : Int) x7_1 = some r) ∧ Aside0 (kq ≤ k) ∧ Aside0 (Below w.heap.size w w'))
  case atStart => exact ⟨(0), (0), (by first | rfl | (simp; done) | (simp [*]; done)), (by first | rfl | (simp; done) | (simp [*]; done)), H', ⟨Nat.le_refl _⟩, ⟨by repeat (first | (with_reducible first | exact HB.out | apply below_alloc | apply pw_below_drewN | apply below_drew1) | exact HB.out)⟩⟩
  case round =>
    clear H'
    obtain ⟨x3_1, x7_1, rfl, rfl, HA, HK1, HB⟩ := hrel
    cases gk with
    | zero => exact absurd HA.out (by simp [throttle_Count.l0])
    | succ k1 =>
      have H := HA.out
      clear HA
      simp only [throttle_Count.l0] at H
      by_cases c2 : x7_1 < (l0.length : Int)
      · rw [if_pos c2] at H
        have c2b0 : decide (x7_1 < (l0.length : Int)) = true := decide_eq_true c2
        clear c2
        by_cases c3 : 0 ≤ x7_1
        · rw [if_pos c3] at H
          have c3b0 : decide (0 ≤ x7_1) = true := decide_eq_true c3
          clear c3
          by_cases c4 : x7_1 < (l0.length : Int)
          · rw [if_pos c4] at H
            have c4b0 : decide (x7_1 < (l0.length : Int)) = true := decide_eq_true c4
            clear c4
            replace H := Option.bind_eq_some_iff.mp H
            obtain ⟨t147, A50, H⟩ := H
            replace H : (if t147 = true then (throttle_Count.l0 k1 l0 (wrap64 (x3_1 + 1)) (l0.length : Int) (wrap64 (x7_1 + 1))) else (throttle_Count.l0 k1 l0 x3_1 (l0.length : Int) (wrap64 (x7_1 + 1)))) = some r := H
            have A5 := Aside0.mk A50
            clear A50
            by_cases c6 : t147 = true
            · subst c6
              have H1 : (throttle_Count.l0 k1 l0 (wrap64 (x3_1 + 1)) (l0.length : Int) (wrap64 (x7_1 + 1))) = some r := by rw [if_pos rfl] at H; exact H
              clear H
              have H := H1
              clear H1
              have H' := Aside0.mk H
              clear H
              have p146 : 0 ≤ (x7_1 : Int) := of_decide_eq_true (by first | (with_reducible assumption) | assumption)
              have q146 : x7_1 < (l0.length : Int) := of_decide_eq_true (by first | (with_reducible assumption) | assumption)
              obtain ⟨ad146, A146_14, c146_14, A146_15, c146_15, e146, hx146_0, hx146_1, hx146_2, hx146_3, hx146_4, hx146_5, hx146_6, hx146_7, hx146_8, hx146_9, hx146_10, hx146_11, hx146_12, hx146_13, hx146_14, hx146_15, hl146_14, hi146_14, hl146_15, hi146_15⟩ := at_T35 HR0.out x7_1 p146 q146
              cases e146
              replace hx146_0 := (HB.out.cell (World.block_lt_of_cell? w _ hx146_0)).trans hx146_0
              replace hx146_1 := (HB.out.cell (World.block_lt_of_cell? w _ hx146_1)).trans hx146_1
              replace hx146_2 := (HB.out.cell (World.block_lt_of_cell? w _ hx146_2)).trans hx146_2
              replace hx146_3 := (HB.out.cell (World.block_lt_of_cell? w _ hx146_3)).trans hx146_3
              replace hx146_4 := (HB.out.cell (World.block_lt_of_cell? w _ hx146_4)).trans hx146_4
              replace hx146_5 := (HB.out.cell (World.block_lt_of_cell? w _ hx146_5)).trans hx146_5
              replace hx146_6 := (HB.out.cell (World.block_lt_of_cell? w _ hx146_6)).trans hx146_6
              replace hx146_7 := (HB.out.cell (World.block_lt_of_cell? w _ hx146_7)).trans hx146_7
              replace hx146_8 := (HB.out.cell (World.block_lt_of_cell? w _ hx146_8)).trans hx146_8
              replace hx146_9 := (HB.out.cell (World.block_lt_of_cell? w _ hx146_9)).trans hx146_9
              replace hx146_10 := (HB.out.cell (World.block_lt_of_cell? w _ hx146_10)).trans hx146_10
              replace hx146_11 := (HB.out.cell (World.block_lt_of_cell? w _ hx146_11)).trans hx146_11
              replace hx146_12 := (HB.out.cell (World.block_lt_of_cell? w _ hx146_12)).trans hx146_12
              replace hx146_13 := (HB.out.cell (World.block_lt_of_cell? w _ hx146_13)).trans hx146_13
              replace hx146_14 := (HB.out.cell (World.block_lt_of_cell? w _ hx146_14)).trans hx146_14
              replace hx146_15 := (HB.out.cell (World.block_lt_of_cell? w _ hx146_15)).trans hx146_15
              have HR146_14 := Aside0.mk hi146_14
              have HC146_14 := Aside0.mk hl146_14
              clear hi146_14 hl146_14
              have HR146_15 := Aside0.mk hi146_15
              have HC146_15 := Aside0.mk hl146_15
              clear hi146_15 hl146_15
              replace p146 := eq_true p146
              replace q146 := eq_true q146
              go_wp2_with (first | ((with_reducible refine gate_callee (f := 44) rfl ?_); refine goesL_ (some 14) rfl rfl Try.func44 (by kernel_rfl) rfl #[.agg #[.int .i64 ((rd_T35 l0 x7_1).f0), .int .i64 ((rd_T35 l0 x7_1).f1), .int .i64 ((rd_T35 l0 x7_1).f2), .int .i64 ((rd_T35 l0 x7_1).f3), .int .i64 ((rd_T35 l0 x7_1).f4), .int .i64 ((rd_T35 l0 x7_1).f5), .int .i64 ((rd_T35 l0 x7_1).f6), .int .i64 ((rd_T35 l0 x7_1).f7), .int .i64 ((rd_T35 l0 x7_1).f8), .int .i64 ((rd_T35 l0 x7_1).f9), .bool ((rd_T35 l0 x7_1).f10), .bool ((rd_T35 l0 x7_1).f11), .bool ((rd_T35 l0 x7_1).f12), .int .i64 ((rd_T35 l0 x7_1).f13), .slice A146_14 ((rd_T35 l0 x7_1).f14).length c146_14, .slice A146_15 ((rd_T35 l0 x7_1).f15).length c146_15]] rfl (by (try simp only [List.map_toArray, List.map_cons, List.map_nil]); first | done | rfl | (simp only [List.length_drop, List.length_take]; rfl)) ?_; (with_reducible refine (throttle_Counts.calls ((rd_T35 l0 x7_1).f0) ((rd_T35 l0 x7_1).f1) ((rd_T35 l0 x7_1).f2) ((rd_T35 l0 x7_1).f3) ((rd_T35 l0 x7_1).f4) ((rd_T35 l0 x7_1).f5) ((rd_T35 l0 x7_1).f6) ((rd_T35 l0 x7_1).f7) ((rd_T35 l0 x7_1).f8) ((rd_T35 l0 x7_1).f9) ((rd_T35 l0 x7_1).f10) ((rd_T35 l0 x7_1).f11) ((rd_T35 l0 x7_1).f12) ((rd_T35 l0 x7_1).f13) _ _ ((rd_T35 l0 x7_1).f14) _ _ ((rd_T35 l0 x7_1).f15) true _ ?side1 ?side2 ?side3 ?side4 A5.out).mono ?_); (case side1 => repeat (first | exact (Kd.C_below HR146_14.out HB.out) | (with_reducible refine Kd.C_alloc ?_ _) | (with_reducible refine Kd.C_drewN ?_ _) | (with_reducible refine Kd.C_drew ?_))); (case side2 => exact HC146_14.out); (case side3 => repeat (first | exact (Kd.C_below HR146_15.out HB.out) | (with_reducible refine Kd.C_alloc ?_ _) | (with_reducible refine Kd.C_drewN ?_ _) | (with_reducible refine Kd.C_drew ?_))); (case side4 => exact HC146_15.out); rintro e w7 ⟨rfl, hb⟩; refine ⟨_, rfl, ?_⟩; have n0_ := Aside0.mk (below_step (by repeat (first | (with_reducible first | exact HB.out | apply below_alloc | apply pw_below_drewN | apply below_drew1) | exact HB.out)) hb); clear HB; have HB := n0_; clear n0_; (try clear hb); (try clear hb2); (try clear hk); (try clear hi)))
              go_roundg k1
              case measure => have := HK1.out; omega
              case rel => exact ⟨(wrap64 (x3_1 + 1)), (wrap64 (x7_1 + 1)), (by first | rfl | (simp; done) | (simp [*]; done)), (by first | rfl | (simp; done) | (simp [*]; done)), H', ⟨by have := HK1.out; omega⟩, ⟨by repeat (first | (with_reducible first | exact HB.out | apply below_alloc | apply pw_below_drewN | apply below_drew1) | exact HB.out)⟩⟩
            · replace c6 := Bool.eq_false_iff.mpr c6
              subst c6
              have H1 : (throttle_Count.l0 k1 l0 x3_1 (l0.length : Int) (wrap64 (x7_1 + 1))) = some r := by rw [if_neg (show ¬ (false = true) by decide)] at H; exact H
              clear H
              have H := H1
              clear H1
              have H' := Aside0.mk H
              clear H
              have p146 : 0 ≤ (x7_1 : Int) := of_decide_eq_true (by first | (with_reducible assumption) | assumption)
              have q146 : x7_1 < (l0.length : Int) := of_decide_eq_true (by first | (with_reducible assumption) | assumption)
              obtain ⟨ad146, A146_14, c146_14, A146_15, c146_15, e146, hx146_0, hx146_1, hx146_2, hx146_3, hx146_4, hx146_5, hx146_6, hx146_7, hx146_8, hx146_9, hx146_10, hx146_11, hx146_12, hx146_13, hx146_14, hx146_15, hl146_14, hi146_14, hl146_15, hi146_15⟩ := at_T35 HR0.out x7_1 p146 q146
              cases e146
              replace hx146_0 := (HB.out.cell (World.block_lt_of_cell? w _ hx146_0)).trans hx146_0
              replace hx146_1 := (HB.out.cell (World.block_lt_of_cell? w _ hx146_1)).trans hx146_1
              replace hx146_2 := (HB.out.cell (World.block_lt_of_cell? w _ hx146_2)).trans hx146_2
              replace hx146_3 := (HB.out.cell (World.block_lt_of_cell? w _ hx146_3)).trans hx146_3
              replace hx146_4 := (HB.out.cell (World.block_lt_of_cell? w _ hx146_4)).trans hx146_4
              replace hx146_5 := (HB.out.cell (World.block_lt_of_cell? w _ hx146_5)).trans hx146_5
              replace hx146_6 := (HB.out.cell (World.block_lt_of_cell? w _ hx146_6)).trans hx146_6
              replace hx146_7 := (HB.out.cell (World.block_lt_of_cell? w _ hx146_7)).trans hx146_7
              replace hx146_8 := (HB.out.cell (World.block_lt_of_cell? w _ hx146_8)).trans hx146_8
              replace hx146_9 := (HB.out.cell (World.block_lt_of_cell? w _ hx146_9)).trans hx146_9
              replace hx146_10 := (HB.out.cell (World.block_lt_of_cell? w _ hx146_10)).trans hx146_10
              replace hx146_11 := (HB.out.cell (World.block_lt_of_cell? w _ hx146_11)).trans hx146_11
              replace hx146_12 := (HB.out.cell (World.block_lt_of_cell? w _ hx146_12)).trans hx146_12
              replace hx146_13 := (HB.out.cell (World.block_lt_of_cell? w _ hx146_13)).trans hx146_13
              replace hx146_14 := (HB.out.cell (World.block_lt_of_cell? w _ hx146_14)).trans hx146_14
              replace hx146_15 := (HB.out.cell (World.block_lt_of_cell? w _ hx146_15)).trans hx146_15
              have HR146_14 := Aside0.mk hi146_14
              have HC146_14 := Aside0.mk hl146_14
              clear hi146_14 hl146_14
              have HR146_15 := Aside0.mk hi146_15
              have HC146_15 := Aside0.mk hl146_15
              clear hi146_15 hl146_15
              replace p146 := eq_true p146
              replace q146 := eq_true q146
              go_wp2_with (first | ((with_reducible refine gate_callee (f := 44) rfl ?_); refine goesL_ (some 14) rfl rfl Try.func44 (by kernel_rfl) rfl #[.agg #[.int .i64 ((rd_T35 l0 x7_1).f0), .int .i64 ((rd_T35 l0 x7_1).f1), .int .i64 ((rd_T35 l0 x7_1).f2), .int .i64 ((rd_T35 l0 x7_1).f3), .int .i64 ((rd_T35 l0 x7_1).f4), .int .i64 ((rd_T35 l0 x7_1).f5), .int .i64 ((rd_T35 l0 x7_1).f6), .int .i64 ((rd_T35 l0 x7_1).f7), .int .i64 ((rd_T35 l0 x7_1).f8), .int .i64 ((rd_T35 l0 x7_1).f9), .bool ((rd_T35 l0 x7_1).f10), .bool ((rd_T35 l0 x7_1).f11), .bool ((rd_T35 l0 x7_1).f12), .int .i64 ((rd_T35 l0 x7_1).f13), .slice A146_14 ((rd_T35 l0 x7_1).f14).length c146_14, .slice A146_15 ((rd_T35 l0 x7_1).f15).length c146_15]] rfl (by (try simp only [List.map_toArray, List.map_cons, List.map_nil]); first | done | rfl | (simp only [List.length_drop, List.length_take]; rfl)) ?_; (with_reducible refine (throttle_Counts.calls ((rd_T35 l0 x7_1).f0) ((rd_T35 l0 x7_1).f1) ((rd_T35 l0 x7_1).f2) ((rd_T35 l0 x7_1).f3) ((rd_T35 l0 x7_1).f4) ((rd_T35 l0 x7_1).f5) ((rd_T35 l0 x7_1).f6) ((rd_T35 l0 x7_1).f7) ((rd_T35 l0 x7_1).f8) ((rd_T35 l0 x7_1).f9) ((rd_T35 l0 x7_1).f10) ((rd_T35 l0 x7_1).f11) ((rd_T35 l0 x7_1).f12) ((rd_T35 l0 x7_1).f13) _ _ ((rd_T35 l0 x7_1).f14) _ _ ((rd_T35 l0 x7_1).f15) false _ ?side1 ?side2 ?side3 ?side4 A5.out).mono ?_); (case side1 => repeat (first | exact (Kd.C_below HR146_14.out HB.out) | (with_reducible refine Kd.C_alloc ?_ _) | (with_reducible refine Kd.C_drewN ?_ _) | (with_reducible refine Kd.C_drew ?_))); (case side2 => exact HC146_14.out); (case side3 => repeat (first | exact (Kd.C_below HR146_15.out HB.out) | (with_reducible refine Kd.C_alloc ?_ _) | (with_reducible refine Kd.C_drewN ?_ _) | (with_reducible refine Kd.C_drew ?_))); (case side4 => exact HC146_15.out); rintro e w8 ⟨rfl, hb⟩; refine ⟨_, rfl, ?_⟩; have n0_ := Aside0.mk (below_step (by repeat (first | (with_reducible first | exact HB.out | apply below_alloc | apply pw_below_drewN | apply below_drew1) | exact HB.out)) hb); clear HB; have HB := n0_; clear n0_; (try clear hb); (try clear hb2); (try clear hk); (try clear hi)))
              go_roundg k1
              case measure => have := HK1.out; omega
              case rel => exact ⟨(x3_1), (wrap64 (x7_1 + 1)), (by first | rfl | (simp; done) | (simp [*]; done)), (by first | rfl | (simp; done) | (simp [*]; done)), H', ⟨by have := HK1.out; omega⟩, ⟨by repeat (first | (with_reducible first | exact HB.out | apply below_alloc | apply pw_below_drewN | apply below_drew1) | exact HB.out)⟩⟩
          · rw [if_neg c4] at H
            exact absurd H (by simp)
        · rw [if_neg c3] at H
          exact absurd H (by simp)
      · rw [if_neg c2] at H
        have c2b0 : decide (x7_1 < (l0.length : Int)) = false := decide_eq_false c2
        clear c2
        obtain rfl := Option.some.inj H
        go_wp2
        go_ret
        exact ⟨by first | rfl | (simp [errW_none, errW_some] <;> rfl) | (simp [*, errW_none, errW_some] <;> rfl), by repeat (first | (with_reducible first | exact HB.out | apply below_alloc | apply pw_below_drewN | apply below_drew1) | exact HB.out)⟩

end Go.Proofs.Ytpomppjeknmciaa.PThrottleSum
