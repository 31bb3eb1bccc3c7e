-- Printed by a copy of the kit's printer that this session has patched (wip/tools/patch_print.py): the session's own text. Lean checks it.
import Derived.Test.YtpccpkpljlafcaaPTopSharesKeptx0
import Derived.Test.YtpccpkpljlafcaaPTopSharesKeptx2
namespace Go.Proofs.Ytpccpkpljlafcaa.PTopSharesKept
open Go.RowKit Go.Proofs.YtpccpkpljlafcaaW.PrintWords Go.Proofs.YtpccpkpljlafcaaW.PrintLast Go.Proofs.YtpccpkpljlafcaaW.PrintMore
attribute [local go_sem] max2_int min2_int max_two min_two max_three min_three max_four min_four   -- for this text's walks alone
set_option linter.unusedVariables false
set_option linter.unusedSimpArgs false
mutual
def reclaimplan_Check.l0 : Nat → List (S53) → Int → List (S35) → Int → Int → Option (Int)
 | 0, _, _, _, _, _ => none
 | k + 1, x1, x6, x14, x15, x16 => if x16 < x15 then (if 0 ≤ x16 then (if x16 < (x14.length : Int) then (if ((rd_T35 x14 x16).f0) < 0 then (reclaimplan_Check.j1 k x1 x6 x14 x15 x16 true ((rd_T35 x14 x16).f0) ((rd_T35 x14 x16).f1) ((rd_T35 x14 x16).f2) ((rd_T35 x14 x16).f3) ((rd_T35 x14 x16).f4) ((rd_T35 x14 x16).f5) ((rd_T35 x14 x16).f6)) else (if ((rd_T35 x14 x16).f0) ≥ 256 then (reclaimplan_Check.j1 k x1 x6 x14 x15 x16 true ((rd_T35 x14 x16).f0) ((rd_T35 x14 x16).f1) ((rd_T35 x14 x16).f2) ((rd_T35 x14 x16).f3) ((rd_T35 x14 x16).f4) ((rd_T35 x14 x16).f5) ((rd_T35 x14 x16).f6)) else (if ((rd_T35 x14 x16).f1) < (-1) then (reclaimplan_Check.j1 k x1 x6 x14 x15 x16 true ((rd_T35 x14 x16).f0) ((rd_T35 x14 x16).f1) ((rd_T35 x14 x16).f2) ((rd_T35 x14 x16).f3) ((rd_T35 x14 x16).f4) ((rd_T35 x14 x16).f5) ((rd_T35 x14 x16).f6)) else (reclaimplan_Check.j1 k x1 x6 x14 x15 x16 (decide (((rd_T35 x14 x16).f1) ≥ (x1.length : Int))) ((rd_T35 x14 x16).f0) ((rd_T35 x14 x16).f1) ((rd_T35 x14 x16).f2) ((rd_T35 x14 x16).f3) ((rd_T35 x14 x16).f4) ((rd_T35 x14 x16).f5) ((rd_T35 x14 x16).f6))))) else (none)) else (none)) else (some 0)
def reclaimplan_Check.j1 : Nat → List (S53) → Int → List (S35) → Int → Int → Bool → Int → Int → Int → Int → Int → Bool → Bool → Option (Int)
 | 0, _, _, _, _, _, _, _, _, _, _, _, _, _ => none
 | k + 1, x1, x6, x14, x15, x16, x20, x158000, x158001, x158002, x158003, x158004, x158005, x158006 => if x20 = true then (some 2) else (if x158000 ≤ x6 then (some 10) else (if x158003 < 0 then (reclaimplan_Check.j2 k x1 x14 x15 x16 true x158000 x158001 x158002 x158003 x158004 x158005 x158006) else (if x158003 > 10 then (reclaimplan_Check.j2 k x1 x14 x15 x16 true x158000 x158001 x158002 x158003 x158004 x158005 x158006) else (if x158002 < (-1) then (reclaimplan_Check.j2 k x1 x14 x15 x16 true x158000 x158001 x158002 x158003 x158004 x158005 x158006) else (reclaimplan_Check.j2 k x1 x14 x15 x16 (decide (x158004 < (-1))) x158000 x158001 x158002 x158003 x158004 x158005 x158006)))))
def reclaimplan_Check.j2 : Nat → List (S53) → List (S35) → Int → Int → Bool → Int → Int → Int → Int → Int → Bool → Bool → Option (Int)
 | 0, _, _, _, _, _, _, _, _, _, _, _, _ => none
 | k + 1, x1, x14, x15, x16, x46, x158000, x158001, x158002, x158003, x158004, x158005, x158006 => if x46 = true then (some 1) else (if x158003 = 0 then (if x158006 = true then (reclaimplan_Check.l0 k x1 x158000 x14 x15 (wrap64 (x16 + 1))) else (if x158002 = (-1) then (some 3) else (reclaimplan_Check.l0 k x1 x158000 x14 x15 (wrap64 (x16 + 1))))) else (reclaimplan_Check.l0 k x1 x158000 x14 x15 (wrap64 (x16 + 1))))
end
def reclaimplan_Check.f (k : Nat) (l0 : List (S35)) (l1 : List (S53)) : Option (Int) := (accounts_Check.f k l1).bind fun t155 => (if t155 = 0 then (reclaimplan_Check.l0 k l1 (-1) l0 (l0.length : Int) 0) else (some t155))
theorem reclaimplan_Check.mono_l : ∀ k, (∀ y0 y1 y2 y3 y4, LeO (reclaimplan_Check.l0 k y0 y1 y2 y3 y4) (reclaimplan_Check.l0 (k + 1) y0 y1 y2 y3 y4)) ∧ (∀ y0 y1 y2 y3 y4 y5 y6 y7 y8 y9 y10 y11 y12, LeO (reclaimplan_Check.j1 k y0 y1 y2 y3 y4 y5 y6 y7 y8 y9 y10 y11 y12) (reclaimplan_Check.j1 (k + 1) y0 y1 y2 y3 y4 y5 y6 y7 y8 y9 y10 y11 y12)) ∧ (∀ y0 y1 y2 y3 y4 y5 y6 y7 y8 y9 y10 y11, LeO (reclaimplan_Check.j2 k y0 y1 y2 y3 y4 y5 y6 y7 y8 y9 y10 y11) (reclaimplan_Check.j2 (k + 1) y0 y1 y2 y3 y4 y5 y6 y7 y8 y9 y10 y11))
 | 0 => ⟨fun _ _ _ _ _ r h => by simp [reclaimplan_Check.l0] at h, fun _ _ _ _ _ _ _ _ _ _ _ _ _ r h => by simp [reclaimplan_Check.j1] at h, fun _ _ _ _ _ _ _ _ _ _ _ _ r h => by simp [reclaimplan_Check.j2] at h⟩
 | k + 1 => by
  obtain ⟨ih0, ih1, ih2⟩ := reclaimplan_Check.mono_l k
  refine ⟨?_, ?_, ?_⟩
  ·intro y0 y1 y2 y3 y4
   unfold reclaimplan_Check.l0
   repeat' first
   | (with_reducible exact ih0 _ _ _ _ _)
   | (with_reducible exact ih1 _ _ _ _ _ _ _ _ _ _ _ _ _)
   | (with_reducible exact ih2 _ _ _ _ _ _ _ _ _ _ _ _)
   | (with_reducible exact accounts_Check.mono _ _)
   | (with_reducible exact LeO.refl _)
   | (with_reducible exact LeO.none _)
   | (with_reducible refine LeO.ite ?_ ?_)
   | (with_reducible refine LeO.bind ?_ (fun _ => ?_))
   | exact ih0 _ _ _ _ _
   | exact ih1 _ _ _ _ _ _ _ _ _ _ _ _ _
   | exact ih2 _ _ _ _ _ _ _ _ _ _ _ _
   | exact accounts_Check.mono _ _
   | exact LeO.none _
   | refine LeO.ite ?_ ?_
   | refine LeO.bind ?_ (fun _ => ?_)
  ·intro y0 y1 y2 y3 y4 y5 y6 y7 y8 y9 y10 y11 y12
   unfold reclaimplan_Check.j1
   repeat' first
   | (with_reducible exact ih0 _ _ _ _ _)
   | (with_reducible exact ih1 _ _ _ _ _ _ _ _ _ _ _ _ _)
   | (with_reducible exact ih2 _ _ _ _ _ _ _ _ _ _ _ _)
   | (with_reducible exact accounts_Check.mono _ _)
   | (with_reducible exact LeO.refl _)
   | (with_reducible exact LeO.none _)
   | (with_reducible refine LeO.ite ?_ ?_)
   | (with_reducible refine LeO.bind ?_ (fun _ => ?_))
   | exact ih0 _ _ _ _ _
   | exact ih1 _ _ _ _ _ _ _ _ _ _ _ _ _
   | exact ih2 _ _ _ _ _ _ _ _ _ _ _ _
   | exact accounts_Check.mono _ _
   | exact LeO.none _
   | refine LeO.ite ?_ ?_
   | refine LeO.bind ?_ (fun _ => ?_)
  ·intro y0 y1 y2 y3 y4 y5 y6 y7 y8 y9 y10 y11
   unfold reclaimplan_Check.j2
   repeat' first
   | (with_reducible exact ih0 _ _ _ _ _)
   | (with_reducible exact ih1 _ _ _ _ _ _ _ _ _ _ _ _ _)
   | (with_reducible exact ih2 _ _ _ _ _ _ _ _ _ _ _ _)
   | (with_reducible exact accounts_Check.mono _ _)
   | (with_reducible exact LeO.refl _)
   | (with_reducible exact LeO.none _)
   | (with_reducible refine LeO.ite ?_ ?_)
   | (with_reducible refine LeO.bind ?_ (fun _ => ?_))
   | exact ih0 _ _ _ _ _
   | exact ih1 _ _ _ _ _ _ _ _ _ _ _ _ _
   | exact ih2 _ _ _ _ _ _ _ _ _ _ _ _
   | exact accounts_Check.mono _ _
   | exact LeO.none _
   | refine LeO.ite ?_ ?_
   | refine LeO.bind ?_ (fun _ => ?_)
theorem reclaimplan_Check.mono : ∀ a0 a1 k, LeO (reclaimplan_Check.f k a0 a1) (reclaimplan_Check.f (k + 1) a0 a1) := by
 intro a0 a1 k
 obtain ⟨ih0, ih1, ih2⟩ := reclaimplan_Check.mono_l k
 unfold reclaimplan_Check.f
 repeat' first
   | (with_reducible exact ih0 _ _ _ _ _)
   | (with_reducible exact ih1 _ _ _ _ _ _ _ _ _ _ _ _ _)
   | (with_reducible exact ih2 _ _ _ _ _ _ _ _ _ _ _ _)
   | (with_reducible exact accounts_Check.mono _ _)
   | (with_reducible exact LeO.refl _)
   | (with_reducible exact LeO.none _)
   | (with_reducible refine LeO.ite ?_ ?_)
   | (with_reducible refine LeO.bind ?_ (fun _ => ?_))
   | exact ih0 _ _ _ _ _
   | exact ih1 _ _ _ _ _ _ _ _ _ _ _ _ _
   | exact ih2 _ _ _ _ _ _ _ _ _ _ _ _
   | exact accounts_Check.mono _ _
   | exact LeO.none _
   | refine LeO.ite ?_ ?_
   | refine LeO.bind ?_ (fun _ => ?_)
set_option maxHeartbeats 8000000 in
set_option maxRecDepth 100000 in
theorem reclaimplan_Check.calls (k : Nat) (A0 : Option Addr) (c0 : Nat) (l0 : List (S35)) (A1 : Option Addr) (c1 : Nat) (l1 : List (S53)) (r : Int) (w : World) (hr0 : Kd.C k35 w A0 l0.length l0) (hc0 : l0.length ≤ c0) (hr1 : Kd.C k53 w A1 l1.length l1) (hc1 : l1.length ≤ c1) (h : reclaimplan_Check.f k l0 l1 = some r) :
  Calls Try.prog 7 #[.slice A0 l0.length c0, .slice A1 l1.length c1] w fun e w' => e = .returned (.int .i64 r) ∧ Below w.heap.size w w' := by
 have hu35 := Try.underlying35
 have HR0 := Aside0.mk hr0
 have HC0 := Aside0.mk hc0
 clear hr0 hc0
 have HR1 := Aside0.mk hr1
 have HC1 := Aside0.mk hc1
 clear hr1 hc1
 have HB := Aside0.mk (Below.refl w.heap.size w)
 have H : ((accounts_Check.f k l1).bind fun t155 => (if t155 = 0 then (reclaimplan_Check.l0 k l1 (-1) l0 (l0.length : Int) 0) else (some t155))) = some r := h
 clear h
 replace H := Option.bind_eq_some_iff.mp H
 obtain ⟨t155, A30, H⟩ := H
 replace H : (if t155 = 0 then (reclaimplan_Check.l0 k l1 (-1) l0 (l0.length : Int) 0) else (some t155)) = some r := H
 have A3 := Aside0.mk A30
 clear A30
 by_cases c4 : t155 = 0
 ·rw [if_pos c4] at H
  have c4b0 : (t155 == 0) = true := beq_iff_eq.mpr c4
  have c4b1 : (t155 != 0) = false := bne_eq_false_iff_eq.mpr c4
  clear c4
  have H' := Aside0.mk H
  clear H
  go_enter Try.func7, Try.ntmps7
  go_wp2_with (first | ((with_reducible refine gate_callee (f := 23) rfl ?_); refine goesL_ (some 10) rfl rfl Try.func23 (by kernel_rfl) rfl #[.slice A1 l1.length c1] rfl (by (try simp only [List.map_toArray, List.map_cons, List.map_nil]); first | done | rfl | (simp only [List.length_drop, List.length_take]; rfl)) ?_; (with_reducible refine (accounts_Check.calls k _ _ l1 t155 _ ?side1 ?side2 A3.out).mono ?_); (case side1 => repeat (first | exact HR1.out | (with_reducible refine Kd.C_alloc ?_ _) | (with_reducible refine Kd.C_drewN ?_ _) | (with_reducible refine Kd.C_drew ?_))); (case side2 => exact HC1.out); rintro e w5 ⟨rfl, hb⟩; refine ⟨_, rfl, ?_⟩; have n0_ := Aside0.mk (below_step (by repeat (first | (with_reducible first | exact HB.out | apply below_alloc | apply pw_below_drewN | apply below_drew1) | exact HB.out)) hb); clear HB; have HB := n0_; clear n0_; (try clear hb); (try clear hb2); (try clear hk); (try clear hi)))
  go_loopg [6, 16] k (fun kq v6 v16 w' => ∃ (x6_1 : Int) (x16_1 : Int), v6 = .int .i64 x6_1 ∧ v16 = .int .i64 x16_1 ∧ Aside0 (reclaimplan_Check.l0 kq l1 x6_1 l0 (l0.length : Int) x16_1 = some r) ∧ Aside0 (kq ≤ k) ∧ Aside0 (Below w.heap.size w w'))
  case atStart => exact ⟨((-1)), (0), (by first | rfl | (simp; done) | (simp [*]; done)), (by first | rfl | (simp; done) | (simp [*]; done)), H', ⟨Nat.le_refl _⟩, ⟨by repeat (first | (with_reducible first | exact HB.out | apply below_alloc | apply pw_below_drewN | apply below_drew1) | exact HB.out)⟩⟩
  case round =>
   clear H'
   try clear c1
   try clear c2
   try clear p2
   try clear c4
   try clear c4b0
   try clear c4b1
   obtain ⟨x6_1, x16_1, rfl, rfl, HA, HK1, HB⟩ := hrel
   cases gk with
   | zero => exact absurd HA.out (by simp [reclaimplan_Check.l0])
   | succ k1 =>
    have H := HA.out
    clear HA
    simp only [reclaimplan_Check.l0] at H
    by_cases c6 : x16_1 < (l0.length : Int)
    ·rw [if_pos c6] at H
     have c6b0 : decide (x16_1 < (l0.length : Int)) = true := decide_eq_true c6
     clear c6
     by_cases c7 : 0 ≤ x16_1
     ·rw [if_pos c7] at H
      have c7b0 : decide (0 ≤ x16_1) = true := decide_eq_true c7
      clear c7
      by_cases c8 : x16_1 < (l0.length : Int)
      ·rw [if_pos c8] at H
       have c8b0 : decide (x16_1 < (l0.length : Int)) = true := decide_eq_true c8
       clear c8
       have HC9 := Aside0.mk H
       clear H
       have p156 : 0 ≤ (x16_1 : Int) := of_decide_eq_true (by first | (with_reducible assumption) | assumption)
       have q156 : x16_1 < (l0.length : Int) := of_decide_eq_true (by first | (with_reducible assumption) | assumption)
       obtain ⟨ad156, e156, hx156_0, hx156_1, hx156_2, hx156_3, hx156_4, hx156_5, hx156_6⟩ := at_T35 HR0.out x16_1 p156 q156
       cases e156
       replace hx156_0 := (HB.out.cell (World.block_lt_of_cell? w _ hx156_0)).trans hx156_0
       replace hx156_1 := (HB.out.cell (World.block_lt_of_cell? w _ hx156_1)).trans hx156_1
       replace hx156_2 := (HB.out.cell (World.block_lt_of_cell? w _ hx156_2)).trans hx156_2
       replace hx156_3 := (HB.out.cell (World.block_lt_of_cell? w _ hx156_3)).trans hx156_3
       replace hx156_4 := (HB.out.cell (World.block_lt_of_cell? w _ hx156_4)).trans hx156_4
       replace hx156_5 := (HB.out.cell (World.block_lt_of_cell? w _ hx156_5)).trans hx156_5
       replace hx156_6 := (HB.out.cell (World.block_lt_of_cell? w _ hx156_6)).trans hx156_6
       replace p156 := eq_true p156
       replace q156 := eq_true q156
       go_upto_region 8 with (first | ((with_reducible refine gate_dst (N := 8) rfl ?_); (try (refine gate_guard (by rfl) ?_; dsimp only)); refine box_event ?hg (N := 8) ?hd (cs := #[.int .i64 0, .int .i64 0, .int .i64 0, .int .i64 0, .int .i64 0, .bool false, .bool false]) (t := 35) ?hr ?_; (case hd => rfl); (case hg => rfl); (case hr => first | (go_simp; done) | (go_simp; rfl)); intro gb157 hg w10 hbox hb; have n0_ := Aside0.mk (below_step (by repeat (first | (with_reducible first | exact HB.out | apply below_alloc | apply pw_below_drewN | apply below_drew1) | exact HB.out)) hb); have n1_ := Aside0.mk (hbox); have n2_ := Aside0.mk ((by rw [hg]; exact (below_size (by repeat (first | (with_reducible first | exact HB.out | apply below_alloc | apply pw_below_drewN | apply below_drew1) | exact HB.out))) : w.heap.size ≤ gb157)); have n3_ := Aside0.mk ((by rw [hg]; exact (below_size (by repeat (first | (with_reducible first | exact HB.out | apply below_alloc | apply pw_below_drewN | apply below_drew1) | exact HB.out))) : w.heap.size ≤ gb157)); clear HB; have HB := n0_; have BK157 := n1_; have GW157 := n2_; have GE157 := n3_; clear n0_ n1_ n2_ n3_; clear hb hbox hg; have hcz11_0 : w10.cell? ⟨gb157, 0, none⟩ = some (.int .i64 0) := (blk_cell BK157.out 0).trans rfl; have hcz11_1 : w10.cell? ⟨gb157, 1, none⟩ = some (.int .i64 0) := (blk_cell BK157.out 1).trans rfl; have hcz11_2 : w10.cell? ⟨gb157, 2, none⟩ = some (.int .i64 0) := (blk_cell BK157.out 2).trans rfl; have hcz11_3 : w10.cell? ⟨gb157, 3, none⟩ = some (.int .i64 0) := (blk_cell BK157.out 3).trans rfl; have hcz11_4 : w10.cell? ⟨gb157, 4, none⟩ = some (.int .i64 0) := (blk_cell BK157.out 4).trans rfl; have hcz11_5 : w10.cell? ⟨gb157, 5, none⟩ = some (.bool false) := (blk_cell BK157.out 5).trans rfl; have hcz11_6 : w10.cell? ⟨gb157, 6, none⟩ = some (.bool false) := (blk_cell BK157.out 6).trans rfl; have hfz11_0 := blk_frozen BK157.out 0; have hfz11_1 := blk_frozen BK157.out 1; have hfz11_2 := blk_frozen BK157.out 2; have hfz11_3 := blk_frozen BK157.out 3; have hfz11_4 := blk_frozen BK157.out 4; have hfz11_5 := blk_frozen BK157.out 5; have hfz11_6 := blk_frozen BK157.out 6))
       (try simp only [Act.put, List.setIfInBounds_toArray, List.set_cons_zero, List.set_cons_succ])
       go_cut [20] (fun v20 wc => ∃ (kq : Nat) (x20_8 : Bool), v20 = .bool x20_8 ∧ Aside0 (reclaimplan_Check.j1 kq l1 x6_1 l0 (l0.length : Int) x16_1 x20_8 ((rd_T35 l0 x16_1).f0) ((rd_T35 l0 x16_1).f1) ((rd_T35 l0 x16_1).f2) ((rd_T35 l0 x16_1).f3) ((rd_T35 l0 x16_1).f4) ((rd_T35 l0 x16_1).f5) ((rd_T35 l0 x16_1).f6) = some r) ∧ Aside0 (kq ≤ k1) ∧ Aside0 (wc.heap[gb157]? = some (.cells #[.int .i64 ((rd_T35 l0 x16_1).f0), .int .i64 ((rd_T35 l0 x16_1).f1), .int .i64 ((rd_T35 l0 x16_1).f2), .int .i64 ((rd_T35 l0 x16_1).f3), .int .i64 ((rd_T35 l0 x16_1).f4), .bool ((rd_T35 l0 x16_1).f5), .bool ((rd_T35 l0 x16_1).f6)] 35 (0, 0))) ∧ Aside0 (Below w.heap.size w wc))
       case first =>
        have H := HC9.out
        clear HC9
        by_cases c12 : ((rd_T35 l0 x16_1).f0) < 0
        ·rw [if_pos c12] at H
         have c12b0 : decide (((rd_T35 l0 x16_1).f0) < 0) = true := decide_eq_true c12
         clear c12
         (first | rw [c12b0] | (simp only [i64_w, i32_w]; rw [c12b0]) | skip)
         have H' := Aside0.mk H
         clear H
         have hcz13_0 : w10.cell? ⟨gb157, 0, none⟩ = some (.int .i64 0) := (blk_cell BK157.out 0).trans rfl
         have hcz13_1 : w10.cell? ⟨gb157, 1, none⟩ = some (.int .i64 0) := (blk_cell BK157.out 1).trans rfl
         have hcz13_2 : w10.cell? ⟨gb157, 2, none⟩ = some (.int .i64 0) := (blk_cell BK157.out 2).trans rfl
         have hcz13_3 : w10.cell? ⟨gb157, 3, none⟩ = some (.int .i64 0) := (blk_cell BK157.out 3).trans rfl
         have hcz13_4 : w10.cell? ⟨gb157, 4, none⟩ = some (.int .i64 0) := (blk_cell BK157.out 4).trans rfl
         have hcz13_5 : w10.cell? ⟨gb157, 5, none⟩ = some (.bool false) := (blk_cell BK157.out 5).trans rfl
         have hcz13_6 : w10.cell? ⟨gb157, 6, none⟩ = some (.bool false) := (blk_cell BK157.out 6).trans rfl
         have hfz13_0 := blk_frozen BK157.out 0
         have hfz13_1 := blk_frozen BK157.out 1
         have hfz13_2 := blk_frozen BK157.out 2
         have hfz13_3 := blk_frozen BK157.out 3
         have hfz13_4 := blk_frozen BK157.out 4
         have hfz13_5 := blk_frozen BK157.out 5
         have hfz13_6 := blk_frozen BK157.out 6
         go_wp2
         go_meet
         case rel => exact ⟨_, (true), (by first | rfl | (simp; done) | (simp [*]; done)), H', ⟨by have := HK1.out; first | omega | exact Nat.le_refl _⟩, ⟨by (with_reducible repeat (first | refine blk_drewN ?_ _ | refine blk_drew ?_ | refine blk_alloc ?_ _)); refine blk_put (cs := #[.int .i64 ((rd_T35 l0 x16_1).f0), .int .i64 ((rd_T35 l0 x16_1).f1), .int .i64 ((rd_T35 l0 x16_1).f2), .int .i64 ((rd_T35 l0 x16_1).f3), .int .i64 ((rd_T35 l0 x16_1).f4), .bool ((rd_T35 l0 x16_1).f5), .bool false]) ?_ 6 _ rfl; (with_reducible repeat (first | refine blk_drewN ?_ _ | refine blk_drew ?_ | refine blk_alloc ?_ _)); refine blk_put (cs := #[.int .i64 ((rd_T35 l0 x16_1).f0), .int .i64 ((rd_T35 l0 x16_1).f1), .int .i64 ((rd_T35 l0 x16_1).f2), .int .i64 ((rd_T35 l0 x16_1).f3), .int .i64 ((rd_T35 l0 x16_1).f4), .bool false, .bool false]) ?_ 5 _ rfl; (with_reducible repeat (first | refine blk_drewN ?_ _ | refine blk_drew ?_ | refine blk_alloc ?_ _)); refine blk_put (cs := #[.int .i64 ((rd_T35 l0 x16_1).f0), .int .i64 ((rd_T35 l0 x16_1).f1), .int .i64 ((rd_T35 l0 x16_1).f2), .int .i64 ((rd_T35 l0 x16_1).f3), .int .i64 0, .bool false, .bool false]) ?_ 4 _ rfl; (with_reducible repeat (first | refine blk_drewN ?_ _ | refine blk_drew ?_ | refine blk_alloc ?_ _)); refine blk_put (cs := #[.int .i64 ((rd_T35 l0 x16_1).f0), .int .i64 ((rd_T35 l0 x16_1).f1), .int .i64 ((rd_T35 l0 x16_1).f2), .int .i64 0, .int .i64 0, .bool false, .bool false]) ?_ 3 _ rfl; (with_reducible repeat (first | refine blk_drewN ?_ _ | refine blk_drew ?_ | refine blk_alloc ?_ _)); refine blk_put (cs := #[.int .i64 ((rd_T35 l0 x16_1).f0), .int .i64 ((rd_T35 l0 x16_1).f1), .int .i64 0, .int .i64 0, .int .i64 0, .bool false, .bool false]) ?_ 2 _ rfl; (with_reducible repeat (first | refine blk_drewN ?_ _ | refine blk_drew ?_ | refine blk_alloc ?_ _)); refine blk_put (cs := #[.int .i64 ((rd_T35 l0 x16_1).f0), .int .i64 0, .int .i64 0, .int .i64 0, .int .i64 0, .bool false, .bool false]) ?_ 1 _ rfl; (with_reducible repeat (first | refine blk_drewN ?_ _ | refine blk_drew ?_ | refine blk_alloc ?_ _)); refine blk_put (cs := #[.int .i64 0, .int .i64 0, .int .i64 0, .int .i64 0, .int .i64 0, .bool false, .bool false]) ?_ 0 _ rfl; (with_reducible repeat (first | refine blk_drewN ?_ _ | refine blk_drew ?_ | refine blk_alloc ?_ _)); exact BK157.out⟩, ⟨by repeat (first | (with_reducible first | exact HB.out | apply below_alloc | apply pw_below_drewN | apply below_drew1 | refine below_set ?_ GE157.out) | exact HB.out)⟩⟩
        ·rw [if_neg c12] at H
         have c12b0 : decide (((rd_T35 l0 x16_1).f0) < 0) = false := decide_eq_false c12
         clear c12
         (first | rw [c12b0] | (simp only [i64_w, i32_w]; rw [c12b0]) | skip)
         by_cases c14 : ((rd_T35 l0 x16_1).f0) ≥ 256
         ·rw [if_pos c14] at H
          have c14b0 : decide (256 ≤ ((rd_T35 l0 x16_1).f0)) = true := decide_eq_true c14
          clear c14
          have H' := Aside0.mk H
          clear H
          have hcz15_0 : w10.cell? ⟨gb157, 0, none⟩ = some (.int .i64 0) := (blk_cell BK157.out 0).trans rfl
          have hcz15_1 : w10.cell? ⟨gb157, 1, none⟩ = some (.int .i64 0) := (blk_cell BK157.out 1).trans rfl
          have hcz15_2 : w10.cell? ⟨gb157, 2, none⟩ = some (.int .i64 0) := (blk_cell BK157.out 2).trans rfl
          have hcz15_3 : w10.cell? ⟨gb157, 3, none⟩ = some (.int .i64 0) := (blk_cell BK157.out 3).trans rfl
          have hcz15_4 : w10.cell? ⟨gb157, 4, none⟩ = some (.int .i64 0) := (blk_cell BK157.out 4).trans rfl
          have hcz15_5 : w10.cell? ⟨gb157, 5, none⟩ = some (.bool false) := (blk_cell BK157.out 5).trans rfl
          have hcz15_6 : w10.cell? ⟨gb157, 6, none⟩ = some (.bool false) := (blk_cell BK157.out 6).trans rfl
          have hfz15_0 := blk_frozen BK157.out 0
          have hfz15_1 := blk_frozen BK157.out 1
          have hfz15_2 := blk_frozen BK157.out 2
          have hfz15_3 := blk_frozen BK157.out 3
          have hfz15_4 := blk_frozen BK157.out 4
          have hfz15_5 := blk_frozen BK157.out 5
          have hfz15_6 := blk_frozen BK157.out 6
          go_wp2
          go_meet
          case rel => exact ⟨_, (true), (by first | rfl | (simp; done) | (simp [*]; done)), H', ⟨by have := HK1.out; first | omega | exact Nat.le_refl _⟩, ⟨by (with_reducible repeat (first | refine blk_drewN ?_ _ | refine blk_drew ?_ | refine blk_alloc ?_ _)); refine blk_put (cs := #[.int .i64 ((rd_T35 l0 x16_1).f0), .int .i64 ((rd_T35 l0 x16_1).f1), .int .i64 ((rd_T35 l0 x16_1).f2), .int .i64 ((rd_T35 l0 x16_1).f3), .int .i64 ((rd_T35 l0 x16_1).f4), .bool ((rd_T35 l0 x16_1).f5), .bool false]) ?_ 6 _ rfl; (with_reducible repeat (first | refine blk_drewN ?_ _ | refine blk_drew ?_ | refine blk_alloc ?_ _)); refine blk_put (cs := #[.int .i64 ((rd_T35 l0 x16_1).f0), .int .i64 ((rd_T35 l0 x16_1).f1), .int .i64 ((rd_T35 l0 x16_1).f2), .int .i64 ((rd_T35 l0 x16_1).f3), .int .i64 ((rd_T35 l0 x16_1).f4), .bool false, .bool false]) ?_ 5 _ rfl; (with_reducible repeat (first | refine blk_drewN ?_ _ | refine blk_drew ?_ | refine blk_alloc ?_ _)); refine blk_put (cs := #[.int .i64 ((rd_T35 l0 x16_1).f0), .int .i64 ((rd_T35 l0 x16_1).f1), .int .i64 ((rd_T35 l0 x16_1).f2), .int .i64 ((rd_T35 l0 x16_1).f3), .int .i64 0, .bool false, .bool false]) ?_ 4 _ rfl; (with_reducible repeat (first | refine blk_drewN ?_ _ | refine blk_drew ?_ | refine blk_alloc ?_ _)); refine blk_put (cs := #[.int .i64 ((rd_T35 l0 x16_1).f0), .int .i64 ((rd_T35 l0 x16_1).f1), .int .i64 ((rd_T35 l0 x16_1).f2), .int .i64 0, .int .i64 0, .bool false, .bool false]) ?_ 3 _ rfl; (with_reducible repeat (first | refine blk_drewN ?_ _ | refine blk_drew ?_ | refine blk_alloc ?_ _)); refine blk_put (cs := #[.int .i64 ((rd_T35 l0 x16_1).f0), .int .i64 ((rd_T35 l0 x16_1).f1), .int .i64 0, .int .i64 0, .int .i64 0, .bool false, .bool false]) ?_ 2 _ rfl; (with_reducible repeat (first | refine blk_drewN ?_ _ | refine blk_drew ?_ | refine blk_alloc ?_ _)); refine blk_put (cs := #[.int .i64 ((rd_T35 l0 x16_1).f0), .int .i64 0, .int .i64 0, .int .i64 0, .int .i64 0, .bool false, .bool false]) ?_ 1 _ rfl; (with_reducible repeat (first | refine blk_drewN ?_ _ | refine blk_drew ?_ | refine blk_alloc ?_ _)); refine blk_put (cs := #[.int .i64 0, .int .i64 0, .int .i64 0, .int .i64 0, .int .i64 0, .bool false, .bool false]) ?_ 0 _ rfl; (with_reducible repeat (first | refine blk_drewN ?_ _ | refine blk_drew ?_ | refine blk_alloc ?_ _)); exact BK157.out⟩, ⟨by repeat (first | (with_reducible first | exact HB.out | apply below_alloc | apply pw_below_drewN | apply below_drew1 | refine below_set ?_ GE157.out) | exact HB.out)⟩⟩
         ·rw [if_neg c14] at H
          have c14b0 : decide (256 ≤ ((rd_T35 l0 x16_1).f0)) = false := decide_eq_false c14
          clear c14
          by_cases c16 : ((rd_T35 l0 x16_1).f1) < (-1)
          ·rw [if_pos c16] at H
           have c16b0 : decide (((rd_T35 l0 x16_1).f1) < (-1)) = true := decide_eq_true c16
           clear c16
           have H' := Aside0.mk H
           clear H
           have hcz17_0 : w10.cell? ⟨gb157, 0, none⟩ = some (.int .i64 0) := (blk_cell BK157.out 0).trans rfl
           have hcz17_1 : w10.cell? ⟨gb157, 1, none⟩ = some (.int .i64 0) := (blk_cell BK157.out 1).trans rfl
           have hcz17_2 : w10.cell? ⟨gb157, 2, none⟩ = some (.int .i64 0) := (blk_cell BK157.out 2).trans rfl
           have hcz17_3 : w10.cell? ⟨gb157, 3, none⟩ = some (.int .i64 0) := (blk_cell BK157.out 3).trans rfl
           have hcz17_4 : w10.cell? ⟨gb157, 4, none⟩ = some (.int .i64 0) := (blk_cell BK157.out 4).trans rfl
           have hcz17_5 : w10.cell? ⟨gb157, 5, none⟩ = some (.bool false) := (blk_cell BK157.out 5).trans rfl
           have hcz17_6 : w10.cell? ⟨gb157, 6, none⟩ = some (.bool false) := (blk_cell BK157.out 6).trans rfl
           have hfz17_0 := blk_frozen BK157.out 0
           have hfz17_1 := blk_frozen BK157.out 1
           have hfz17_2 := blk_frozen BK157.out 2
           have hfz17_3 := blk_frozen BK157.out 3
           have hfz17_4 := blk_frozen BK157.out 4
           have hfz17_5 := blk_frozen BK157.out 5
           have hfz17_6 := blk_frozen BK157.out 6
           go_wp2
           go_meet
           case rel => exact ⟨_, (true), (by first | rfl | (simp; done) | (simp [*]; done)), H', ⟨by have := HK1.out; first | omega | exact Nat.le_refl _⟩, ⟨by (with_reducible repeat (first | refine blk_drewN ?_ _ | refine blk_drew ?_ | refine blk_alloc ?_ _)); refine blk_put (cs := #[.int .i64 ((rd_T35 l0 x16_1).f0), .int .i64 ((rd_T35 l0 x16_1).f1), .int .i64 ((rd_T35 l0 x16_1).f2), .int .i64 ((rd_T35 l0 x16_1).f3), .int .i64 ((rd_T35 l0 x16_1).f4), .bool ((rd_T35 l0 x16_1).f5), .bool false]) ?_ 6 _ rfl; (with_reducible repeat (first | refine blk_drewN ?_ _ | refine blk_drew ?_ | refine blk_alloc ?_ _)); refine blk_put (cs := #[.int .i64 ((rd_T35 l0 x16_1).f0), .int .i64 ((rd_T35 l0 x16_1).f1), .int .i64 ((rd_T35 l0 x16_1).f2), .int .i64 ((rd_T35 l0 x16_1).f3), .int .i64 ((rd_T35 l0 x16_1).f4), .bool false, .bool false]) ?_ 5 _ rfl; (with_reducible repeat (first | refine blk_drewN ?_ _ | refine blk_drew ?_ | refine blk_alloc ?_ _)); refine blk_put (cs := #[.int .i64 ((rd_T35 l0 x16_1).f0), .int .i64 ((rd_T35 l0 x16_1).f1), .int .i64 ((rd_T35 l0 x16_1).f2), .int .i64 ((rd_T35 l0 x16_1).f3), .int .i64 0, .bool false, .bool false]) ?_ 4 _ rfl; (with_reducible repeat (first | refine blk_drewN ?_ _ | refine blk_drew ?_ | refine blk_alloc ?_ _)); refine blk_put (cs := #[.int .i64 ((rd_T35 l0 x16_1).f0), .int .i64 ((rd_T35 l0 x16_1).f1), .int .i64 ((rd_T35 l0 x16_1).f2), .int .i64 0, .int .i64 0, .bool false, .bool false]) ?_ 3 _ rfl; (with_reducible repeat (first | refine blk_drewN ?_ _ | refine blk_drew ?_ | refine blk_alloc ?_ _)); refine blk_put (cs := #[.int .i64 ((rd_T35 l0 x16_1).f0), .int .i64 ((rd_T35 l0 x16_1).f1), .int .i64 0, .int .i64 0, .int .i64 0, .bool false, .bool false]) ?_ 2 _ rfl; (with_reducible repeat (first | refine blk_drewN ?_ _ | refine blk_drew ?_ | refine blk_alloc ?_ _)); refine blk_put (cs := #[.int .i64 ((rd_T35 l0 x16_1).f0), .int .i64 0, .int .i64 0, .int .i64 0, .int .i64 0, .bool false, .bool false]) ?_ 1 _ rfl; (with_reducible repeat (first | refine blk_drewN ?_ _ | refine blk_drew ?_ | refine blk_alloc ?_ _)); refine blk_put (cs := #[.int .i64 0, .int .i64 0, .int .i64 0, .int .i64 0, .int .i64 0, .bool false, .bool false]) ?_ 0 _ rfl; (with_reducible repeat (first | refine blk_drewN ?_ _ | refine blk_drew ?_ | refine blk_alloc ?_ _)); exact BK157.out⟩, ⟨by repeat (first | (with_reducible first | exact HB.out | apply below_alloc | apply pw_below_drewN | apply below_drew1 | refine below_set ?_ GE157.out) | exact HB.out)⟩⟩
          ·rw [if_neg c16] at H
           have c16b0 : decide (((rd_T35 l0 x16_1).f1) < (-1)) = false := decide_eq_false c16
           clear c16
           have H' := Aside0.mk H
           clear H
           have hcz18_0 : w10.cell? ⟨gb157, 0, none⟩ = some (.int .i64 0) := (blk_cell BK157.out 0).trans rfl
           have hcz18_1 : w10.cell? ⟨gb157, 1, none⟩ = some (.int .i64 0) := (blk_cell BK157.out 1).trans rfl
           have hcz18_2 : w10.cell? ⟨gb157, 2, none⟩ = some (.int .i64 0) := (blk_cell BK157.out 2).trans rfl
           have hcz18_3 : w10.cell? ⟨gb157, 3, none⟩ = some (.int .i64 0) := (blk_cell BK157.out 3).trans rfl
           have hcz18_4 : w10.cell? ⟨gb157, 4, none⟩ = some (.int .i64 0) := (blk_cell BK157.out 4).trans rfl
           have hcz18_5 : w10.cell? ⟨gb157, 5, none⟩ = some (.bool false) := (blk_cell BK157.out 5).trans rfl
           have hcz18_6 : w10.cell? ⟨gb157, 6, none⟩ = some (.bool false) := (blk_cell BK157.out 6).trans rfl
           have hfz18_0 := blk_frozen BK157.out 0
           have hfz18_1 := blk_frozen BK157.out 1
           have hfz18_2 := blk_frozen BK157.out 2
           have hfz18_3 := blk_frozen BK157.out 3
           have hfz18_4 := blk_frozen BK157.out 4
           have hfz18_5 := blk_frozen BK157.out 5
           have hfz18_6 := blk_frozen BK157.out 6
           go_wp2
           go_meet
           case rel => exact ⟨_, (decide (((rd_T35 l0 x16_1).f1) ≥ (l1.length : Int))), (by first | rfl | (simp; done) | (simp [*]; done)), H', ⟨by have := HK1.out; first | omega | exact Nat.le_refl _⟩, ⟨by (with_reducible repeat (first | refine blk_drewN ?_ _ | refine blk_drew ?_ | refine blk_alloc ?_ _)); refine blk_put (cs := #[.int .i64 ((rd_T35 l0 x16_1).f0), .int .i64 ((rd_T35 l0 x16_1).f1), .int .i64 ((rd_T35 l0 x16_1).f2), .int .i64 ((rd_T35 l0 x16_1).f3), .int .i64 ((rd_T35 l0 x16_1).f4), .bool ((rd_T35 l0 x16_1).f5), .bool false]) ?_ 6 _ rfl; (with_reducible repeat (first | refine blk_drewN ?_ _ | refine blk_drew ?_ | refine blk_alloc ?_ _)); refine blk_put (cs := #[.int .i64 ((rd_T35 l0 x16_1).f0), .int .i64 ((rd_T35 l0 x16_1).f1), .int .i64 ((rd_T35 l0 x16_1).f2), .int .i64 ((rd_T35 l0 x16_1).f3), .int .i64 ((rd_T35 l0 x16_1).f4), .bool false, .bool false]) ?_ 5 _ rfl; (with_reducible repeat (first | refine blk_drewN ?_ _ | refine blk_drew ?_ | refine blk_alloc ?_ _)); refine blk_put (cs := #[.int .i64 ((rd_T35 l0 x16_1).f0), .int .i64 ((rd_T35 l0 x16_1).f1), .int .i64 ((rd_T35 l0 x16_1).f2), .int .i64 ((rd_T35 l0 x16_1).f3), .int .i64 0, .bool false, .bool false]) ?_ 4 _ rfl; (with_reducible repeat (first | refine blk_drewN ?_ _ | refine blk_drew ?_ | refine blk_alloc ?_ _)); refine blk_put (cs := #[.int .i64 ((rd_T35 l0 x16_1).f0), .int .i64 ((rd_T35 l0 x16_1).f1), .int .i64 ((rd_T35 l0 x16_1).f2), .int .i64 0, .int .i64 0, .bool false, .bool false]) ?_ 3 _ rfl; (with_reducible repeat (first | refine blk_drewN ?_ _ | refine blk_drew ?_ | refine blk_alloc ?_ _)); refine blk_put (cs := #[.int .i64 ((rd_T35 l0 x16_1).f0), .int .i64 ((rd_T35 l0 x16_1).f1), .int .i64 0, .int .i64 0, .int .i64 0, .bool false, .bool false]) ?_ 2 _ rfl; (with_reducible repeat (first | refine blk_drewN ?_ _ | refine blk_drew ?_ | refine blk_alloc ?_ _)); refine blk_put (cs := #[.int .i64 ((rd_T35 l0 x16_1).f0), .int .i64 0, .int .i64 0, .int .i64 0, .int .i64 0, .bool false, .bool false]) ?_ 1 _ rfl; (with_reducible repeat (first | refine blk_drewN ?_ _ | refine blk_drew ?_ | refine blk_alloc ?_ _)); refine blk_put (cs := #[.int .i64 0, .int .i64 0, .int .i64 0, .int .i64 0, .int .i64 0, .bool false, .bool false]) ?_ 0 _ rfl; (with_reducible repeat (first | refine blk_drewN ?_ _ | refine blk_drew ?_ | refine blk_alloc ?_ _)); exact BK157.out⟩, ⟨by repeat (first | (with_reducible first | exact HB.out | apply below_alloc | apply pw_below_drewN | apply below_drew1 | refine below_set ?_ GE157.out) | exact HB.out)⟩⟩
       case rest =>
        clear HC9
        try clear c1
        try clear p1
        try clear q1
        try clear hx1
        try clear c2
        try clear p2
        try clear c4
        try clear c4b0
        try clear c4b1
        try clear c6
        try clear c6b0
        try clear c7
        try clear c7b0
        try clear c8
        try clear c8b0
        try clear c12
        try clear c12b0
        try clear c14
        try clear c14b0
        try clear p15
        try clear q15
        try clear hx15
        try clear c16
        try clear c16b0
        try clear hcz11_0
        try clear hcz11_1
        try clear hcz11_2
        try clear hcz11_3
        try clear hcz11_4
        try clear hcz11_5
        try clear hcz11_6
        try clear hcz13_0
        try clear hcz13_1
        try clear hcz13_2
        try clear hcz13_3
        try clear hcz13_4
        try clear hcz13_5
        try clear hcz13_6
        try clear hcz15_0
        try clear hcz15_1
        try clear hcz15_2
        try clear hcz15_3
        try clear hcz15_4
        try clear hcz15_5
        try clear hcz15_6
        try clear hcz17_0
        try clear hcz17_1
        try clear hcz17_2
        try clear hcz17_3
        try clear hcz17_4
        try clear hcz17_5
        try clear hcz17_6
        try clear hcz18_0
        try clear hcz18_1
        try clear hcz18_2
        try clear hcz18_3
        try clear hcz18_4
        try clear hcz18_5
        try clear hcz18_6
        try clear hfz11_0
        try clear hfz11_1
        try clear hfz11_2
        try clear hfz11_3
        try clear hfz11_4
        try clear hfz11_5
        try clear hfz11_6
        try clear hfz13_0
        try clear hfz13_1
        try clear hfz13_2
        try clear hfz13_3
        try clear hfz13_4
        try clear hfz13_5
        try clear hfz13_6
        try clear hfz15_0
        try clear hfz15_1
        try clear hfz15_2
        try clear hfz15_3
        try clear hfz15_4
        try clear hfz15_5
        try clear hfz15_6
        try clear hfz17_0
        try clear hfz17_1
        try clear hfz17_2
        try clear hfz17_3
        try clear hfz17_4
        try clear hfz17_5
        try clear hfz17_6
        try clear hfz18_0
        try clear hfz18_1
        try clear hfz18_2
        try clear hfz18_3
        try clear hfz18_4
        try clear hfz18_5
        try clear hfz18_6
        try clear hx156_0
        try clear hx156_1
        try clear hx156_2
        try clear hx156_3
        try clear hx156_4
        try clear hx156_5
        try clear hx156_6
        try clear p156
        try clear p2
        try clear q156
        obtain ⟨kq, x20_8, rfl, HA, HJ8, BK157, HB⟩ := hcut
        cases kq with
        | zero => exact absurd HA.out (by simp [reclaimplan_Check.j1])
        | succ kj8 =>
         have H := HA.out
         clear HA
         simp only [reclaimplan_Check.j1] at H
         by_cases c19 : x20_8 = true
         ·subst c19
          have H1 : (some 2) = some r := by rw [if_pos rfl] at H; exact H
          clear H
          have H := H1
          clear H1
          obtain rfl := Option.some.inj H
          go_wp2
          go_ret
          exact ⟨by first | rfl | (simp [errW_none, errW_some] <;> rfl) | (simp [*, errW_none, errW_some] <;> rfl), by repeat (first | (with_reducible first | exact HB.out | apply below_alloc | apply pw_below_drewN | apply below_drew1 | refine below_set ?_ GE157.out) | exact HB.out)⟩
         ·replace c19 := Bool.eq_false_iff.mpr c19
          subst c19
          have H1 : (if ((rd_T35 l0 x16_1).f0) ≤ x6_1 then (some 10) else (if ((rd_T35 l0 x16_1).f3) < 0 then (reclaimplan_Check.j2 kj8 l1 l0 (l0.length : Int) x16_1 true ((rd_T35 l0 x16_1).f0) ((rd_T35 l0 x16_1).f1) ((rd_T35 l0 x16_1).f2) ((rd_T35 l0 x16_1).f3) ((rd_T35 l0 x16_1).f4) ((rd_T35 l0 x16_1).f5) ((rd_T35 l0 x16_1).f6)) else (if ((rd_T35 l0 x16_1).f3) > 10 then (reclaimplan_Check.j2 kj8 l1 l0 (l0.length : Int) x16_1 true ((rd_T35 l0 x16_1).f0) ((rd_T35 l0 x16_1).f1) ((rd_T35 l0 x16_1).f2) ((rd_T35 l0 x16_1).f3) ((rd_T35 l0 x16_1).f4) ((rd_T35 l0 x16_1).f5) ((rd_T35 l0 x16_1).f6)) else (if ((rd_T35 l0 x16_1).f2) < (-1) then (reclaimplan_Check.j2 kj8 l1 l0 (l0.length : Int) x16_1 true ((rd_T35 l0 x16_1).f0) ((rd_T35 l0 x16_1).f1) ((rd_T35 l0 x16_1).f2) ((rd_T35 l0 x16_1).f3) ((rd_T35 l0 x16_1).f4) ((rd_T35 l0 x16_1).f5) ((rd_T35 l0 x16_1).f6)) else (reclaimplan_Check.j2 kj8 l1 l0 (l0.length : Int) x16_1 (decide (((rd_T35 l0 x16_1).f4) < (-1))) ((rd_T35 l0 x16_1).f0) ((rd_T35 l0 x16_1).f1) ((rd_T35 l0 x16_1).f2) ((rd_T35 l0 x16_1).f3) ((rd_T35 l0 x16_1).f4) ((rd_T35 l0 x16_1).f5) ((rd_T35 l0 x16_1).f6)))))) = some r := by rw [if_neg (show ¬ (false = true) by decide)] at H; exact H
          clear H
          have H := H1
          clear H1
          by_cases c20 : ((rd_T35 l0 x16_1).f0) ≤ x6_1
          ·rw [if_pos c20] at H
           have c20b0 : decide (((rd_T35 l0 x16_1).f0) ≤ x6_1) = true := decide_eq_true c20
           clear c20
           obtain rfl := Option.some.inj H
           have hcz21_0 : wc.cell? ⟨gb157, 0, none⟩ = some (.int .i64 ((rd_T35 l0 x16_1).f0)) := (blk_cell BK157.out 0).trans rfl
           have hcz21_1 : wc.cell? ⟨gb157, 1, none⟩ = some (.int .i64 ((rd_T35 l0 x16_1).f1)) := (blk_cell BK157.out 1).trans rfl
           have hcz21_2 : wc.cell? ⟨gb157, 2, none⟩ = some (.int .i64 ((rd_T35 l0 x16_1).f2)) := (blk_cell BK157.out 2).trans rfl
           have hcz21_3 : wc.cell? ⟨gb157, 3, none⟩ = some (.int .i64 ((rd_T35 l0 x16_1).f3)) := (blk_cell BK157.out 3).trans rfl
           have hcz21_4 : wc.cell? ⟨gb157, 4, none⟩ = some (.int .i64 ((rd_T35 l0 x16_1).f4)) := (blk_cell BK157.out 4).trans rfl
           have hcz21_5 : wc.cell? ⟨gb157, 5, none⟩ = some (.bool ((rd_T35 l0 x16_1).f5)) := (blk_cell BK157.out 5).trans rfl
           have hcz21_6 : wc.cell? ⟨gb157, 6, none⟩ = some (.bool ((rd_T35 l0 x16_1).f6)) := (blk_cell BK157.out 6).trans rfl
           have hfz21_0 := blk_frozen BK157.out 0
           have hfz21_1 := blk_frozen BK157.out 1
           have hfz21_2 := blk_frozen BK157.out 2
           have hfz21_3 := blk_frozen BK157.out 3
           have hfz21_4 := blk_frozen BK157.out 4
           have hfz21_5 := blk_frozen BK157.out 5
           have hfz21_6 := blk_frozen BK157.out 6
           go_wp2
           go_ret
           exact ⟨by first | rfl | (simp [errW_none, errW_some] <;> rfl) | (simp [*, errW_none, errW_some] <;> rfl), by repeat (first | (with_reducible first | exact HB.out | apply below_alloc | apply pw_below_drewN | apply below_drew1 | refine below_set ?_ GE157.out) | exact HB.out)⟩
          ·rw [if_neg c20] at H
           have c20b0 : decide (((rd_T35 l0 x16_1).f0) ≤ x6_1) = false := decide_eq_false c20
           clear c20
           have HC22 := Aside0.mk H
           clear H
           have hcz23_0 : wc.cell? ⟨gb157, 0, none⟩ = some (.int .i64 ((rd_T35 l0 x16_1).f0)) := (blk_cell BK157.out 0).trans rfl
           have hcz23_1 : wc.cell? ⟨gb157, 1, none⟩ = some (.int .i64 ((rd_T35 l0 x16_1).f1)) := (blk_cell BK157.out 1).trans rfl
           have hcz23_2 : wc.cell? ⟨gb157, 2, none⟩ = some (.int .i64 ((rd_T35 l0 x16_1).f2)) := (blk_cell BK157.out 2).trans rfl
           have hcz23_3 : wc.cell? ⟨gb157, 3, none⟩ = some (.int .i64 ((rd_T35 l0 x16_1).f3)) := (blk_cell BK157.out 3).trans rfl
           have hcz23_4 : wc.cell? ⟨gb157, 4, none⟩ = some (.int .i64 ((rd_T35 l0 x16_1).f4)) := (blk_cell BK157.out 4).trans rfl
           have hcz23_5 : wc.cell? ⟨gb157, 5, none⟩ = some (.bool ((rd_T35 l0 x16_1).f5)) := (blk_cell BK157.out 5).trans rfl
           have hcz23_6 : wc.cell? ⟨gb157, 6, none⟩ = some (.bool ((rd_T35 l0 x16_1).f6)) := (blk_cell BK157.out 6).trans rfl
           have hfz23_0 := blk_frozen BK157.out 0
           have hfz23_1 := blk_frozen BK157.out 1
           have hfz23_2 := blk_frozen BK157.out 2
           have hfz23_3 := blk_frozen BK157.out 3
           have hfz23_4 := blk_frozen BK157.out 4
           have hfz23_5 := blk_frozen BK157.out 5
           have hfz23_6 := blk_frozen BK157.out 6
           go_upto_region 12 with (fail)
           go_cut [46] (fun v46 wc => ∃ (kq : Nat) (x46_21 : Bool), v46 = .bool x46_21 ∧ Aside0 (reclaimplan_Check.j2 kq l1 l0 (l0.length : Int) x16_1 x46_21 ((rd_T35 l0 x16_1).f0) ((rd_T35 l0 x16_1).f1) ((rd_T35 l0 x16_1).f2) ((rd_T35 l0 x16_1).f3) ((rd_T35 l0 x16_1).f4) ((rd_T35 l0 x16_1).f5) ((rd_T35 l0 x16_1).f6) = some r) ∧ Aside0 (kq ≤ kj8) ∧ Aside0 (wc.heap[gb157]? = some (.cells #[.int .i64 ((rd_T35 l0 x16_1).f0), .int .i64 ((rd_T35 l0 x16_1).f1), .int .i64 ((rd_T35 l0 x16_1).f2), .int .i64 ((rd_T35 l0 x16_1).f3), .int .i64 ((rd_T35 l0 x16_1).f4), .bool ((rd_T35 l0 x16_1).f5), .bool ((rd_T35 l0 x16_1).f6)] 35 (0, 0))) ∧ Aside0 (Below w.heap.size w wc))
           case first =>
            have H := HC22.out
            clear HC22
            by_cases c24 : ((rd_T35 l0 x16_1).f3) < 0
            ·rw [if_pos c24] at H
             have c24b0 : decide (((rd_T35 l0 x16_1).f3) < 0) = true := decide_eq_true c24
             clear c24
             (first | rw [c24b0] | (simp only [i64_w, i32_w]; rw [c24b0]) | skip)
             have H' := Aside0.mk H
             clear H
             have hcz25_0 : wc.cell? ⟨gb157, 0, none⟩ = some (.int .i64 ((rd_T35 l0 x16_1).f0)) := (blk_cell BK157.out 0).trans rfl
             have hcz25_1 : wc.cell? ⟨gb157, 1, none⟩ = some (.int .i64 ((rd_T35 l0 x16_1).f1)) := (blk_cell BK157.out 1).trans rfl
             have hcz25_2 : wc.cell? ⟨gb157, 2, none⟩ = some (.int .i64 ((rd_T35 l0 x16_1).f2)) := (blk_cell BK157.out 2).trans rfl
             have hcz25_3 : wc.cell? ⟨gb157, 3, none⟩ = some (.int .i64 ((rd_T35 l0 x16_1).f3)) := (blk_cell BK157.out 3).trans rfl
             have hcz25_4 : wc.cell? ⟨gb157, 4, none⟩ = some (.int .i64 ((rd_T35 l0 x16_1).f4)) := (blk_cell BK157.out 4).trans rfl
             have hcz25_5 : wc.cell? ⟨gb157, 5, none⟩ = some (.bool ((rd_T35 l0 x16_1).f5)) := (blk_cell BK157.out 5).trans rfl
             have hcz25_6 : wc.cell? ⟨gb157, 6, none⟩ = some (.bool ((rd_T35 l0 x16_1).f6)) := (blk_cell BK157.out 6).trans rfl
             have hfz25_0 := blk_frozen BK157.out 0
             have hfz25_1 := blk_frozen BK157.out 1
             have hfz25_2 := blk_frozen BK157.out 2
             have hfz25_3 := blk_frozen BK157.out 3
             have hfz25_4 := blk_frozen BK157.out 4
             have hfz25_5 := blk_frozen BK157.out 5
             have hfz25_6 := blk_frozen BK157.out 6
             go_wp2
             go_meet
             case rel => exact ⟨_, (true), (by first | rfl | (simp; done) | (simp [*]; done)), H', ⟨by have := HK1.out; have := HJ8.out; first | omega | exact Nat.le_refl _⟩, ⟨by (with_reducible repeat (first | refine blk_drewN ?_ _ | refine blk_drew ?_ | refine blk_alloc ?_ _)); exact BK157.out⟩, ⟨by repeat (first | (with_reducible first | exact HB.out | apply below_alloc | apply pw_below_drewN | apply below_drew1 | refine below_set ?_ GE157.out) | exact HB.out)⟩⟩
            ·rw [if_neg c24] at H
             have c24b0 : decide (((rd_T35 l0 x16_1).f3) < 0) = false := decide_eq_false c24
             clear c24
             (first | rw [c24b0] | (simp only [i64_w, i32_w]; rw [c24b0]) | skip)
             by_cases c26 : ((rd_T35 l0 x16_1).f3) > 10
             ·rw [if_pos c26] at H
              have c26b0 : decide (10 < ((rd_T35 l0 x16_1).f3)) = true := decide_eq_true c26
              clear c26
              have H' := Aside0.mk H
              clear H
              have hcz27_0 : wc.cell? ⟨gb157, 0, none⟩ = some (.int .i64 ((rd_T35 l0 x16_1).f0)) := (blk_cell BK157.out 0).trans rfl
              have hcz27_1 : wc.cell? ⟨gb157, 1, none⟩ = some (.int .i64 ((rd_T35 l0 x16_1).f1)) := (blk_cell BK157.out 1).trans rfl
              have hcz27_2 : wc.cell? ⟨gb157, 2, none⟩ = some (.int .i64 ((rd_T35 l0 x16_1).f2)) := (blk_cell BK157.out 2).trans rfl
              have hcz27_3 : wc.cell? ⟨gb157, 3, none⟩ = some (.int .i64 ((rd_T35 l0 x16_1).f3)) := (blk_cell BK157.out 3).trans rfl
              have hcz27_4 : wc.cell? ⟨gb157, 4, none⟩ = some (.int .i64 ((rd_T35 l0 x16_1).f4)) := (blk_cell BK157.out 4).trans rfl
              have hcz27_5 : wc.cell? ⟨gb157, 5, none⟩ = some (.bool ((rd_T35 l0 x16_1).f5)) := (blk_cell BK157.out 5).trans rfl
              have hcz27_6 : wc.cell? ⟨gb157, 6, none⟩ = some (.bool ((rd_T35 l0 x16_1).f6)) := (blk_cell BK157.out 6).trans rfl
              have hfz27_0 := blk_frozen BK157.out 0
              have hfz27_1 := blk_frozen BK157.out 1
              have hfz27_2 := blk_frozen BK157.out 2
              have hfz27_3 := blk_frozen BK157.out 3
              have hfz27_4 := blk_frozen BK157.out 4
              have hfz27_5 := blk_frozen BK157.out 5
              have hfz27_6 := blk_frozen BK157.out 6
              go_wp2
              go_meet
              case rel => exact ⟨_, (true), (by first | rfl | (simp; done) | (simp [*]; done)), H', ⟨by have := HK1.out; have := HJ8.out; first | omega | exact Nat.le_refl _⟩, ⟨by (with_reducible repeat (first | refine blk_drewN ?_ _ | refine blk_drew ?_ | refine blk_alloc ?_ _)); exact BK157.out⟩, ⟨by repeat (first | (with_reducible first | exact HB.out | apply below_alloc | apply pw_below_drewN | apply below_drew1 | refine below_set ?_ GE157.out) | exact HB.out)⟩⟩
             ·rw [if_neg c26] at H
              have c26b0 : decide (10 < ((rd_T35 l0 x16_1).f3)) = false := decide_eq_false c26
              clear c26
              by_cases c28 : ((rd_T35 l0 x16_1).f2) < (-1)
              ·rw [if_pos c28] at H
               have c28b0 : decide (((rd_T35 l0 x16_1).f2) < (-1)) = true := decide_eq_true c28
               clear c28
               have H' := Aside0.mk H
               clear H
               have hcz29_0 : wc.cell? ⟨gb157, 0, none⟩ = some (.int .i64 ((rd_T35 l0 x16_1).f0)) := (blk_cell BK157.out 0).trans rfl
               have hcz29_1 : wc.cell? ⟨gb157, 1, none⟩ = some (.int .i64 ((rd_T35 l0 x16_1).f1)) := (blk_cell BK157.out 1).trans rfl
               have hcz29_2 : wc.cell? ⟨gb157, 2, none⟩ = some (.int .i64 ((rd_T35 l0 x16_1).f2)) := (blk_cell BK157.out 2).trans rfl
               have hcz29_3 : wc.cell? ⟨gb157, 3, none⟩ = some (.int .i64 ((rd_T35 l0 x16_1).f3)) := (blk_cell BK157.out 3).trans rfl
               have hcz29_4 : wc.cell? ⟨gb157, 4, none⟩ = some (.int .i64 ((rd_T35 l0 x16_1).f4)) := (blk_cell BK157.out 4).trans rfl
               have hcz29_5 : wc.cell? ⟨gb157, 5, none⟩ = some (.bool ((rd_T35 l0 x16_1).f5)) := (blk_cell BK157.out 5).trans rfl
               have hcz29_6 : wc.cell? ⟨gb157, 6, none⟩ = some (.bool ((rd_T35 l0 x16_1).f6)) := (blk_cell BK157.out 6).trans rfl
               have hfz29_0 := blk_frozen BK157.out 0
               have hfz29_1 := blk_frozen BK157.out 1
               have hfz29_2 := blk_frozen BK157.out 2
               have hfz29_3 := blk_frozen BK157.out 3
               have hfz29_4 := blk_frozen BK157.out 4
               have hfz29_5 := blk_frozen BK157.out 5
               have hfz29_6 := blk_frozen BK157.out 6
               go_wp2
               go_meet
               case rel => exact ⟨_, (true), (by first | rfl | (simp; done) | (simp [*]; done)), H', ⟨by have := HK1.out; have := HJ8.out; first | omega | exact Nat.le_refl _⟩, ⟨by (with_reducible repeat (first | refine blk_drewN ?_ _ | refine blk_drew ?_ | refine blk_alloc ?_ _)); exact BK157.out⟩, ⟨by repeat (first | (with_reducible first | exact HB.out | apply below_alloc | apply pw_below_drewN | apply below_drew1 | refine below_set ?_ GE157.out) | exact HB.out)⟩⟩
              ·rw [if_neg c28] at H
               have c28b0 : decide (((rd_T35 l0 x16_1).f2) < (-1)) = false := decide_eq_false c28
               clear c28
               have H' := Aside0.mk H
               clear H
               have hcz30_0 : wc.cell? ⟨gb157, 0, none⟩ = some (.int .i64 ((rd_T35 l0 x16_1).f0)) := (blk_cell BK157.out 0).trans rfl
               have hcz30_1 : wc.cell? ⟨gb157, 1, none⟩ = some (.int .i64 ((rd_T35 l0 x16_1).f1)) := (blk_cell BK157.out 1).trans rfl
               have hcz30_2 : wc.cell? ⟨gb157, 2, none⟩ = some (.int .i64 ((rd_T35 l0 x16_1).f2)) := (blk_cell BK157.out 2).trans rfl
               have hcz30_3 : wc.cell? ⟨gb157, 3, none⟩ = some (.int .i64 ((rd_T35 l0 x16_1).f3)) := (blk_cell BK157.out 3).trans rfl
               have hcz30_4 : wc.cell? ⟨gb157, 4, none⟩ = some (.int .i64 ((rd_T35 l0 x16_1).f4)) := (blk_cell BK157.out 4).trans rfl
               have hcz30_5 : wc.cell? ⟨gb157, 5, none⟩ = some (.bool ((rd_T35 l0 x16_1).f5)) := (blk_cell BK157.out 5).trans rfl
               have hcz30_6 : wc.cell? ⟨gb157, 6, none⟩ = some (.bool ((rd_T35 l0 x16_1).f6)) := (blk_cell BK157.out 6).trans rfl
               have hfz30_0 := blk_frozen BK157.out 0
               have hfz30_1 := blk_frozen BK157.out 1
               have hfz30_2 := blk_frozen BK157.out 2
               have hfz30_3 := blk_frozen BK157.out 3
               have hfz30_4 := blk_frozen BK157.out 4
               have hfz30_5 := blk_frozen BK157.out 5
               have hfz30_6 := blk_frozen BK157.out 6
               go_wp2
               go_meet
               case rel => exact ⟨_, (decide (((rd_T35 l0 x16_1).f4) < (-1))), (by first | rfl | (simp; done) | (simp [*]; done)), H', ⟨by have := HK1.out; have := HJ8.out; first | omega | exact Nat.le_refl _⟩, ⟨by (with_reducible repeat (first | refine blk_drewN ?_ _ | refine blk_drew ?_ | refine blk_alloc ?_ _)); exact BK157.out⟩, ⟨by repeat (first | (with_reducible first | exact HB.out | apply below_alloc | apply pw_below_drewN | apply below_drew1 | refine below_set ?_ GE157.out) | exact HB.out)⟩⟩
           case rest =>
            clear HC22
            try clear c1
            try clear p1
            try clear q1
            try clear hx1
            try clear c2
            try clear p2
            try clear c4
            try clear c4b0
            try clear c4b1
            try clear c6
            try clear c6b0
            try clear c7
            try clear c7b0
            try clear c8
            try clear c8b0
            try clear c12
            try clear c12b0
            try clear c14
            try clear c14b0
            try clear p15
            try clear q15
            try clear hx15
            try clear c16
            try clear c16b0
            try clear c19
            try clear c20
            try clear c20b0
            try clear c23
            try clear c24
            try clear c24b0
            try clear c26
            try clear c26b0
            try clear c28
            try clear c28b0
            try clear hcz11_0
            try clear hcz11_1
            try clear hcz11_2
            try clear hcz11_3
            try clear hcz11_4
            try clear hcz11_5
            try clear hcz11_6
            try clear hcz13_0
            try clear hcz13_1
            try clear hcz13_2
            try clear hcz13_3
            try clear hcz13_4
            try clear hcz13_5
            try clear hcz13_6
            try clear hcz15_0
            try clear hcz15_1
            try clear hcz15_2
            try clear hcz15_3
            try clear hcz15_4
            try clear hcz15_5
            try clear hcz15_6
            try clear hcz17_0
            try clear hcz17_1
            try clear hcz17_2
            try clear hcz17_3
            try clear hcz17_4
            try clear hcz17_5
            try clear hcz17_6
            try clear hcz18_0
            try clear hcz18_1
            try clear hcz18_2
            try clear hcz18_3
            try clear hcz18_4
            try clear hcz18_5
            try clear hcz18_6
            try clear hcz21_0
            try clear hcz21_1
            try clear hcz21_2
            try clear hcz21_3
            try clear hcz21_4
            try clear hcz21_5
            try clear hcz21_6
            try clear hcz23_0
            try clear hcz23_1
            try clear hcz23_2
            try clear hcz23_3
            try clear hcz23_4
            try clear hcz23_5
            try clear hcz23_6
            try clear hcz25_0
            try clear hcz25_1
            try clear hcz25_2
            try clear hcz25_3
            try clear hcz25_4
            try clear hcz25_5
            try clear hcz25_6
            try clear hcz27_0
            try clear hcz27_1
            try clear hcz27_2
            try clear hcz27_3
            try clear hcz27_4
            try clear hcz27_5
            try clear hcz27_6
            try clear hcz29_0
            try clear hcz29_1
            try clear hcz29_2
            try clear hcz29_3
            try clear hcz29_4
            try clear hcz29_5
            try clear hcz29_6
            try clear hcz30_0
            try clear hcz30_1
            try clear hcz30_2
            try clear hcz30_3
            try clear hcz30_4
            try clear hcz30_5
            try clear hcz30_6
            try clear hfz11_0
            try clear hfz11_1
            try clear hfz11_2
            try clear hfz11_3
            try clear hfz11_4
            try clear hfz11_5
            try clear hfz11_6
            try clear hfz13_0
            try clear hfz13_1
            try clear hfz13_2
            try clear hfz13_3
            try clear hfz13_4
            try clear hfz13_5
            try clear hfz13_6
            try clear hfz15_0
            try clear hfz15_1
            try clear hfz15_2
            try clear hfz15_3
            try clear hfz15_4
            try clear hfz15_5
            try clear hfz15_6
            try clear hfz17_0
            try clear hfz17_1
            try clear hfz17_2
            try clear hfz17_3
            try clear hfz17_4
            try clear hfz17_5
            try clear hfz17_6
            try clear hfz18_0
            try clear hfz18_1
            try clear hfz18_2
            try clear hfz18_3
            try clear hfz18_4
            try clear hfz18_5
            try clear hfz18_6
            try clear hfz21_0
            try clear hfz21_1
            try clear hfz21_2
            try clear hfz21_3
            try clear hfz21_4
            try clear hfz21_5
            try clear hfz21_6
            try clear hfz23_0
            try clear hfz23_1
            try clear hfz23_2
            try clear hfz23_3
            try clear hfz23_4
            try clear hfz23_5
            try clear hfz23_6
            try clear hfz25_0
            try clear hfz25_1
            try clear hfz25_2
            try clear hfz25_3
            try clear hfz25_4
            try clear hfz25_5
            try clear hfz25_6
            try clear hfz27_0
            try clear hfz27_1
            try clear hfz27_2
            try clear hfz27_3
            try clear hfz27_4
            try clear hfz27_5
            try clear hfz27_6
            try clear hfz29_0
            try clear hfz29_1
            try clear hfz29_2
            try clear hfz29_3
            try clear hfz29_4
            try clear hfz29_5
            try clear hfz29_6
            try clear hfz30_0
            try clear hfz30_1
            try clear hfz30_2
            try clear hfz30_3
            try clear hfz30_4
            try clear hfz30_5
            try clear hfz30_6
            try clear hx156_0
            try clear hx156_1
            try clear hx156_2
            try clear hx156_3
            try clear hx156_4
            try clear hx156_5
            try clear hx156_6
            try clear p1
            try clear p15
            try clear p156
            try clear p2
            try clear q1
            try clear q15
            try clear q156
            obtain ⟨kq, x46_21, rfl, HA, HJ21, BK157, HB⟩ := hcut
            cases kq with
            | zero => exact absurd HA.out (by simp [reclaimplan_Check.j2])
            | succ kj21 =>
             have H := HA.out
             clear HA
             simp only [reclaimplan_Check.j2] at H
             by_cases c31 : x46_21 = true
             ·subst c31
              have H1 : (some 1) = some r := by rw [if_pos rfl] at H; exact H
              clear H
              have H := H1
              clear H1
              obtain rfl := Option.some.inj H
              go_wp2
              go_ret
              exact ⟨by first | rfl | (simp [errW_none, errW_some] <;> rfl) | (simp [*, errW_none, errW_some] <;> rfl), by repeat (first | (with_reducible first | exact HB.out | apply below_alloc | apply pw_below_drewN | apply below_drew1 | refine below_set ?_ GE157.out) | exact HB.out)⟩
             ·replace c31 := Bool.eq_false_iff.mpr c31
              subst c31
              have H1 : (if ((rd_T35 l0 x16_1).f3) = 0 then (if ((rd_T35 l0 x16_1).f6) = true then (reclaimplan_Check.l0 kj21 l1 ((rd_T35 l0 x16_1).f0) l0 (l0.length : Int) (wrap64 (x16_1 + 1))) else (if ((rd_T35 l0 x16_1).f2) = (-1) then (some 3) else (reclaimplan_Check.l0 kj21 l1 ((rd_T35 l0 x16_1).f0) l0 (l0.length : Int) (wrap64 (x16_1 + 1))))) else (reclaimplan_Check.l0 kj21 l1 ((rd_T35 l0 x16_1).f0) l0 (l0.length : Int) (wrap64 (x16_1 + 1)))) = some r := by rw [if_neg (show ¬ (false = true) by decide)] at H; exact H
              clear H
              have H := H1
              clear H1
              by_cases c32 : ((rd_T35 l0 x16_1).f3) = 0
              ·rw [if_pos c32] at H
               have c32b0 : (((rd_T35 l0 x16_1).f3) == 0) = true := beq_iff_eq.mpr c32
               have c32b1 : (((rd_T35 l0 x16_1).f3) != 0) = false := bne_eq_false_iff_eq.mpr c32
               clear c32
               by_cases c33 : ((rd_T35 l0 x16_1).f6) = true
               ·rw [if_pos c33] at H
                have c33b0 : ((rd_T35 l0 x16_1).f6) = true := c33
                clear c33
                have H' := Aside0.mk H
                clear H
                have hcz34_0 : wc.cell? ⟨gb157, 0, none⟩ = some (.int .i64 ((rd_T35 l0 x16_1).f0)) := (blk_cell BK157.out 0).trans rfl
                have hcz34_1 : wc.cell? ⟨gb157, 1, none⟩ = some (.int .i64 ((rd_T35 l0 x16_1).f1)) := (blk_cell BK157.out 1).trans rfl
                have hcz34_2 : wc.cell? ⟨gb157, 2, none⟩ = some (.int .i64 ((rd_T35 l0 x16_1).f2)) := (blk_cell BK157.out 2).trans rfl
                have hcz34_3 : wc.cell? ⟨gb157, 3, none⟩ = some (.int .i64 ((rd_T35 l0 x16_1).f3)) := (blk_cell BK157.out 3).trans rfl
                have hcz34_4 : wc.cell? ⟨gb157, 4, none⟩ = some (.int .i64 ((rd_T35 l0 x16_1).f4)) := (blk_cell BK157.out 4).trans rfl
                have hcz34_5 : wc.cell? ⟨gb157, 5, none⟩ = some (.bool ((rd_T35 l0 x16_1).f5)) := (blk_cell BK157.out 5).trans rfl
                have hcz34_6 : wc.cell? ⟨gb157, 6, none⟩ = some (.bool ((rd_T35 l0 x16_1).f6)) := (blk_cell BK157.out 6).trans rfl
                have hfz34_0 := blk_frozen BK157.out 0
                have hfz34_1 := blk_frozen BK157.out 1
                have hfz34_2 := blk_frozen BK157.out 2
                have hfz34_3 := blk_frozen BK157.out 3
                have hfz34_4 := blk_frozen BK157.out 4
                have hfz34_5 := blk_frozen BK157.out 5
                have hfz34_6 := blk_frozen BK157.out 6
                go_wp2
                go_roundg kj21
                case measure => have := HK1.out; have := HJ8.out; have := HJ21.out; omega
                case rel => exact ⟨(((rd_T35 l0 x16_1).f0)), (wrap64 (x16_1 + 1)), (by first | rfl | (simp; done) | (simp [*]; done)), (by first | rfl | (simp; done) | (simp [*]; done)), H', ⟨by have := HK1.out; have := HJ8.out; have := HJ21.out; omega⟩, ⟨by repeat (first | (with_reducible first | exact HB.out | apply below_alloc | apply pw_below_drewN | apply below_drew1 | refine below_set ?_ GE157.out) | exact HB.out)⟩⟩
               ·rw [if_neg c33] at H
                have c33b0 : ((rd_T35 l0 x16_1).f6) = false := by simpa using c33
                clear c33
                by_cases c35 : ((rd_T35 l0 x16_1).f2) = (-1)
                ·rw [if_pos c35] at H
                 have c35b0 : (((rd_T35 l0 x16_1).f2) == (-1)) = true := beq_iff_eq.mpr c35
                 have c35b1 : (((rd_T35 l0 x16_1).f2) != (-1)) = false := bne_eq_false_iff_eq.mpr c35
                 clear c35
                 obtain rfl := Option.some.inj H
                 have hcz36_0 : wc.cell? ⟨gb157, 0, none⟩ = some (.int .i64 ((rd_T35 l0 x16_1).f0)) := (blk_cell BK157.out 0).trans rfl
                 have hcz36_1 : wc.cell? ⟨gb157, 1, none⟩ = some (.int .i64 ((rd_T35 l0 x16_1).f1)) := (blk_cell BK157.out 1).trans rfl
                 have hcz36_2 : wc.cell? ⟨gb157, 2, none⟩ = some (.int .i64 ((rd_T35 l0 x16_1).f2)) := (blk_cell BK157.out 2).trans rfl
                 have hcz36_3 : wc.cell? ⟨gb157, 3, none⟩ = some (.int .i64 ((rd_T35 l0 x16_1).f3)) := (blk_cell BK157.out 3).trans rfl
                 have hcz36_4 : wc.cell? ⟨gb157, 4, none⟩ = some (.int .i64 ((rd_T35 l0 x16_1).f4)) := (blk_cell BK157.out 4).trans rfl
                 have hcz36_5 : wc.cell? ⟨gb157, 5, none⟩ = some (.bool ((rd_T35 l0 x16_1).f5)) := (blk_cell BK157.out 5).trans rfl
                 have hcz36_6 : wc.cell? ⟨gb157, 6, none⟩ = some (.bool ((rd_T35 l0 x16_1).f6)) := (blk_cell BK157.out 6).trans rfl
                 have hfz36_0 := blk_frozen BK157.out 0
                 have hfz36_1 := blk_frozen BK157.out 1
                 have hfz36_2 := blk_frozen BK157.out 2
                 have hfz36_3 := blk_frozen BK157.out 3
                 have hfz36_4 := blk_frozen BK157.out 4
                 have hfz36_5 := blk_frozen BK157.out 5
                 have hfz36_6 := blk_frozen BK157.out 6
                 go_wp2
                 go_ret
                 exact ⟨by first | rfl | (simp [errW_none, errW_some] <;> rfl) | (simp [*, errW_none, errW_some] <;> rfl), by repeat (first | (with_reducible first | exact HB.out | apply below_alloc | apply pw_below_drewN | apply below_drew1 | refine below_set ?_ GE157.out) | exact HB.out)⟩
                ·rw [if_neg c35] at H
                 have c35b0 : (((rd_T35 l0 x16_1).f2) == (-1)) = false := beq_eq_false_iff_ne.mpr c35
                 have c35b1 : (((rd_T35 l0 x16_1).f2) != (-1)) = true := bne_iff_ne.mpr c35
                 have H' := Aside0.mk H
                 clear H
                 have hcz37_0 : wc.cell? ⟨gb157, 0, none⟩ = some (.int .i64 ((rd_T35 l0 x16_1).f0)) := (blk_cell BK157.out 0).trans rfl
                 have hcz37_1 : wc.cell? ⟨gb157, 1, none⟩ = some (.int .i64 ((rd_T35 l0 x16_1).f1)) := (blk_cell BK157.out 1).trans rfl
                 have hcz37_2 : wc.cell? ⟨gb157, 2, none⟩ = some (.int .i64 ((rd_T35 l0 x16_1).f2)) := (blk_cell BK157.out 2).trans rfl
                 have hcz37_3 : wc.cell? ⟨gb157, 3, none⟩ = some (.int .i64 ((rd_T35 l0 x16_1).f3)) := (blk_cell BK157.out 3).trans rfl
                 have hcz37_4 : wc.cell? ⟨gb157, 4, none⟩ = some (.int .i64 ((rd_T35 l0 x16_1).f4)) := (blk_cell BK157.out 4).trans rfl
                 have hcz37_5 : wc.cell? ⟨gb157, 5, none⟩ = some (.bool ((rd_T35 l0 x16_1).f5)) := (blk_cell BK157.out 5).trans rfl
                 have hcz37_6 : wc.cell? ⟨gb157, 6, none⟩ = some (.bool ((rd_T35 l0 x16_1).f6)) := (blk_cell BK157.out 6).trans rfl
                 have hfz37_0 := blk_frozen BK157.out 0
                 have hfz37_1 := blk_frozen BK157.out 1
                 have hfz37_2 := blk_frozen BK157.out 2
                 have hfz37_3 := blk_frozen BK157.out 3
                 have hfz37_4 := blk_frozen BK157.out 4
                 have hfz37_5 := blk_frozen BK157.out 5
                 have hfz37_6 := blk_frozen BK157.out 6
                 go_wp2
                 go_roundg kj21
                 case measure => have := HK1.out; have := HJ8.out; have := HJ21.out; omega
                 case rel => exact ⟨(((rd_T35 l0 x16_1).f0)), (wrap64 (x16_1 + 1)), (by first | rfl | (simp; done) | (simp [*]; done)), (by first | rfl | (simp; done) | (simp [*]; done)), H', ⟨by have := HK1.out; have := HJ8.out; have := HJ21.out; omega⟩, ⟨by repeat (first | (with_reducible first | exact HB.out | apply below_alloc | apply pw_below_drewN | apply below_drew1 | refine below_set ?_ GE157.out) | exact HB.out)⟩⟩
              ·rw [if_neg c32] at H
               have c32b0 : (((rd_T35 l0 x16_1).f3) == 0) = false := beq_eq_false_iff_ne.mpr c32
               have c32b1 : (((rd_T35 l0 x16_1).f3) != 0) = true := bne_iff_ne.mpr c32
               have H' := Aside0.mk H
               clear H
               have hcz38_0 : wc.cell? ⟨gb157, 0, none⟩ = some (.int .i64 ((rd_T35 l0 x16_1).f0)) := (blk_cell BK157.out 0).trans rfl
               have hcz38_1 : wc.cell? ⟨gb157, 1, none⟩ = some (.int .i64 ((rd_T35 l0 x16_1).f1)) := (blk_cell BK157.out 1).trans rfl
               have hcz38_2 : wc.cell? ⟨gb157, 2, none⟩ = some (.int .i64 ((rd_T35 l0 x16_1).f2)) := (blk_cell BK157.out 2).trans rfl
               have hcz38_3 : wc.cell? ⟨gb157, 3, none⟩ = some (.int .i64 ((rd_T35 l0 x16_1).f3)) := (blk_cell BK157.out 3).trans rfl
               have hcz38_4 : wc.cell? ⟨gb157, 4, none⟩ = some (.int .i64 ((rd_T35 l0 x16_1).f4)) := (blk_cell BK157.out 4).trans rfl
               have hcz38_5 : wc.cell? ⟨gb157, 5, none⟩ = some (.bool ((rd_T35 l0 x16_1).f5)) := (blk_cell BK157.out 5).trans rfl
               have hcz38_6 : wc.cell? ⟨gb157, 6, none⟩ = some (.bool ((rd_T35 l0 x16_1).f6)) := (blk_cell BK157.out 6).trans rfl
               have hfz38_0 := blk_frozen BK157.out 0
               have hfz38_1 := blk_frozen BK157.out 1
               have hfz38_2 := blk_frozen BK157.out 2
               have hfz38_3 := blk_frozen BK157.out 3
               have hfz38_4 := blk_frozen BK157.out 4
               have hfz38_5 := blk_frozen BK157.out 5
               have hfz38_6 := blk_frozen BK157.out 6
               go_wp2
               go_roundg kj21
               case measure => have := HK1.out; have := HJ8.out; have := HJ21.out; omega
               case rel => exact ⟨(((rd_T35 l0 x16_1).f0)), (wrap64 (x16_1 + 1)), (by first | rfl | (simp; done) | (simp [*]; done)), (by first | rfl | (simp; done) | (simp [*]; done)), H', ⟨by have := HK1.out; have := HJ8.out; have := HJ21.out; omega⟩, ⟨by repeat (first | (with_reducible first | exact HB.out | apply below_alloc | apply pw_below_drewN | apply below_drew1 | refine below_set ?_ GE157.out) | exact HB.out)⟩⟩
      ·rw [if_neg c8] at H
       exact absurd H (by simp)
     ·rw [if_neg c7] at H
      exact absurd H (by simp)
    ·rw [if_neg c6] at H
     have c6b0 : decide (x16_1 < (l0.length : Int)) = false := decide_eq_false c6
     clear c6
     obtain rfl := Option.some.inj H
     go_wp2
     go_ret
     exact ⟨by first | rfl | (simp [errW_none, errW_some] <;> rfl) | (simp [*, errW_none, errW_some] <;> rfl), by repeat (first | (with_reducible first | exact HB.out | apply below_alloc | apply pw_below_drewN | apply below_drew1) | exact HB.out)⟩
 ·rw [if_neg c4] at H
  have c4b0 : (t155 == 0) = false := beq_eq_false_iff_ne.mpr c4
  have c4b1 : (t155 != 0) = true := bne_iff_ne.mpr c4
  obtain rfl := Option.some.inj H
  go_enter Try.func7, Try.ntmps7
  go_wp2_with (first | ((with_reducible refine gate_callee (f := 23) rfl ?_); refine goesL_ (some 10) rfl rfl Try.func23 (by kernel_rfl) rfl #[.slice A1 l1.length c1] rfl (by (try simp only [List.map_toArray, List.map_cons, List.map_nil]); first | done | rfl | (simp only [List.length_drop, List.length_take]; rfl)) ?_; (with_reducible refine (accounts_Check.calls k _ _ l1 t155 _ ?side1 ?side2 A3.out).mono ?_); (case side1 => repeat (first | exact HR1.out | (with_reducible refine Kd.C_alloc ?_ _) | (with_reducible refine Kd.C_drewN ?_ _) | (with_reducible refine Kd.C_drew ?_))); (case side2 => exact HC1.out); rintro e w39 ⟨rfl, hb⟩; refine ⟨_, rfl, ?_⟩; have n0_ := Aside0.mk (below_step (by repeat (first | (with_reducible first | exact HB.out | apply below_alloc | apply pw_below_drewN | apply below_drew1) | exact HB.out)) hb); clear HB; have HB := n0_; clear n0_; (try clear hb); (try clear hb2); (try clear hk); (try clear hi)))
  go_ret
  exact ⟨by first | rfl | (simp [errW_none, errW_some] <;> rfl) | (simp [*, errW_none, errW_some] <;> rfl), by repeat (first | (with_reducible first | exact HB.out | apply below_alloc | apply pw_below_drewN | apply below_drew1) | exact HB.out)⟩
end Go.Proofs.Ytpccpkpljlafcaa.PTopSharesKept
