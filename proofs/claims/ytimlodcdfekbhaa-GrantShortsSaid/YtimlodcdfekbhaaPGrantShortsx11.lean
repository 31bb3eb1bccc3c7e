-- Printed by a copy of the kit's printer that this session has patched (wip/tools/patch_print.py): the session's own text. Lean checks it.
import Derived.Test.YtimlodcdfekbhaaPGrantShortsx0
import Derived.Test.YtimlodcdfekbhaaPGrantShortsx7
import Derived.Test.YtimlodcdfekbhaaPGrantShortsx8
import Derived.Test.YtimlodcdfekbhaaPGrantShortsx9
namespace Go.Proofs.Ytimlodcdfekbhaa.PGrantShorts
open Go.RowKit Go.Proofs.YtimlodcdfekbhaaW.PrintWords Go.Proofs.YtimlodcdfekbhaaW.PrintLast Go.Proofs.YtimlodcdfekbhaaW.PrintMore
attribute [local go_sem] max2_int min2_int max_two min_two max_three min_three max_four min_four   -- for this text's walks alone
set_option linter.unusedVariables false
set_option linter.unusedSimpArgs false

/-! ### estoversref21_Hopeless: function 18 -/
mutual
def estoversref21_Hopeless.j0 : Nat → List (S59) → Int → Int → Bool → Int → Int → Int → Int → Option (Bool)
  | 0, _, _, _, _, _, _, _, _ => none
  | k + 1, x1, x2, x3, x25, x317000, x317001, x317002, x317003 => if x25 = true then (some true) else ((estoversref19_Path.f k x1 x317001).bind fun t319 => (estoversref21_Hopeless.l0 k x1 x2 x3 t319 0 x317000 x317001 x317002 x317003))
def estoversref21_Hopeless.l0 : Nat → List (S59) → Int → Int → List Int → Int → Int → Int → Int → Int → Option (Bool)
  | 0, _, _, _, _, _, _, _, _, _ => none
  | k + 1, x1, x2, x3, x9, x10, x317000, x317001, x317002, x317003 => if x10 < (x9.length : Int) then ((estoversref21_Total.f x317000 x317001 x317002 x317003).bind fun t322 => (if 0 ≤ x10 then (if 0 ≤ (rd x9 x10) then (if (rd x9 x10) < (x1.length : Int) then (if t322 > ((rd_T59 x1 (rd x9 x10)).f4) then (some true) else (estoversref21_Hopeless.l0 k x1 x2 x3 x9 (wrap64 (x10 + 1)) x317000 x317001 x317002 x317003)) else (none)) else (none)) else (none))) else (if x317002 > x2 then (some true) else ((estoversref21_Total.f x317000 x317001 x317002 x317003).bind fun t325 => (some (decide (t325 > x3)))))
end
def estoversref21_Hopeless.f (k : Nat) (a0_0 : Int) (a0_1 : Int) (a0_2 : Int) (a0_3 : Int) (l1 : List (S59)) (a2 : Int) (a3 : Int) : Option (Bool) := (estoversref21_Valid.f a0_0 a0_1 a0_2 a0_3).bind fun t317 => (if t317 = true then ((estoversref19_Check.f k l1).bind fun t318 => (if t318 = 0 then (estoversref21_Hopeless.j0 k l1 a2 a3 (decide (a0_1 ≥ (l1.length : Int))) a0_0 a0_1 a0_2 a0_3) else (estoversref21_Hopeless.j0 k l1 a2 a3 true a0_0 a0_1 a0_2 a0_3))) else (estoversref21_Hopeless.j0 k l1 a2 a3 true a0_0 a0_1 a0_2 a0_3))
theorem estoversref21_Hopeless.mono_l : ∀ k, (∀ y0 y1 y2 y3 y4 y5 y6 y7, LeO (estoversref21_Hopeless.j0 k y0 y1 y2 y3 y4 y5 y6 y7) (estoversref21_Hopeless.j0 (k + 1) y0 y1 y2 y3 y4 y5 y6 y7)) ∧ (∀ y0 y1 y2 y3 y4 y5 y6 y7 y8, LeO (estoversref21_Hopeless.l0 k y0 y1 y2 y3 y4 y5 y6 y7 y8) (estoversref21_Hopeless.l0 (k + 1) y0 y1 y2 y3 y4 y5 y6 y7 y8))
  | 0 => ⟨fun _ _ _ _ _ _ _ _ r h => by simp [estoversref21_Hopeless.j0] at h, fun _ _ _ _ _ _ _ _ _ r h => by simp [estoversref21_Hopeless.l0] at h⟩
  | k + 1 => by
    obtain ⟨ih0, ih1⟩ := estoversref21_Hopeless.mono_l k
    refine ⟨?_, ?_⟩
    · intro y0 y1 y2 y3 y4 y5 y6 y7
      unfold estoversref21_Hopeless.j0
      repeat' first
      | (with_reducible exact ih0 _ _ _ _ _ _ _ _)
      | (with_reducible exact ih1 _ _ _ _ _ _ _ _ _)
      | (with_reducible exact estoversref19_Check.mono _ _)
      | (with_reducible exact estoversref19_Path.mono _ _ _)
      | (with_reducible exact LeO.refl _)
      | (with_reducible exact LeO.none _)
      | (with_reducible refine LeO.ite ?_ ?_)
      | (with_reducible refine LeO.bind ?_ (fun _ => ?_))
      | exact ih0 _ _ _ _ _ _ _ _
      | exact ih1 _ _ _ _ _ _ _ _ _
      | exact estoversref19_Check.mono _ _
      | exact estoversref19_Path.mono _ _ _
      | exact LeO.none _
      | refine LeO.ite ?_ ?_
      | refine LeO.bind ?_ (fun _ => ?_)
    · intro y0 y1 y2 y3 y4 y5 y6 y7 y8
      unfold estoversref21_Hopeless.l0
      repeat' first
      | (with_reducible exact ih0 _ _ _ _ _ _ _ _)
      | (with_reducible exact ih1 _ _ _ _ _ _ _ _ _)
      | (with_reducible exact estoversref19_Check.mono _ _)
      | (with_reducible exact estoversref19_Path.mono _ _ _)
      | (with_reducible exact LeO.refl _)
      | (with_reducible exact LeO.none _)
      | (with_reducible refine LeO.ite ?_ ?_)
      | (with_reducible refine LeO.bind ?_ (fun _ => ?_))
      | exact ih0 _ _ _ _ _ _ _ _
      | exact ih1 _ _ _ _ _ _ _ _ _
      | exact estoversref19_Check.mono _ _
      | exact estoversref19_Path.mono _ _ _
      | exact LeO.none _
      | refine LeO.ite ?_ ?_
      | refine LeO.bind ?_ (fun _ => ?_)
theorem estoversref21_Hopeless.mono : ∀ a0 a1 a2 a3 a4 a5 a6 k, LeO (estoversref21_Hopeless.f k a0 a1 a2 a3 a4 a5 a6) (estoversref21_Hopeless.f (k + 1) a0 a1 a2 a3 a4 a5 a6) := by
  intro a0 a1 a2 a3 a4 a5 a6 k
  obtain ⟨ih0, ih1⟩ := estoversref21_Hopeless.mono_l k
  unfold estoversref21_Hopeless.f
  repeat' first
      | (with_reducible exact ih0 _ _ _ _ _ _ _ _)
      | (with_reducible exact ih1 _ _ _ _ _ _ _ _ _)
      | (with_reducible exact estoversref19_Check.mono _ _)
      | (with_reducible exact estoversref19_Path.mono _ _ _)
      | (with_reducible exact LeO.refl _)
      | (with_reducible exact LeO.none _)
      | (with_reducible refine LeO.ite ?_ ?_)
      | (with_reducible refine LeO.bind ?_ (fun _ => ?_))
      | exact ih0 _ _ _ _ _ _ _ _
      | exact ih1 _ _ _ _ _ _ _ _ _
      | exact estoversref19_Check.mono _ _
      | exact estoversref19_Path.mono _ _ _
      | exact LeO.none _
      | refine LeO.ite ?_ ?_
      | refine LeO.bind ?_ (fun _ => ?_)
def estoversref21_Hopeless.T7 : Bool × List (List Nat × List Nat) := (true, [([], []), ([0], [0]), ([], []), ([], []), ([], []), ([3, 4], [3, 4]), ([5], [5]), ([2, 6], [2, 6]), ([7], [7]), ([8], [8]), ([1, 9], [1, 9])])
def estoversref21_Hopeless.B7 : List Nat := [0, 1, 0, 0, 0, 24, 56, 124, 252, 508, 1023]
theorem estoversref21_Hopeless.tab7 : rtab .any (opsOf Try.f18 7) = estoversref21_Hopeless.T7 := by kernel_rfl
theorem estoversref21_Hopeless.bits7 : waitsOk estoversref21_Hopeless.T7.2 estoversref21_Hopeless.B7 = true := by kernel_rfl
set_option maxHeartbeats 8000000 in
set_option maxRecDepth 100000 in
theorem estoversref21_Hopeless.calls (k : Nat) (a0_0 : Int) (a0_1 : Int) (a0_2 : Int) (a0_3 : Int) (A1 : Option Addr) (c1 : Nat) (l1 : List (S59)) (a2 : Int) (a3 : Int) (r : Bool) (w : World) (hr1 : Kd.C k59 w A1 l1.length l1) (hc1 : l1.length ≤ c1) (h : estoversref21_Hopeless.f k a0_0 a0_1 a0_2 a0_3 l1 a2 a3 = some r) :
    Calls Try.prog 18 #[.agg #[.int .i64 a0_0, .int .i64 a0_1, .int .i64 a0_2, .int .i64 a0_3], .slice A1 l1.length c1, .int .i64 a2, .int .i64 a3] w fun e w' => e = .returned (.bool r) ∧ Below w.heap.size w w' := by
  have hu37 := Try.underlying37
  have HR1 := Aside0.mk hr1
  have HC1 := Aside0.mk hc1
  clear hr1 hc1
  have HB := Aside0.mk (Below.refl w.heap.size w)
  have H : ((estoversref21_Valid.f a0_0 a0_1 a0_2 a0_3).bind fun t317 => (if t317 = true then ((estoversref19_Check.f k l1).bind fun t318 => (if t318 = 0 then (estoversref21_Hopeless.j0 k l1 a2 a3 (decide (a0_1 ≥ (l1.length : Int))) a0_0 a0_1 a0_2 a0_3) else (estoversref21_Hopeless.j0 k l1 a2 a3 true a0_0 a0_1 a0_2 a0_3))) else (estoversref21_Hopeless.j0 k l1 a2 a3 true a0_0 a0_1 a0_2 a0_3))) = some r := h
  clear h
  have HC5 := Aside0.mk H
  clear H
  go_enter Try.func18, Try.ntmps18
  go_upto_region 1 with (first | ((with_reducible refine gate_dst (N := 4) rfl ?_); (try (refine gate_guard (by rfl) ?_; dsimp only)); refine box_event ?hg (N := 4) ?hd (cs := #[.int .i64 a0_0, .int .i64 a0_1, .int .i64 a0_2, .int .i64 a0_3]) (t := 37) ?hr ?_; (case hd => rfl); (case hg => rfl); (case hr => first | (go_simp; done) | (go_simp; rfl)); intro gb316 hg w6 hbox hb; have n0_ := Aside0.mk (below_step (by repeat (first | (with_reducible first | exact HB.out | apply below_alloc | apply pw_below_drewN | apply below_drew1) | exact HB.out)) hb); have n1_ := Aside0.mk (hbox); have n2_ := Aside0.mk ((by rw [hg]; exact (below_size (by repeat (first | (with_reducible first | exact HB.out | apply below_alloc | apply pw_below_drewN | apply below_drew1) | exact HB.out))) : w.heap.size ≤ gb316)); have n3_ := Aside0.mk ((by rw [hg]; exact (below_size (by repeat (first | (with_reducible first | exact HB.out | apply below_alloc | apply pw_below_drewN | apply below_drew1) | exact HB.out))) : w.heap.size ≤ gb316)); clear HB; have HB := n0_; have BK316 := n1_; have GW316 := n2_; have GE316 := n3_; clear n0_ n1_ n2_ n3_; clear hb hbox hg))
  (try simp only [Act.put, List.setIfInBounds_toArray, List.set_cons_zero, List.set_cons_succ])
  go_cut [25] (fun v25 wc => ∃ (kq : Nat) (x25_4 : Bool), v25 = .bool x25_4 ∧ Aside0 (estoversref21_Hopeless.j0 kq l1 a2 a3 x25_4 a0_0 a0_1 a0_2 a0_3 = some r) ∧ Aside0 (kq ≤ k) ∧ Aside0 (wc.heap[gb316]? = some (.cells #[.int .i64 a0_0, .int .i64 a0_1, .int .i64 a0_2, .int .i64 a0_3] 37 (0, 0))) ∧ Aside0 (Below w.heap.size w wc))
  case first =>
    have H := HC5.out
    clear HC5
    replace H := Option.bind_eq_some_iff.mp H
    obtain ⟨t317, A70, H⟩ := H
    replace H : (if t317 = true then ((estoversref19_Check.f k l1).bind fun t318 => (if t318 = 0 then (estoversref21_Hopeless.j0 k l1 a2 a3 (decide (a0_1 ≥ (l1.length : Int))) a0_0 a0_1 a0_2 a0_3) else (estoversref21_Hopeless.j0 k l1 a2 a3 true a0_0 a0_1 a0_2 a0_3))) else (estoversref21_Hopeless.j0 k l1 a2 a3 true a0_0 a0_1 a0_2 a0_3)) = some r := H
    have A7 := Aside0.mk A70
    clear A70
    by_cases c8 : t317 = true
    · subst c8
      have H1 : ((estoversref19_Check.f k l1).bind fun t318 => (if t318 = 0 then (estoversref21_Hopeless.j0 k l1 a2 a3 (decide (a0_1 ≥ (l1.length : Int))) a0_0 a0_1 a0_2 a0_3) else (estoversref21_Hopeless.j0 k l1 a2 a3 true a0_0 a0_1 a0_2 a0_3))) = some r := by rw [if_pos rfl] at H; exact H
      clear H
      have H := H1
      clear H1
      replace H := Option.bind_eq_some_iff.mp H
      obtain ⟨t318, A90, H⟩ := H
      replace H : (if t318 = 0 then (estoversref21_Hopeless.j0 k l1 a2 a3 (decide (a0_1 ≥ (l1.length : Int))) a0_0 a0_1 a0_2 a0_3) else (estoversref21_Hopeless.j0 k l1 a2 a3 true a0_0 a0_1 a0_2 a0_3)) = some r := H
      have A9 := Aside0.mk A90
      clear A90
      by_cases c10 : t318 = 0
      · rw [if_pos c10] at H
        have c10b0 : (t318 == 0) = true := beq_iff_eq.mpr c10
        have c10b1 : (t318 != 0) = false := bne_eq_false_iff_eq.mpr c10
        clear c10
        (first | rw [c10b0] | (simp only [i64_w, i32_w]; rw [c10b0]) | skip)
        have H' := Aside0.mk H
        clear H
        have hcz11_0 : w6.cell? ⟨gb316, 0, none⟩ = some (.int .i64 a0_0) := (blk_cell BK316.out 0).trans rfl
        have hcz11_1 : w6.cell? ⟨gb316, 1, none⟩ = some (.int .i64 a0_1) := (blk_cell BK316.out 1).trans rfl
        have hcz11_2 : w6.cell? ⟨gb316, 2, none⟩ = some (.int .i64 a0_2) := (blk_cell BK316.out 2).trans rfl
        have hcz11_3 : w6.cell? ⟨gb316, 3, none⟩ = some (.int .i64 a0_3) := (blk_cell BK316.out 3).trans rfl
        have hfz11_0 := blk_frozen BK316.out 0
        have hfz11_1 := blk_frozen BK316.out 1
        have hfz11_2 := blk_frozen BK316.out 2
        have hfz11_3 := blk_frozen BK316.out 3
        go_wp2_with (first | ((with_reducible refine gate_callee (f := 38) rfl ?_); refine goesL_ (some 12) rfl rfl Try.func38 (by kernel_rfl) rfl #[.agg #[.int .i64 a0_0, .int .i64 a0_1, .int .i64 a0_2, .int .i64 a0_3]] rfl (by (try simp only [List.map_toArray, List.map_cons, List.map_nil]); first | done | rfl | (simp only [List.length_drop, List.length_take]; rfl)) ?_; (with_reducible refine (estoversref21_Valid.calls a0_0 a0_1 a0_2 a0_3 true _ A7.out).mono ?_); rintro e w12 ⟨rfl, hb⟩; refine ⟨_, rfl, ?_⟩; have n0_ := Aside0.mk (blk_below (g := gb316) (o := .cells #[.int .i64 a0_0, .int .i64 a0_1, .int .i64 a0_2, .int .i64 a0_3] 37 (0, 0)) (by (with_reducible repeat (first | refine blk_drewN ?_ _ | refine blk_drew ?_ | refine blk_alloc ?_ _)); exact BK316.out) hb); have n1_ := Aside0.mk (below_step (by repeat (first | (with_reducible first | exact HB.out | apply below_alloc | apply pw_below_drewN | apply below_drew1 | refine below_set ?_ GE316.out) | exact HB.out)) hb); clear BK316; clear HB; have BK316 := n0_; have HB := n1_; clear n0_ n1_; (try clear hb); (try clear hb2); (try clear hk); (try clear hi)) | (go_at_call 39; (with_reducible refine (estoversref19_Check.calls k _ _ l1 t318 _ ?side1 ?side2 A9.out).mono ?_); (case side1 => repeat (first | exact (Kd.C_below HR1.out HB.out) | (with_reducible refine Kd.C_alloc ?_ _) | (with_reducible refine Kd.C_drewN ?_ _) | (with_reducible refine Kd.C_drew ?_))); (case side2 => exact HC1.out); rintro e w' ⟨rfl, ⟨nd, rfl⟩⟩; have hcz13_0 : w12.cell? ⟨gb316, 0, none⟩ = some (.int .i64 a0_0) := (blk_cell BK316.out 0).trans rfl; have hcz13_1 : w12.cell? ⟨gb316, 1, none⟩ = some (.int .i64 a0_1) := (blk_cell BK316.out 1).trans rfl; have hcz13_2 : w12.cell? ⟨gb316, 2, none⟩ = some (.int .i64 a0_2) := (blk_cell BK316.out 2).trans rfl; have hcz13_3 : w12.cell? ⟨gb316, 3, none⟩ = some (.int .i64 a0_3) := (blk_cell BK316.out 3).trans rfl; have hfz13_0 := blk_frozen BK316.out 0; have hfz13_1 := blk_frozen BK316.out 1; have hfz13_2 := blk_frozen BK316.out 2; have hfz13_3 := blk_frozen BK316.out 3))
        go_meet
        case rel => exact ⟨_, (decide (a0_1 ≥ (l1.length : Int))), (by first | rfl | (simp; done) | (simp [*]; done)), H', ⟨by first | omega | exact Nat.le_refl _⟩, ⟨by (with_reducible repeat (first | refine blk_drewN ?_ _ | refine blk_drew ?_ | refine blk_alloc ?_ _)); exact BK316.out⟩, ⟨by repeat (first | (with_reducible first | exact HB.out | apply below_alloc | apply pw_below_drewN | apply below_drew1 | refine below_set ?_ GE316.out) | exact HB.out)⟩⟩
      · rw [if_neg c10] at H
        have c10b0 : (t318 == 0) = false := beq_eq_false_iff_ne.mpr c10
        have c10b1 : (t318 != 0) = true := bne_iff_ne.mpr c10
        (first | rw [c10b0] | (simp only [i64_w, i32_w]; rw [c10b0]) | skip)
        have H' := Aside0.mk H
        clear H
        have hcz14_0 : w6.cell? ⟨gb316, 0, none⟩ = some (.int .i64 a0_0) := (blk_cell BK316.out 0).trans rfl
        have hcz14_1 : w6.cell? ⟨gb316, 1, none⟩ = some (.int .i64 a0_1) := (blk_cell BK316.out 1).trans rfl
        have hcz14_2 : w6.cell? ⟨gb316, 2, none⟩ = some (.int .i64 a0_2) := (blk_cell BK316.out 2).trans rfl
        have hcz14_3 : w6.cell? ⟨gb316, 3, none⟩ = some (.int .i64 a0_3) := (blk_cell BK316.out 3).trans rfl
        have hfz14_0 := blk_frozen BK316.out 0
        have hfz14_1 := blk_frozen BK316.out 1
        have hfz14_2 := blk_frozen BK316.out 2
        have hfz14_3 := blk_frozen BK316.out 3
        go_wp2_with (first | ((with_reducible refine gate_callee (f := 38) rfl ?_); refine goesL_ (some 12) rfl rfl Try.func38 (by kernel_rfl) rfl #[.agg #[.int .i64 a0_0, .int .i64 a0_1, .int .i64 a0_2, .int .i64 a0_3]] rfl (by (try simp only [List.map_toArray, List.map_cons, List.map_nil]); first | done | rfl | (simp only [List.length_drop, List.length_take]; rfl)) ?_; (with_reducible refine (estoversref21_Valid.calls a0_0 a0_1 a0_2 a0_3 true _ A7.out).mono ?_); rintro e w15 ⟨rfl, hb⟩; refine ⟨_, rfl, ?_⟩; have n0_ := Aside0.mk (blk_below (g := gb316) (o := .cells #[.int .i64 a0_0, .int .i64 a0_1, .int .i64 a0_2, .int .i64 a0_3] 37 (0, 0)) (by (with_reducible repeat (first | refine blk_drewN ?_ _ | refine blk_drew ?_ | refine blk_alloc ?_ _)); exact BK316.out) hb); have n1_ := Aside0.mk (below_step (by repeat (first | (with_reducible first | exact HB.out | apply below_alloc | apply pw_below_drewN | apply below_drew1 | refine below_set ?_ GE316.out) | exact HB.out)) hb); clear BK316; clear HB; have BK316 := n0_; have HB := n1_; clear n0_ n1_; (try clear hb); (try clear hb2); (try clear hk); (try clear hi)) | (go_at_call 39; (with_reducible refine (estoversref19_Check.calls k _ _ l1 t318 _ ?side1 ?side2 A9.out).mono ?_); (case side1 => repeat (first | exact (Kd.C_below HR1.out HB.out) | (with_reducible refine Kd.C_alloc ?_ _) | (with_reducible refine Kd.C_drewN ?_ _) | (with_reducible refine Kd.C_drew ?_))); (case side2 => exact HC1.out); rintro e w' ⟨rfl, ⟨nd, rfl⟩⟩))
        go_meet
        case rel => exact ⟨_, (true), (by first | rfl | (simp; done) | (simp [*]; done)), H', ⟨by first | omega | exact Nat.le_refl _⟩, ⟨by (with_reducible repeat (first | refine blk_drewN ?_ _ | refine blk_drew ?_ | refine blk_alloc ?_ _)); exact BK316.out⟩, ⟨by repeat (first | (with_reducible first | exact HB.out | apply below_alloc | apply pw_below_drewN | apply below_drew1 | refine below_set ?_ GE316.out) | exact HB.out)⟩⟩
    · replace c8 := Bool.eq_false_iff.mpr c8
      subst c8
      have H1 : (estoversref21_Hopeless.j0 k l1 a2 a3 true a0_0 a0_1 a0_2 a0_3) = some r := by rw [if_neg (show ¬ (false = true) by decide)] at H; exact H
      clear H
      have H := H1
      clear H1
      have H' := Aside0.mk H
      clear H
      have hcz16_0 : w6.cell? ⟨gb316, 0, none⟩ = some (.int .i64 a0_0) := (blk_cell BK316.out 0).trans rfl
      have hcz16_1 : w6.cell? ⟨gb316, 1, none⟩ = some (.int .i64 a0_1) := (blk_cell BK316.out 1).trans rfl
      have hcz16_2 : w6.cell? ⟨gb316, 2, none⟩ = some (.int .i64 a0_2) := (blk_cell BK316.out 2).trans rfl
      have hcz16_3 : w6.cell? ⟨gb316, 3, none⟩ = some (.int .i64 a0_3) := (blk_cell BK316.out 3).trans rfl
      have hfz16_0 := blk_frozen BK316.out 0
      have hfz16_1 := blk_frozen BK316.out 1
      have hfz16_2 := blk_frozen BK316.out 2
      have hfz16_3 := blk_frozen BK316.out 3
      go_wp2_with (first | ((with_reducible refine gate_callee (f := 38) rfl ?_); refine goesL_ (some 12) rfl rfl Try.func38 (by kernel_rfl) rfl #[.agg #[.int .i64 a0_0, .int .i64 a0_1, .int .i64 a0_2, .int .i64 a0_3]] rfl (by (try simp only [List.map_toArray, List.map_cons, List.map_nil]); first | done | rfl | (simp only [List.length_drop, List.length_take]; rfl)) ?_; (with_reducible refine (estoversref21_Valid.calls a0_0 a0_1 a0_2 a0_3 false _ A7.out).mono ?_); rintro e w17 ⟨rfl, hb⟩; refine ⟨_, rfl, ?_⟩; have n0_ := Aside0.mk (blk_below (g := gb316) (o := .cells #[.int .i64 a0_0, .int .i64 a0_1, .int .i64 a0_2, .int .i64 a0_3] 37 (0, 0)) (by (with_reducible repeat (first | refine blk_drewN ?_ _ | refine blk_drew ?_ | refine blk_alloc ?_ _)); exact BK316.out) hb); have n1_ := Aside0.mk (below_step (by repeat (first | (with_reducible first | exact HB.out | apply below_alloc | apply pw_below_drewN | apply below_drew1 | refine below_set ?_ GE316.out) | exact HB.out)) hb); clear BK316; clear HB; have BK316 := n0_; have HB := n1_; clear n0_ n1_; (try clear hb); (try clear hb2); (try clear hk); (try clear hi)))
      go_meet
      case rel => exact ⟨_, (true), (by first | rfl | (simp; done) | (simp [*]; done)), H', ⟨by first | omega | exact Nat.le_refl _⟩, ⟨by (with_reducible repeat (first | refine blk_drewN ?_ _ | refine blk_drew ?_ | refine blk_alloc ?_ _)); exact BK316.out⟩, ⟨by repeat (first | (with_reducible first | exact HB.out | apply below_alloc | apply pw_below_drewN | apply below_drew1 | refine below_set ?_ GE316.out) | exact HB.out)⟩⟩
  case rest =>
    clear HC5
    try clear c1
    try clear p2
    try clear c3
    try clear c8
    try clear c10
    try clear c10b0
    try clear c10b1
    try clear hcz11_0
    try clear hcz11_1
    try clear hcz11_2
    try clear hcz11_3
    try clear hcz13_0
    try clear hcz13_1
    try clear hcz13_2
    try clear hcz13_3
    try clear hcz14_0
    try clear hcz14_1
    try clear hcz14_2
    try clear hcz14_3
    try clear hcz16_0
    try clear hcz16_1
    try clear hcz16_2
    try clear hcz16_3
    try clear hfz11_0
    try clear hfz11_1
    try clear hfz11_2
    try clear hfz11_3
    try clear hfz13_0
    try clear hfz13_1
    try clear hfz13_2
    try clear hfz13_3
    try clear hfz14_0
    try clear hfz14_1
    try clear hfz14_2
    try clear hfz14_3
    try clear hfz16_0
    try clear hfz16_1
    try clear hfz16_2
    try clear hfz16_3
    obtain ⟨kq, x25_4, rfl, HA, HJ4, BK316, HB⟩ := hcut
    cases kq with
    | zero => exact absurd HA.out (by simp [estoversref21_Hopeless.j0])
    | succ kj4 =>
      have H := HA.out
      clear HA
      simp only [estoversref21_Hopeless.j0] at H
      by_cases c18 : x25_4 = true
      · subst c18
        have H1 : (some true) = some r := by rw [if_pos rfl] at H; exact H
        clear H
        have H := H1
        clear H1
        obtain rfl := Option.some.inj H
        go_wp2
        go_ret
        exact ⟨by first | rfl | (simp [errW_none, errW_some] <;> rfl) | (simp [*, errW_none, errW_some] <;> rfl), by repeat (first | (with_reducible first | exact HB.out | apply below_alloc | apply pw_below_drewN | apply below_drew1 | refine below_set ?_ GE316.out) | exact HB.out)⟩
      · replace c18 := Bool.eq_false_iff.mpr c18
        subst c18
        have H1 : ((estoversref19_Path.f kj4 l1 a0_1).bind fun t319 => (estoversref21_Hopeless.l0 kj4 l1 a2 a3 t319 0 a0_0 a0_1 a0_2 a0_3)) = some r := by rw [if_neg (show ¬ (false = true) by decide)] at H; exact H
        clear H
        have H := H1
        clear H1
        replace H := Option.bind_eq_some_iff.mp H
        obtain ⟨t319, A190, H⟩ := H
        replace H : (estoversref21_Hopeless.l0 kj4 l1 a2 a3 t319 0 a0_0 a0_1 a0_2 a0_3) = some r := H
        have A19 := Aside0.mk A190
        clear A190
        have H' := Aside0.mk H
        clear H
        have hcz20_0 : wc.cell? ⟨gb316, 0, none⟩ = some (.int .i64 a0_0) := (blk_cell BK316.out 0).trans rfl
        have hcz20_1 : wc.cell? ⟨gb316, 1, none⟩ = some (.int .i64 a0_1) := (blk_cell BK316.out 1).trans rfl
        have hcz20_2 : wc.cell? ⟨gb316, 2, none⟩ = some (.int .i64 a0_2) := (blk_cell BK316.out 2).trans rfl
        have hcz20_3 : wc.cell? ⟨gb316, 3, none⟩ = some (.int .i64 a0_3) := (blk_cell BK316.out 3).trans rfl
        have hfz20_0 := blk_frozen BK316.out 0
        have hfz20_1 := blk_frozen BK316.out 1
        have hfz20_2 := blk_frozen BK316.out 2
        have hfz20_3 := blk_frozen BK316.out 3
        go_wp2_with (first | ((with_reducible refine gate_callee (f := 40) rfl ?_); refine goesL_ (some 29) rfl rfl Try.func40 (by kernel_rfl) rfl #[.slice A1 l1.length c1, .int .i64 a0_1] rfl (by (try simp only [List.map_toArray, List.map_cons, List.map_nil]); first | done | rfl | (simp only [List.length_drop, List.length_take]; rfl)) ?_; (with_reducible refine (estoversref19_Path.calls kj4 _ _ l1 a0_1 t319 _ ?side1 ?side2 A19.out).mono ?_); (case side1 => repeat (first | exact (Kd.C_below HR1.out HB.out) | (with_reducible refine Kd.C_alloc ?_ _) | (with_reducible refine Kd.C_drewN ?_ _) | (with_reducible refine Kd.C_drew ?_))); (case side2 => exact HC1.out); rintro e w21 ⟨v320, rfl, ho0, hb⟩; refine ⟨_, rfl, ?_⟩; have n0_ := Aside0.mk (Kd.R_lower ho0 (below_size (by repeat (first | (with_reducible first | exact HB.out | apply below_alloc | apply pw_below_drewN | apply below_drew1 | refine below_set ?_ GE316.out) | exact HB.out)))); have n1_ := Aside0.mk (blk_below (g := gb316) (o := .cells #[.int .i64 a0_0, .int .i64 a0_1, .int .i64 a0_2, .int .i64 a0_3] 37 (0, 0)) (by (with_reducible repeat (first | refine blk_drewN ?_ _ | refine blk_drew ?_ | refine blk_alloc ?_ _)); exact BK316.out) hb); have n2_ := Aside0.mk (below_step (by repeat (first | (with_reducible first | exact HB.out | apply below_alloc | apply pw_below_drewN | apply below_drew1 | refine below_set ?_ GE316.out) | exact HB.out)) hb); clear BK316; clear HB; have HO321 := n0_; have BK316 := n1_; have HB := n2_; clear n0_ n1_ n2_; (try clear hb); (try clear hb2); (try clear hk); (try clear hi); (try clear ho0)))
        go_loopg [10] kj4 (fun kq v10 w' => ∃ (x10_2 : Int), v10 = .int .i64 x10_2 ∧ Aside0 (estoversref21_Hopeless.l0 kq l1 a2 a3 t319 x10_2 a0_0 a0_1 a0_2 a0_3 = some r) ∧ Aside0 (kq ≤ kj4) ∧ Aside0 (Kd.R (Kd.int .i64) 3 w' w.heap.size (fun _ => True) v320 t319) ∧ Aside0 (w'.heap[gb316]? = some (.cells #[.int .i64 a0_0, .int .i64 a0_1, .int .i64 a0_2, .int .i64 a0_3] 37 (0, 0))) ∧ Aside0 (Below w.heap.size w w'))
        case atStart => exact ⟨(0), (by first | rfl | (simp; done) | (simp [*]; done)), H', ⟨Nat.le_refl _⟩, ⟨by (with_reducible repeat (first | apply Kd.R_alloc | apply Kd.R_drewN | apply Kd.R_drew)); exact HO321.out⟩, ⟨by (with_reducible repeat (first | refine blk_drewN ?_ _ | refine blk_drew ?_ | refine blk_alloc ?_ _)); exact BK316.out⟩, ⟨by repeat (first | (with_reducible first | exact HB.out | apply below_alloc | apply pw_below_drewN | apply below_drew1 | refine below_set ?_ GE316.out) | exact HB.out)⟩⟩
        case round =>
          clear H'
          try clear c1
          try clear p2
          try clear c3
          try clear c4
          try clear c8
          try clear c10
          try clear c10b0
          try clear c10b1
          try clear c18
          try clear hcz11_0
          try clear hcz11_1
          try clear hcz11_2
          try clear hcz11_3
          try clear hcz13_0
          try clear hcz13_1
          try clear hcz13_2
          try clear hcz13_3
          try clear hcz14_0
          try clear hcz14_1
          try clear hcz14_2
          try clear hcz14_3
          try clear hcz16_0
          try clear hcz16_1
          try clear hcz16_2
          try clear hcz16_3
          try clear hcz20_0
          try clear hcz20_1
          try clear hcz20_2
          try clear hcz20_3
          try clear hfz11_0
          try clear hfz11_1
          try clear hfz11_2
          try clear hfz11_3
          try clear hfz13_0
          try clear hfz13_1
          try clear hfz13_2
          try clear hfz13_3
          try clear hfz14_0
          try clear hfz14_1
          try clear hfz14_2
          try clear hfz14_3
          try clear hfz16_0
          try clear hfz16_1
          try clear hfz16_2
          try clear hfz16_3
          try clear hfz20_0
          try clear hfz20_1
          try clear hfz20_2
          try clear hfz20_3
          try clear p2
          obtain ⟨x10_2, rfl, HA, HK2, HO_9, BK316, HB⟩ := hrel
          cases gk with
          | zero => exact absurd HA.out (by simp [estoversref21_Hopeless.l0])
          | succ k2 =>
            have H := HA.out
            clear HA
            simp only [estoversref21_Hopeless.l0] at H
            by_cases c22 : x10_2 < (t319.length : Int)
            · rw [if_pos c22] at H
              have c22b0 : decide (x10_2 < (t319.length : Int)) = true := decide_eq_true c22
              clear c22
              replace H := Option.bind_eq_some_iff.mp H
              obtain ⟨t322, A230, H⟩ := H
              replace H : (if 0 ≤ x10_2 then (if 0 ≤ (rd t319 x10_2) then (if (rd t319 x10_2) < (l1.length : Int) then (if t322 > ((rd_T59 l1 (rd t319 x10_2)).f4) then (some true) else (estoversref21_Hopeless.l0 k2 l1 a2 a3 t319 (wrap64 (x10_2 + 1)) a0_0 a0_1 a0_2 a0_3)) else (none)) else (none)) else (none)) = some r := H
              have A23 := Aside0.mk A230
              clear A230
              by_cases c24 : 0 ≤ x10_2
              · rw [if_pos c24] at H
                have c24b0 : decide (0 ≤ x10_2) = true := decide_eq_true c24
                clear c24
                by_cases c25 : 0 ≤ (rd t319 x10_2)
                · rw [if_pos c25] at H
                  have c25b0 : decide (0 ≤ (rd t319 x10_2)) = true := decide_eq_true c25
                  clear c25
                  by_cases c26 : (rd t319 x10_2) < (l1.length : Int)
                  · rw [if_pos c26] at H
                    have c26b0 : decide ((rd t319 x10_2) < (l1.length : Int)) = true := decide_eq_true c26
                    clear c26
                    by_cases c27 : t322 > ((rd_T59 l1 (rd t319 x10_2)).f4)
                    · rw [if_pos c27] at H
                      have c27b0 : decide (((rd_T59 l1 (rd t319 x10_2)).f4) < t322) = true := decide_eq_true c27
                      clear c27
                      obtain rfl := Option.some.inj H
                      obtain ⟨Ao28, co28, eo28⟩ := Kd.R_slice HO_9.out
                      subst eo28
                      try go_wp2
                      have n0_ := Aside0.mk (Kd.R_drew HO_9.out)
                      have n1_ := Aside0.mk (blk_drew BK316.out)
                      have n2_ := Aside0.mk (below_drew1 HB.out)
                      clear HO_9
                      clear BK316
                      clear HB
                      have HO_9 := n0_
                      have BK316 := n1_
                      have HB := n2_
                      clear n0_ n1_ n2_
                      have p323 : 0 ≤ (x10_2 : Int) := of_decide_eq_true (by first | (with_reducible assumption) | assumption)
                      have q323 : x10_2 < (t319.length : Int) := of_decide_eq_true (by first | (with_reducible assumption) | assumption)
                      obtain ⟨ad323, e323, hx323_0⟩ := Kd.at_int (Kd.R_reads' HO_9.out).2.2 x10_2 p323 q323
                      cases e323
                      replace p323 := eq_true p323
                      replace q323 := eq_true q323
                      have p324 : 0 ≤ ((rd t319 x10_2) : Int) := of_decide_eq_true (by first | (with_reducible assumption) | assumption)
                      have q324 : (rd t319 x10_2) < (l1.length : Int) := of_decide_eq_true (by first | (with_reducible assumption) | assumption)
                      obtain ⟨ad324, e324, hx324_0, hx324_1, hx324_2, hx324_3, hx324_4⟩ := at_T59 HR1.out (rd t319 x10_2) p324 q324
                      have hw324_4 := hx324_4
                      have hw324_3 := hx324_3
                      have hw324_2 := hx324_2
                      have hw324_1 := hx324_1
                      have hw324_0 := hx324_0
                      cases e324
                      replace hx324_0 := (HB.out.cell (World.block_lt_of_cell? w _ hx324_0)).trans hx324_0
                      replace hx324_1 := (HB.out.cell (World.block_lt_of_cell? w _ hx324_1)).trans hx324_1
                      replace hx324_2 := (HB.out.cell (World.block_lt_of_cell? w _ hx324_2)).trans hx324_2
                      replace hx324_3 := (HB.out.cell (World.block_lt_of_cell? w _ hx324_3)).trans hx324_3
                      replace hx324_4 := (HB.out.cell (World.block_lt_of_cell? w _ hx324_4)).trans hx324_4
                      replace p324 := eq_true p324
                      replace q324 := eq_true q324
                      refine start_ (n := 11) (S := fun w' => w'.cell? ⟨gb316, 0, none⟩ = some (.int .i64 a0_0) ∧ w'.cell? ⟨gb316, 1, none⟩ = some (.int .i64 a0_1) ∧ w'.cell? ⟨gb316, 2, none⟩ = some (.int .i64 a0_2) ∧ w'.cell? ⟨gb316, 3, none⟩ = some (.int .i64 a0_3) ∧ w'.cell? (ad323.add (x10_2).toNat) = some (.int .i64 (rd t319 x10_2)) ∧ w'.cell? (ad324.add (((rd t319 x10_2)).toNat * 5)) = some (.int .i64 ((rd_T59 l1 (rd t319 x10_2)).f0)) ∧ w'.cell? ⟨(ad324.add (((rd t319 x10_2)).toNat * 5)).block, (ad324.add (((rd t319 x10_2)).toNat * 5)).off + 1, none⟩ = some (.int .i64 ((rd_T59 l1 (rd t319 x10_2)).f1)) ∧ w'.cell? ⟨(ad324.add (((rd t319 x10_2)).toNat * 5)).block, (ad324.add (((rd t319 x10_2)).toNat * 5)).off + 2, none⟩ = some (.int .i64 ((rd_T59 l1 (rd t319 x10_2)).f2)) ∧ w'.cell? ⟨(ad324.add (((rd t319 x10_2)).toNat * 5)).block, (ad324.add (((rd t319 x10_2)).toNat * 5)).off + 3, none⟩ = some (.int .i64 ((rd_T59 l1 (rd t319 x10_2)).f3)) ∧ w'.cell? ⟨(ad324.add (((rd t319 x10_2)).toNat * 5)).block, (ad324.add (((rd t319 x10_2)).toNat * 5)).off + 4, none⟩ = some (.int .i64 ((rd_T59 l1 (rd t319 x10_2)).f4))) (ds := []) #[false, false, false, false, false, false, false, false, false, false, false] (by kernel_rfl) rfl rfl ⟨(blk_cell BK316.out 0).trans rfl, (blk_cell BK316.out 1).trans rfl, (blk_cell BK316.out 2).trans rfl, (blk_cell BK316.out 3).trans rfl, hx323_0, ((HB.out.cell (World.block_lt_of_cell? w _ hw324_0)).trans hw324_0), ((HB.out.cell (World.block_lt_of_cell? w _ hw324_1)).trans hw324_1), ((HB.out.cell (World.block_lt_of_cell? w _ hw324_2)).trans hw324_2), ((HB.out.cell (World.block_lt_of_cell? w _ hw324_3)).trans hw324_3), ((HB.out.cell (World.block_lt_of_cell? w _ hw324_4)).trans hw324_4)⟩ (fun hHeld => ?_); refine with_tabW estoversref21_Hopeless.tab7 estoversref21_Hopeless.bits7 (fun HT_ HW_ => ?_)
                      generalize wr.drew = w29 at HO_9 BK316 HB hx323_0 hx324_0 hx324_1 hx324_2 hx324_3 hx324_4 hHeld ⊢
                      refine pure_ (i := 2) (N := some 38) (v := ?_) (a' := ?_) #[false, false, true, false, false, false, false, false, false, false, false] rfl rfl (any_of HT_.out (by kernel_rfl)) (fun _ _ _ h => h) (Or.inl ⟨by rfl, ?_⟩) ?_ ?_
                      rotate_left
                      · intro w'
                        go_simp
                        with_reducible rfl
                      rotate_left
                      · simp only [Act.put, List.setIfInBounds_toArray, List.set_cons_zero, List.set_cons_succ, i64_w, i32_w]
                        rfl
                      refine pure_ (i := 3) (N := some 39) (v := ?_) (a' := ?_) #[false, false, true, true, false, false, false, false, false, false, false] rfl rfl (any_of HT_.out (by kernel_rfl)) (fun _ _ _ h => h) (Or.inl ⟨by rfl, ?_⟩) ?_ ?_
                      rotate_left
                      · intro w'
                        go_simp
                        with_reducible rfl
                      rotate_left
                      · simp only [Act.put, List.setIfInBounds_toArray, List.set_cons_zero, List.set_cons_succ, i64_w, i32_w]
                        rfl
                      refine pure_ (i := 4) (N := some 40) (v := ?_) (a' := ?_) #[false, false, true, true, true, false, false, false, false, false, false] rfl rfl (any_of HT_.out (by kernel_rfl)) (fun _ _ _ h => h) (Or.inl ⟨by rfl, ?_⟩) ?_ ?_
                      rotate_left
                      · intro w'
                        go_simp
                        with_reducible rfl
                      rotate_left
                      · simp only [Act.put, List.setIfInBounds_toArray, List.set_cons_zero, List.set_cons_succ, i64_w, i32_w]
                        rfl
                      refine pure_ (i := 5) (N := some 41) (v := ?_) (a' := ?_) #[false, false, true, true, true, true, false, false, false, false, false] rfl rfl (any_of HT_.out (by kernel_rfl)) (fun _ _ _ h => h) (Or.inl ⟨by rfl, ?_⟩) ?_ ?_
                      rotate_left
                      · intro w'
                        go_simp
                        with_reducible rfl
                      rotate_left
                      · simp only [Act.put, List.setIfInBounds_toArray, List.set_cons_zero, List.set_cons_succ, i64_w, i32_w]
                        rfl
                      refine take_ (i := 0) (N := some 36) (v := ?_) (a' := ?_) #[true, false, true, true, true, true, false, false, false, false, false] rfl rfl (take_ofW HT_.out HW_.out (by kernel_rfl)) (fun _ _ _ h => h) (Or.inl ⟨by rfl, ?_⟩) hHeld ?_ ?_
                      rotate_left
                      · rintro w' ⟨s0, s1, s2, s3, s4, s5, s6, s7, s8, s9⟩
                        go_simp
                        with_reducible rfl
                      rotate_left
                      · simp only [Act.put, List.setIfInBounds_toArray, List.set_cons_zero, List.set_cons_succ, i64_w, i32_w]
                        rfl
                      refine take_ (i := 6) (N := some 42) (v := ?_) (a' := ?_) #[true, false, true, true, true, true, true, false, false, false, false] rfl rfl (take_ofW HT_.out HW_.out (by kernel_rfl)) (fun _ _ _ h => h) (Or.inl ⟨by rfl, ?_⟩) hHeld ?_ ?_
                      rotate_left
                      · rintro w' ⟨s0, s1, s2, s3, s4, s5, s6, s7, s8, s9⟩
                        go_simp
                        with_reducible rfl
                      rotate_left
                      · simp only [Act.put, List.setIfInBounds_toArray, List.set_cons_zero, List.set_cons_succ, i64_w, i32_w]
                        rfl
                      refine pure_ (i := 7) (N := some 43) (v := ?_) (a' := ?_) #[true, false, true, true, true, true, true, true, false, false, false] rfl rfl (any_of HT_.out (by kernel_rfl)) (fun _ _ _ h => h) (Or.inl ⟨by rfl, ?_⟩) ?_ ?_
                      rotate_left
                      · intro w'
                        go_simp
                        with_reducible rfl
                      rotate_left
                      · simp only [Act.put, List.setIfInBounds_toArray, List.set_cons_zero, List.set_cons_succ, i64_w, i32_w]
                        rfl
                      refine pure_ (i := 8) (N := some 44) (v := ?_) (a' := ?_) #[true, false, true, true, true, true, true, true, true, false, false] rfl rfl (any_of HT_.out (by kernel_rfl)) (fun _ _ _ h => h) (Or.inl ⟨by rfl, ?_⟩) ?_ ?_
                      rotate_left
                      · intro w'
                        go_simp
                        with_reducible rfl
                      rotate_left
                      · simp only [Act.put, List.setIfInBounds_toArray, List.set_cons_zero, List.set_cons_succ, i64_w, i32_w]
                        rfl
                      refine take_ (i := 9) (N := some 45) (v := ?_) (a' := ?_) #[true, false, true, true, true, true, true, true, true, true, false] rfl rfl (take_ofW HT_.out HW_.out (by kernel_rfl)) (fun _ _ _ h => h) (Or.inl ⟨by rfl, ?_⟩) hHeld ?_ ?_
                      rotate_left
                      · rintro w' ⟨s0, s1, s2, s3, s4, s5, s6, s7, s8, s9⟩
                        go_simp
                        with_reducible rfl
                      rotate_left
                      · simp only [Act.put, List.setIfInBounds_toArray, List.set_cons_zero, List.set_cons_succ, i64_w, i32_w]
                        rfl
                      refine one_ (i := 1) (N := some 37) #[true, true, true, true, true, true, true, true, true, true, false] rfl rfl (one_of HT_.out (by kernel_rfl)) (by decide) (fun K hK => ?_)
                      refine goes_ Try.func41 (by kernel_rfl) rfl #[.agg #[.int .i64 a0_0, .int .i64 a0_1, .int .i64 a0_2, .int .i64 a0_3]] (by rfl) rfl rfl (by (try simp only [List.map_toArray, List.map_cons, List.map_nil]); first | done | rfl | (simp only [List.length_drop, List.length_take]; rfl)) ?_
                      with_reducible refine (estoversref21_Total.calls a0_0 a0_1 a0_2 a0_3 t322 _ A23.out).mono ?_
                      rintro e w30 ⟨rfl, hb⟩
                      have HS4_ := (hb.cell (World.block_lt_of_cell? _ _ (hHeld.2.2.2.2.1))).trans (hHeld.2.2.2.2.1)
                      refine ⟨_, rfl, ?_⟩
                      have n0_ := Aside0.mk (Kd.R_below (by (with_reducible repeat (first | apply Kd.R_alloc | apply Kd.R_drewN | apply Kd.R_drew)); exact HO_9.out) hb)
                      have n1_ := Aside0.mk (blk_below (g := gb316) (o := .cells #[.int .i64 a0_0, .int .i64 a0_1, .int .i64 a0_2, .int .i64 a0_3] 37 (0, 0)) (by (with_reducible repeat (first | refine blk_drewN ?_ _ | refine blk_drew ?_ | refine blk_alloc ?_ _)); exact BK316.out) hb)
                      have n2_ := Aside0.mk (below_step (by repeat (first | (with_reducible first | exact HB.out | apply below_alloc | apply pw_below_drewN | apply below_drew1 | refine below_set ?_ GE316.out) | exact HB.out)) hb)
                      clear HO_9
                      clear BK316
                      clear HB
                      have HO_9 := n0_
                      have BK316 := n1_
                      have HB := n2_
                      clear n0_ n1_ n2_
                      (try clear hb)
                      (try clear hb2)
                      (try clear hk)
                      (try clear hi)
                      refine hK.out _ _ ⟨(blk_cell BK316.out 0).trans rfl, (blk_cell BK316.out 1).trans rfl, (blk_cell BK316.out 2).trans rfl, (blk_cell BK316.out 3).trans rfl, HS4_, ((HB.out.cell (World.block_lt_of_cell? w _ hw324_0)).trans hw324_0), ((HB.out.cell (World.block_lt_of_cell? w _ hw324_1)).trans hw324_1), ((HB.out.cell (World.block_lt_of_cell? w _ hw324_2)).trans hw324_2), ((HB.out.cell (World.block_lt_of_cell? w _ hw324_3)).trans hw324_3), ((HB.out.cell (World.block_lt_of_cell? w _ hw324_4)).trans hw324_4)⟩ (fun hHeld => ?_)
                      clear hK K
                      refine norm_ (a' := ?_) ?_ ?_
                      rotate_left
                      · show Act.put _ (some 37) _ = _
                        simp only [Act.put, List.setIfInBounds_toArray, List.set_cons_zero, List.set_cons_succ, i64_w, i32_w]
                        rfl
                      refine pure_ (i := 10) (N := some 46) (v := ?_) (a' := ?_) #[true, true, true, true, true, true, true, true, true, true, true] rfl rfl (any_of HT_.out (by kernel_rfl)) (fun _ _ _ h => h) (Or.inl ⟨by rfl, ?_⟩) ?_ ?_
                      rotate_left
                      · intro w'
                        go_simp
                        with_reducible rfl
                      rotate_left
                      · simp only [Act.put, List.setIfInBounds_toArray, List.set_cons_zero, List.set_cons_succ, i64_w, i32_w]
                        rfl
                      refine done_ (done_of HT_.out (by kernel_rfl)) ?_
                      try go_wp2
                      go_ret
                      exact ⟨by first | rfl | (simp [errW_none, errW_some] <;> rfl) | (simp [*, errW_none, errW_some] <;> rfl), by repeat (first | (with_reducible first | exact HB.out | apply below_alloc | apply pw_below_drewN | apply below_drew1 | refine below_set ?_ GE316.out) | exact HB.out)⟩
                    · rw [if_neg c27] at H
                      have c27b0 : decide (((rd_T59 l1 (rd t319 x10_2)).f4) < t322) = false := decide_eq_false c27
                      clear c27
                      have H' := Aside0.mk H
                      clear H
                      obtain ⟨Ao31, co31, eo31⟩ := Kd.R_slice HO_9.out
                      subst eo31
                      try go_wp2
                      have n0_ := Aside0.mk (Kd.R_drew HO_9.out)
                      have n1_ := Aside0.mk (blk_drew BK316.out)
                      have n2_ := Aside0.mk (below_drew1 HB.out)
                      clear HO_9
                      clear BK316
                      clear HB
                      have HO_9 := n0_
                      have BK316 := n1_
                      have HB := n2_
                      clear n0_ n1_ n2_
                      have p323 : 0 ≤ (x10_2 : Int) := of_decide_eq_true (by first | (with_reducible assumption) | assumption)
                      have q323 : x10_2 < (t319.length : Int) := of_decide_eq_true (by first | (with_reducible assumption) | assumption)
                      obtain ⟨ad323, e323, hx323_0⟩ := Kd.at_int (Kd.R_reads' HO_9.out).2.2 x10_2 p323 q323
                      cases e323
                      replace p323 := eq_true p323
                      replace q323 := eq_true q323
                      have p324 : 0 ≤ ((rd t319 x10_2) : Int) := of_decide_eq_true (by first | (with_reducible assumption) | assumption)
                      have q324 : (rd t319 x10_2) < (l1.length : Int) := of_decide_eq_true (by first | (with_reducible assumption) | assumption)
                      obtain ⟨ad324, e324, hx324_0, hx324_1, hx324_2, hx324_3, hx324_4⟩ := at_T59 HR1.out (rd t319 x10_2) p324 q324
                      have hw324_4 := hx324_4
                      have hw324_3 := hx324_3
                      have hw324_2 := hx324_2
                      have hw324_1 := hx324_1
                      have hw324_0 := hx324_0
                      cases e324
                      replace hx324_0 := (HB.out.cell (World.block_lt_of_cell? w _ hx324_0)).trans hx324_0
                      replace hx324_1 := (HB.out.cell (World.block_lt_of_cell? w _ hx324_1)).trans hx324_1
                      replace hx324_2 := (HB.out.cell (World.block_lt_of_cell? w _ hx324_2)).trans hx324_2
                      replace hx324_3 := (HB.out.cell (World.block_lt_of_cell? w _ hx324_3)).trans hx324_3
                      replace hx324_4 := (HB.out.cell (World.block_lt_of_cell? w _ hx324_4)).trans hx324_4
                      replace p324 := eq_true p324
                      replace q324 := eq_true q324
                      refine start_ (n := 11) (S := fun w' => w'.cell? ⟨gb316, 0, none⟩ = some (.int .i64 a0_0) ∧ w'.cell? ⟨gb316, 1, none⟩ = some (.int .i64 a0_1) ∧ w'.cell? ⟨gb316, 2, none⟩ = some (.int .i64 a0_2) ∧ w'.cell? ⟨gb316, 3, none⟩ = some (.int .i64 a0_3) ∧ w'.cell? (ad323.add (x10_2).toNat) = some (.int .i64 (rd t319 x10_2)) ∧ w'.cell? (ad324.add (((rd t319 x10_2)).toNat * 5)) = some (.int .i64 ((rd_T59 l1 (rd t319 x10_2)).f0)) ∧ w'.cell? ⟨(ad324.add (((rd t319 x10_2)).toNat * 5)).block, (ad324.add (((rd t319 x10_2)).toNat * 5)).off + 1, none⟩ = some (.int .i64 ((rd_T59 l1 (rd t319 x10_2)).f1)) ∧ w'.cell? ⟨(ad324.add (((rd t319 x10_2)).toNat * 5)).block, (ad324.add (((rd t319 x10_2)).toNat * 5)).off + 2, none⟩ = some (.int .i64 ((rd_T59 l1 (rd t319 x10_2)).f2)) ∧ w'.cell? ⟨(ad324.add (((rd t319 x10_2)).toNat * 5)).block, (ad324.add (((rd t319 x10_2)).toNat * 5)).off + 3, none⟩ = some (.int .i64 ((rd_T59 l1 (rd t319 x10_2)).f3)) ∧ w'.cell? ⟨(ad324.add (((rd t319 x10_2)).toNat * 5)).block, (ad324.add (((rd t319 x10_2)).toNat * 5)).off + 4, none⟩ = some (.int .i64 ((rd_T59 l1 (rd t319 x10_2)).f4))) (ds := []) #[false, false, false, false, false, false, false, false, false, false, false] (by kernel_rfl) rfl rfl ⟨(blk_cell BK316.out 0).trans rfl, (blk_cell BK316.out 1).trans rfl, (blk_cell BK316.out 2).trans rfl, (blk_cell BK316.out 3).trans rfl, hx323_0, ((HB.out.cell (World.block_lt_of_cell? w _ hw324_0)).trans hw324_0), ((HB.out.cell (World.block_lt_of_cell? w _ hw324_1)).trans hw324_1), ((HB.out.cell (World.block_lt_of_cell? w _ hw324_2)).trans hw324_2), ((HB.out.cell (World.block_lt_of_cell? w _ hw324_3)).trans hw324_3), ((HB.out.cell (World.block_lt_of_cell? w _ hw324_4)).trans hw324_4)⟩ (fun hHeld => ?_); refine with_tabW estoversref21_Hopeless.tab7 estoversref21_Hopeless.bits7 (fun HT_ HW_ => ?_)
                      generalize wr.drew = w32 at HO_9 BK316 HB hx323_0 hx324_0 hx324_1 hx324_2 hx324_3 hx324_4 hHeld ⊢
                      refine pure_ (i := 2) (N := some 38) (v := ?_) (a' := ?_) #[false, false, true, false, false, false, false, false, false, false, false] rfl rfl (any_of HT_.out (by kernel_rfl)) (fun _ _ _ h => h) (Or.inl ⟨by rfl, ?_⟩) ?_ ?_
                      rotate_left
                      · intro w'
                        go_simp
                        with_reducible rfl
                      rotate_left
                      · simp only [Act.put, List.setIfInBounds_toArray, List.set_cons_zero, List.set_cons_succ, i64_w, i32_w]
                        rfl
                      refine pure_ (i := 3) (N := some 39) (v := ?_) (a' := ?_) #[false, false, true, true, false, false, false, false, false, false, false] rfl rfl (any_of HT_.out (by kernel_rfl)) (fun _ _ _ h => h) (Or.inl ⟨by rfl, ?_⟩) ?_ ?_
                      rotate_left
                      · intro w'
                        go_simp
                        with_reducible rfl
                      rotate_left
                      · simp only [Act.put, List.setIfInBounds_toArray, List.set_cons_zero, List.set_cons_succ, i64_w, i32_w]
                        rfl
                      refine pure_ (i := 4) (N := some 40) (v := ?_) (a' := ?_) #[false, false, true, true, true, false, false, false, false, false, false] rfl rfl (any_of HT_.out (by kernel_rfl)) (fun _ _ _ h => h) (Or.inl ⟨by rfl, ?_⟩) ?_ ?_
                      rotate_left
                      · intro w'
                        go_simp
                        with_reducible rfl
                      rotate_left
                      · simp only [Act.put, List.setIfInBounds_toArray, List.set_cons_zero, List.set_cons_succ, i64_w, i32_w]
                        rfl
                      refine pure_ (i := 5) (N := some 41) (v := ?_) (a' := ?_) #[false, false, true, true, true, true, false, false, false, false, false] rfl rfl (any_of HT_.out (by kernel_rfl)) (fun _ _ _ h => h) (Or.inl ⟨by rfl, ?_⟩) ?_ ?_
                      rotate_left
                      · intro w'
                        go_simp
                        with_reducible rfl
                      rotate_left
                      · simp only [Act.put, List.setIfInBounds_toArray, List.set_cons_zero, List.set_cons_succ, i64_w, i32_w]
                        rfl
                      refine take_ (i := 0) (N := some 36) (v := ?_) (a' := ?_) #[true, false, true, true, true, true, false, false, false, false, false] rfl rfl (take_ofW HT_.out HW_.out (by kernel_rfl)) (fun _ _ _ h => h) (Or.inl ⟨by rfl, ?_⟩) hHeld ?_ ?_
                      rotate_left
                      · rintro w' ⟨s0, s1, s2, s3, s4, s5, s6, s7, s8, s9⟩
                        go_simp
                        with_reducible rfl
                      rotate_left
                      · simp only [Act.put, List.setIfInBounds_toArray, List.set_cons_zero, List.set_cons_succ, i64_w, i32_w]
                        rfl
                      refine take_ (i := 6) (N := some 42) (v := ?_) (a' := ?_) #[true, false, true, true, true, true, true, false, false, false, false] rfl rfl (take_ofW HT_.out HW_.out (by kernel_rfl)) (fun _ _ _ h => h) (Or.inl ⟨by rfl, ?_⟩) hHeld ?_ ?_
                      rotate_left
                      · rintro w' ⟨s0, s1, s2, s3, s4, s5, s6, s7, s8, s9⟩
                        go_simp
                        with_reducible rfl
                      rotate_left
                      · simp only [Act.put, List.setIfInBounds_toArray, List.set_cons_zero, List.set_cons_succ, i64_w, i32_w]
                        rfl
                      refine pure_ (i := 7) (N := some 43) (v := ?_) (a' := ?_) #[true, false, true, true, true, true, true, true, false, false, false] rfl rfl (any_of HT_.out (by kernel_rfl)) (fun _ _ _ h => h) (Or.inl ⟨by rfl, ?_⟩) ?_ ?_
                      rotate_left
                      · intro w'
                        go_simp
                        with_reducible rfl
                      rotate_left
                      · simp only [Act.put, List.setIfInBounds_toArray, List.set_cons_zero, List.set_cons_succ, i64_w, i32_w]
                        rfl
                      refine pure_ (i := 8) (N := some 44) (v := ?_) (a' := ?_) #[true, false, true, true, true, true, true, true, true, false, false] rfl rfl (any_of HT_.out (by kernel_rfl)) (fun _ _ _ h => h) (Or.inl ⟨by rfl, ?_⟩) ?_ ?_
                      rotate_left
                      · intro w'
                        go_simp
                        with_reducible rfl
                      rotate_left
                      · simp only [Act.put, List.setIfInBounds_toArray, List.set_cons_zero, List.set_cons_succ, i64_w, i32_w]
                        rfl
                      refine take_ (i := 9) (N := some 45) (v := ?_) (a' := ?_) #[true, false, true, true, true, true, true, true, true, true, false] rfl rfl (take_ofW HT_.out HW_.out (by kernel_rfl)) (fun _ _ _ h => h) (Or.inl ⟨by rfl, ?_⟩) hHeld ?_ ?_
                      rotate_left
                      · rintro w' ⟨s0, s1, s2, s3, s4, s5, s6, s7, s8, s9⟩
                        go_simp
                        with_reducible rfl
                      rotate_left
                      · simp only [Act.put, List.setIfInBounds_toArray, List.set_cons_zero, List.set_cons_succ, i64_w, i32_w]
                        rfl
                      refine one_ (i := 1) (N := some 37) #[true, true, true, true, true, true, true, true, true, true, false] rfl rfl (one_of HT_.out (by kernel_rfl)) (by decide) (fun K hK => ?_)
                      refine goes_ Try.func41 (by kernel_rfl) rfl #[.agg #[.int .i64 a0_0, .int .i64 a0_1, .int .i64 a0_2, .int .i64 a0_3]] (by rfl) rfl rfl (by (try simp only [List.map_toArray, List.map_cons, List.map_nil]); first | done | rfl | (simp only [List.length_drop, List.length_take]; rfl)) ?_
                      with_reducible refine (estoversref21_Total.calls a0_0 a0_1 a0_2 a0_3 t322 _ A23.out).mono ?_
                      rintro e w33 ⟨rfl, hb⟩
                      have HS4_ := (hb.cell (World.block_lt_of_cell? _ _ (hHeld.2.2.2.2.1))).trans (hHeld.2.2.2.2.1)
                      refine ⟨_, rfl, ?_⟩
                      have n0_ := Aside0.mk (Kd.R_below (by (with_reducible repeat (first | apply Kd.R_alloc | apply Kd.R_drewN | apply Kd.R_drew)); exact HO_9.out) hb)
                      have n1_ := Aside0.mk (blk_below (g := gb316) (o := .cells #[.int .i64 a0_0, .int .i64 a0_1, .int .i64 a0_2, .int .i64 a0_3] 37 (0, 0)) (by (with_reducible repeat (first | refine blk_drewN ?_ _ | refine blk_drew ?_ | refine blk_alloc ?_ _)); exact BK316.out) hb)
                      have n2_ := Aside0.mk (below_step (by repeat (first | (with_reducible first | exact HB.out | apply below_alloc | apply pw_below_drewN | apply below_drew1 | refine below_set ?_ GE316.out) | exact HB.out)) hb)
                      clear HO_9
                      clear BK316
                      clear HB
                      have HO_9 := n0_
                      have BK316 := n1_
                      have HB := n2_
                      clear n0_ n1_ n2_
                      (try clear hb)
                      (try clear hb2)
                      (try clear hk)
                      (try clear hi)
                      refine hK.out _ _ ⟨(blk_cell BK316.out 0).trans rfl, (blk_cell BK316.out 1).trans rfl, (blk_cell BK316.out 2).trans rfl, (blk_cell BK316.out 3).trans rfl, HS4_, ((HB.out.cell (World.block_lt_of_cell? w _ hw324_0)).trans hw324_0), ((HB.out.cell (World.block_lt_of_cell? w _ hw324_1)).trans hw324_1), ((HB.out.cell (World.block_lt_of_cell? w _ hw324_2)).trans hw324_2), ((HB.out.cell (World.block_lt_of_cell? w _ hw324_3)).trans hw324_3), ((HB.out.cell (World.block_lt_of_cell? w _ hw324_4)).trans hw324_4)⟩ (fun hHeld => ?_)
                      clear hK K
                      refine norm_ (a' := ?_) ?_ ?_
                      rotate_left
                      · show Act.put _ (some 37) _ = _
                        simp only [Act.put, List.setIfInBounds_toArray, List.set_cons_zero, List.set_cons_succ, i64_w, i32_w]
                        rfl
                      refine pure_ (i := 10) (N := some 46) (v := ?_) (a' := ?_) #[true, true, true, true, true, true, true, true, true, true, true] rfl rfl (any_of HT_.out (by kernel_rfl)) (fun _ _ _ h => h) (Or.inl ⟨by rfl, ?_⟩) ?_ ?_
                      rotate_left
                      · intro w'
                        go_simp
                        with_reducible rfl
                      rotate_left
                      · simp only [Act.put, List.setIfInBounds_toArray, List.set_cons_zero, List.set_cons_succ, i64_w, i32_w]
                        rfl
                      refine done_ (done_of HT_.out (by kernel_rfl)) ?_
                      try go_wp2
                      go_roundg k2
                      case measure => have := HJ4.out; have := HK2.out; omega
                      case rel => exact ⟨(wrap64 (x10_2 + 1)), (by first | rfl | (simp; done) | (simp [*]; done)), H', ⟨by have := HJ4.out; have := HK2.out; omega⟩, ⟨by (with_reducible repeat (first | apply Kd.R_alloc | apply Kd.R_drewN | apply Kd.R_drew)); exact HO_9.out⟩, ⟨by (with_reducible repeat (first | refine blk_drewN ?_ _ | refine blk_drew ?_ | refine blk_alloc ?_ _)); exact BK316.out⟩, ⟨by repeat (first | (with_reducible first | exact HB.out | apply below_alloc | apply pw_below_drewN | apply below_drew1 | refine below_set ?_ GE316.out) | exact HB.out)⟩⟩
                  · rw [if_neg c26] at H
                    exact absurd H (by simp)
                · rw [if_neg c25] at H
                  exact absurd H (by simp)
              · rw [if_neg c24] at H
                exact absurd H (by simp)
            · rw [if_neg c22] at H
              have c22b0 : decide (x10_2 < (t319.length : Int)) = false := decide_eq_false c22
              clear c22
              by_cases c34 : a0_2 > a2
              · rw [if_pos c34] at H
                have c34b0 : decide (a2 < a0_2) = true := decide_eq_true c34
                clear c34
                obtain rfl := Option.some.inj H
                obtain ⟨Ao35, co35, eo35⟩ := Kd.R_slice HO_9.out
                subst eo35
                have hcz36_0 : wr.cell? ⟨gb316, 0, none⟩ = some (.int .i64 a0_0) := (blk_cell BK316.out 0).trans rfl
                have hcz36_1 : wr.cell? ⟨gb316, 1, none⟩ = some (.int .i64 a0_1) := (blk_cell BK316.out 1).trans rfl
                have hcz36_2 : wr.cell? ⟨gb316, 2, none⟩ = some (.int .i64 a0_2) := (blk_cell BK316.out 2).trans rfl
                have hcz36_3 : wr.cell? ⟨gb316, 3, none⟩ = some (.int .i64 a0_3) := (blk_cell BK316.out 3).trans rfl
                have hfz36_0 := blk_frozen BK316.out 0
                have hfz36_1 := blk_frozen BK316.out 1
                have hfz36_2 := blk_frozen BK316.out 2
                have hfz36_3 := blk_frozen BK316.out 3
                go_wp2
                go_ret
                exact ⟨by first | rfl | (simp [errW_none, errW_some] <;> rfl) | (simp [*, errW_none, errW_some] <;> rfl), by repeat (first | (with_reducible first | exact HB.out | apply below_alloc | apply pw_below_drewN | apply below_drew1 | refine below_set ?_ GE316.out) | exact HB.out)⟩
              · rw [if_neg c34] at H
                have c34b0 : decide (a2 < a0_2) = false := decide_eq_false c34
                clear c34
                replace H := Option.bind_eq_some_iff.mp H
                obtain ⟨t325, A370, H⟩ := H
                replace H : (some (decide (t325 > a3))) = some r := H
                have A37 := Aside0.mk A370
                clear A370
                obtain rfl := Option.some.inj H
                obtain ⟨Ao38, co38, eo38⟩ := Kd.R_slice HO_9.out
                subst eo38
                have hcz39_0 : wr.cell? ⟨gb316, 0, none⟩ = some (.int .i64 a0_0) := (blk_cell BK316.out 0).trans rfl
                have hcz39_1 : wr.cell? ⟨gb316, 1, none⟩ = some (.int .i64 a0_1) := (blk_cell BK316.out 1).trans rfl
                have hcz39_2 : wr.cell? ⟨gb316, 2, none⟩ = some (.int .i64 a0_2) := (blk_cell BK316.out 2).trans rfl
                have hcz39_3 : wr.cell? ⟨gb316, 3, none⟩ = some (.int .i64 a0_3) := (blk_cell BK316.out 3).trans rfl
                have hfz39_0 := blk_frozen BK316.out 0
                have hfz39_1 := blk_frozen BK316.out 1
                have hfz39_2 := blk_frozen BK316.out 2
                have hfz39_3 := blk_frozen BK316.out 3
                go_wp2_with (first | (go_at_call 41; (with_reducible refine (estoversref21_Total.calls a0_0 a0_1 a0_2 a0_3 t325 _ A37.out).mono ?_); rintro e w40 ⟨rfl, hb⟩; have n0_ := Aside0.mk (Kd.R_below (by (with_reducible repeat (first | apply Kd.R_alloc | apply Kd.R_drewN | apply Kd.R_drew)); exact HO_9.out) hb); have n1_ := Aside0.mk (blk_below (g := gb316) (o := .cells #[.int .i64 a0_0, .int .i64 a0_1, .int .i64 a0_2, .int .i64 a0_3] 37 (0, 0)) (by (with_reducible repeat (first | refine blk_drewN ?_ _ | refine blk_drew ?_ | refine blk_alloc ?_ _)); exact BK316.out) hb); have n2_ := Aside0.mk (below_step (by repeat (first | (with_reducible first | exact HB.out | apply below_alloc | apply pw_below_drewN | apply below_drew1 | refine below_set ?_ GE316.out) | exact HB.out)) hb); clear HO_9; clear BK316; clear HB; have HO_9 := n0_; have BK316 := n1_; have HB := n2_; clear n0_ n1_ n2_; (try clear hb); (try clear hb2); (try clear hk); (try clear hi)))
                go_ret
                exact ⟨by first | rfl | (simp [errW_none, errW_some] <;> rfl) | (simp [*, errW_none, errW_some] <;> rfl), by repeat (first | (with_reducible first | exact HB.out | apply below_alloc | apply pw_below_drewN | apply below_drew1 | refine below_set ?_ GE316.out) | exact HB.out)⟩

end Go.Proofs.Ytimlodcdfekbhaa.PGrantShorts
