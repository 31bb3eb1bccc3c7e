-- Printed by a copy of the kit's printer that this session has patched (wip/tools/patch_print.py): the session's own text. Lean checks it.
import Derived.Test.YtimlodcdfekbhaaPGrantServesx0
import Derived.Test.YtimlodcdfekbhaaPGrantServesx8
import Derived.Test.YtimlodcdfekbhaaPGrantServesx9
import Derived.Test.YtimlodcdfekbhaaPGrantServesx10
namespace Go.Proofs.Ytimlodcdfekbhaa.PGrantServes
open Go.RowKit Go.Proofs.YtimlodcdfekbhaaW.PrintWords Go.Proofs.YtimlodcdfekbhaaW.PrintLast Go.Proofs.YtimlodcdfekbhaaW.PrintMore
attribute [local go_sem] max2_int min2_int max_two min_two max_three min_three max_four min_four   -- for this text's walks alone
set_option linter.unusedVariables false
set_option linter.unusedSimpArgs false
def estoversref21_Short.l0 : Nat → List (S59) → Int → Int → List Int → Int → Int → Int → Int → Int → Option (Int × Int × Bool × Int)
 | 0, _, _, _, _, _, _, _, _, _ => none
 | k + 1, x1, x2, x3, x11, x12, x301000, x301001, x301002, x301003 => if x12 < (x11.length : Int) then (if 0 ≤ x12 then (if 0 ≤ (rd x11 x12) then (if (rd x11 x12) < (x1.length : Int) then ((estoversref21_Total.f x301000 x301001 x301002 x301003).bind fun t311 => (if t311 > (wrap64 (((rd_T59 x1 (rd x11 x12)).f4) - ((rd_T59 x1 (rd x11 x12)).f1))) then ((estoversref21_Total.f x301000 x301001 x301002 x301003).bind fun t312 => (some (wrap64 (t312 - (wrap64 (((rd_T59 x1 (rd x11 x12)).f4) - ((rd_T59 x1 (rd x11 x12)).f1)))), rd x11 x12, false, 0))) else (estoversref21_Short.l0 k x1 x2 x3 x11 (wrap64 (x12 + 1)) x301000 x301001 x301002 x301003))) else (none)) else (none)) else (none)) else (if x301002 > (mx x2 (-1048576)) then (some (wrap64 (x301002 - (mx x2 (-1048576))), (-1), true, 0)) else ((estoversref21_Total.f x301000 x301001 x301002 x301003).bind fun t314 => (if t314 > (mx x3 (-1048576)) then ((estoversref21_Total.f x301000 x301001 x301002 x301003).bind fun t315 => (some (wrap64 (t315 - (mx x3 (-1048576))), (-1), false, 0))) else (some (0, (-1), false, 0)))))
def estoversref21_Short.f (k : Nat) (a0_0 : Int) (a0_1 : Int) (a0_2 : Int) (a0_3 : Int) (l1 : List (S59)) (a2 : Int) (a3 : Int) : Option (Int × Int × Bool × Int) := (estoversref21_Valid.f a0_0 a0_1 a0_2 a0_3).bind fun t302 => (if t302 = true then ((estoversref19_Check.f k l1).bind fun t303 => (if t303 = 0 then (if a0_1 ≥ (l1.length : Int) then (some (0, 0, false, 6)) else ((estoversref19_Path.f k l1 a0_1).bind fun t304 => (estoversref21_Short.l0 k l1 a2 a3 t304 0 a0_0 a0_1 a0_2 a0_3))) else (some (0, 0, false, t303)))) else (some (0, 0, false, 2)))
theorem estoversref21_Short.mono_l : ∀ k, (∀ y0 y1 y2 y3 y4 y5 y6 y7 y8, LeO (estoversref21_Short.l0 k y0 y1 y2 y3 y4 y5 y6 y7 y8) (estoversref21_Short.l0 (k + 1) y0 y1 y2 y3 y4 y5 y6 y7 y8))
 | 0 => fun _ _ _ _ _ _ _ _ _ r h => by simp [estoversref21_Short.l0] at h
 | k + 1 => by
  have ih0 := estoversref21_Short.mono_l k
  ·intro y0 y1 y2 y3 y4 y5 y6 y7 y8
   unfold estoversref21_Short.l0
   repeat' first
   | (with_reducible exact ih0 _ _ _ _ _ _ _ _ _)
   | (with_reducible exact estoversref19_Check.mono _ _)
   | (with_reducible exact estoversref19_Path.mono _ _ _)
   | (with_reducible exact LeO.refl _)
   | (with_reducible exact LeO.none _)
   | (with_reducible refine LeO.ite ?_ ?_)
   | (with_reducible refine LeO.bind ?_ (fun _ => ?_))
   | exact ih0 _ _ _ _ _ _ _ _ _
   | exact estoversref19_Check.mono _ _
   | exact estoversref19_Path.mono _ _ _
   | exact LeO.none _
   | refine LeO.ite ?_ ?_
   | refine LeO.bind ?_ (fun _ => ?_)
theorem estoversref21_Short.mono : ∀ a0 a1 a2 a3 a4 a5 a6 k, LeO (estoversref21_Short.f k a0 a1 a2 a3 a4 a5 a6) (estoversref21_Short.f (k + 1) a0 a1 a2 a3 a4 a5 a6) := by
 intro a0 a1 a2 a3 a4 a5 a6 k
 have ih0 := estoversref21_Short.mono_l k
 unfold estoversref21_Short.f
 repeat' first
   | (with_reducible exact ih0 _ _ _ _ _ _ _ _ _)
   | (with_reducible exact estoversref19_Check.mono _ _)
   | (with_reducible exact estoversref19_Path.mono _ _ _)
   | (with_reducible exact LeO.refl _)
   | (with_reducible exact LeO.none _)
   | (with_reducible refine LeO.ite ?_ ?_)
   | (with_reducible refine LeO.bind ?_ (fun _ => ?_))
   | exact ih0 _ _ _ _ _ _ _ _ _
   | exact estoversref19_Check.mono _ _
   | exact estoversref19_Path.mono _ _ _
   | exact LeO.none _
   | refine LeO.ite ?_ ?_
   | refine LeO.bind ?_ (fun _ => ?_)
def estoversref21_Short.T12 : Bool × List (List Nat × List Nat) := (true, [([], []), ([], []), ([], []), ([1, 2], [1, 2]), ([3], [3]), ([0, 4], [0, 4]), ([5], [5]), ([6], [6]), ([], []), ([], []), ([], []), ([9, 10], [9, 10]), ([11], [11]), ([8, 12], [8, 12]), ([13], [13]), ([14], [14]), ([7, 15], [7, 15]), ([16, 0, 1, 2, 3, 4, 5, 6, 7, 8, 9, 10, 11, 12, 13, 14, 15, 16], [16])])
def estoversref21_Short.B12 : List Nat := [0, 0, 0, 6, 14, 31, 63, 127, 0, 0, 0, 1536, 3584, 7936, 16128, 32512, 65535, 131071]
theorem estoversref21_Short.tab12 : rtab .any (opsOf Try.f17 12) = estoversref21_Short.T12 := by kernel_rfl
theorem estoversref21_Short.bits12 : waitsOk estoversref21_Short.T12.2 estoversref21_Short.B12 = true := by kernel_rfl
def estoversref21_Short.T14 : Bool × List (List Nat × List Nat) := (true, [([], []), ([0], [0]), ([], []), ([1, 2], [1, 2]), ([], []), ([], []), ([4, 5], [4, 5]), ([6], [6]), ([3, 7], [3, 7]), ([8, 1, 0, 1, 2, 3, 4, 5, 6, 7, 8], [8]), ([9, 0, 1, 2, 3, 4, 5, 6, 7, 8, 9], [])])
def estoversref21_Short.B14 : List Nat := [0, 1, 0, 7, 0, 0, 48, 112, 255, 511, 1023]
theorem estoversref21_Short.tab14 : rtab .any (opsOf Try.f17 14) = estoversref21_Short.T14 := by kernel_rfl
theorem estoversref21_Short.bits14 : waitsOk estoversref21_Short.T14.2 estoversref21_Short.B14 = true := by kernel_rfl
set_option maxHeartbeats 8000000 in
set_option maxRecDepth 100000 in
theorem estoversref21_Short.calls (k : Nat) (a0_0 : Int) (a0_1 : Int) (a0_2 : Int) (a0_3 : Int) (A1 : Option Addr) (c1 : Nat) (l1 : List (S59)) (a2 : Int) (a3 : Int) (r1 : Int) (r2 : Int) (r3 : Bool) (r4 : Int) (w : World) (hr1 : Kd.C k59 w A1 l1.length l1) (hc1 : l1.length ≤ c1) (h : estoversref21_Short.f k a0_0 a0_1 a0_2 a0_3 l1 a2 a3 = some (r1, r2, r3, r4)) :
  Calls Try.prog 17 #[.agg #[.int .i64 a0_0, .int .i64 a0_1, .int .i64 a0_2, .int .i64 a0_3], .slice A1 l1.length c1, .int .i64 a2, .int .i64 a3] w fun e w' => e = .returned (.tuple #[.agg #[.int .i64 r1, .int .i64 r2, .bool r3], .int .i64 r4]) ∧ Below w.heap.size w w' := by
 have hu37 := Try.underlying37
 have hu43 := Try.underlying43
 have HR1 := zM hr1
 have HC1 := zM hc1
 clear hr1 hc1
 have HB := zM (Below.refl w.heap.size w)
 have H : ((estoversref21_Valid.f a0_0 a0_1 a0_2 a0_3).bind fun t302 => (if t302 = true then ((estoversref19_Check.f k l1).bind fun t303 => (if t303 = 0 then (if a0_1 ≥ (l1.length : Int) then (some (0, 0, false, 6)) else ((estoversref19_Path.f k l1 a0_1).bind fun t304 => (estoversref21_Short.l0 k l1 a2 a3 t304 0 a0_0 a0_1 a0_2 a0_3))) else (some (0, 0, false, t303)))) else (some (0, 0, false, 2)))) = some (r1, r2, r3, r4) := h
 clear h
 replace H := Option.bind_eq_some_iff.mp H
 obtain ⟨t302, A50, H⟩ := H
 replace H : (if t302 = true then ((estoversref19_Check.f k l1).bind fun t303 => (if t303 = 0 then (if a0_1 ≥ (l1.length : Int) then (some (0, 0, false, 6)) else ((estoversref19_Path.f k l1 a0_1).bind fun t304 => (estoversref21_Short.l0 k l1 a2 a3 t304 0 a0_0 a0_1 a0_2 a0_3))) else (some (0, 0, false, t303)))) else (some (0, 0, false, 2))) = some (r1, r2, r3, r4) := H
 have A5 := zM A50
 clear A50
 by_cases c6 : t302 = true
 ·subst c6
  have H1 : ((estoversref19_Check.f k l1).bind fun t303 => (if t303 = 0 then (if a0_1 ≥ (l1.length : Int) then (some (0, 0, false, 6)) else ((estoversref19_Path.f k l1 a0_1).bind fun t304 => (estoversref21_Short.l0 k l1 a2 a3 t304 0 a0_0 a0_1 a0_2 a0_3))) else (some (0, 0, false, t303)))) = some (r1, r2, r3, r4) := by rw [if_pos rfl] at H; exact H
  clear H
  have H := H1
  clear H1
  replace H := Option.bind_eq_some_iff.mp H
  obtain ⟨t303, A70, H⟩ := H
  replace H : (if t303 = 0 then (if a0_1 ≥ (l1.length : Int) then (some (0, 0, false, 6)) else ((estoversref19_Path.f k l1 a0_1).bind fun t304 => (estoversref21_Short.l0 k l1 a2 a3 t304 0 a0_0 a0_1 a0_2 a0_3))) else (some (0, 0, false, t303))) = some (r1, r2, r3, r4) := H
  have A7 := zM A70
  clear A70
  by_cases c8 : t303 = 0
  ·rw [if_pos c8] at H
   have c8b0 : (t303 == 0) = true := beq_iff_eq.mpr c8
   have c8b1 : (t303 != 0) = false := bne_eq_false_iff_eq.mpr c8
   clear c8
   by_cases c9 : a0_1 ≥ (l1.length : Int)
   ·rw [if_pos c9] at H
    have c9b0 : decide ((l1.length : Int) ≤ a0_1) = true := decide_eq_true c9
    clear c9
    simp only [Option.some.injEq, Prod.mk.injEq] at H
    obtain ⟨rfl, rfl, rfl, rfl⟩ := H
    go_enter Try.func17, Try.ntmps17
    go_wp2_with (first | ((with_reducible refine gate_dst (N := 4) rfl ?_); refine box_event ?hg (N := 4) ?hd (cs := #[.int .i64 a0_0, .int .i64 a0_1, .int .i64 a0_2, .int .i64 a0_3]) (t := 37) ?hr ?_; (case hd => rfl); (case hg => rfl); (case hr => first | (go_simp; done) | (go_simp; rfl)); intro gb300 hg w10 hbox hb; have n0_ := zM (zT (by repeat (first | (with_reducible first | exact HB.1 | apply zA | apply zN | apply zD) | exact HB.1)) hb); have n1_ := zM (hbox); have n2_ := zM ((by rw [hg]; exact (zz (by repeat (first | (with_reducible first | exact HB.1 | apply zA | apply zN | apply zD) | exact HB.1))) : w.heap.size ≤ gb300)); have n3_ := zM ((by rw [hg]; exact (zz (by repeat (first | (with_reducible first | exact HB.1 | apply zA | apply zN | apply zD) | exact HB.1))) : w.heap.size ≤ gb300)); clear HB; have HB := n0_; have BK300 := n1_; have GW300 := n2_; have GE300 := n3_; clear n0_ n1_ n2_ n3_; clear hb hbox hg) | ((with_reducible refine gate_dst (N := 8) rfl ?_); refine box_event ?hg (N := 8) ?hd (cs := #[.int .i64 0, .int .i64 0, .bool false]) (t := 43) ?hr ?_; (case hd => rfl); (case hg => rfl); (case hr => first | (go_simp; done) | (go_simp; rfl)); intro gb301 hg w11 hbox hb; have n0_ := zM (blk_below (g := gb300) (o := .cells #[.int .i64 a0_0, .int .i64 a0_1, .int .i64 a0_2, .int .i64 a0_3] 37 (0, 0)) (by (with_reducible repeat (first | refine zn ?_ _ | refine zd ?_ | refine za ?_ _)); exact BK300.1) hb); have n1_ := zM (zT (by repeat (first | (with_reducible first | exact HB.1 | apply zA | apply zN | apply zD | refine zS ?_ GE300.1) | exact HB.1)) hb); have n2_ := zM (hbox); have n3_ := zM ((by rw [hg]; exact (zz (by repeat (first | (with_reducible first | exact HB.1 | apply zA | apply zN | apply zD | refine zS ?_ GE300.1) | exact HB.1))) : w.heap.size ≤ gb301)); have n4_ := zM ((by rw [hg]; exact (zz (by repeat (first | (with_reducible first | exact HB.1 | apply zA | apply zN | apply zD | refine zS ?_ GE300.1) | exact HB.1))) : w.heap.size ≤ gb301)); have n5_ := zM ((by rw [hg]; exact Nat.ne_of_lt (blk_lt (g := gb300) (o := .cells #[.int .i64 a0_0, .int .i64 a0_1, .int .i64 a0_2, .int .i64 a0_3] 37 (0, 0)) (by (with_reducible repeat (first | refine zn ?_ _ | refine zd ?_ | refine za ?_ _)); exact BK300.1)) : gb300 ≠ gb301)); have n6_ := zM ((by rw [hg]; exact Nat.ne_of_gt (blk_lt (g := gb300) (o := .cells #[.int .i64 a0_0, .int .i64 a0_1, .int .i64 a0_2, .int .i64 a0_3] 37 (0, 0)) (by (with_reducible repeat (first | refine zn ?_ _ | refine zd ?_ | refine za ?_ _)); exact BK300.1)) : gb301 ≠ gb300)); clear BK300; clear HB; have BK300 := n0_; have HB := n1_; have BK301 := n2_; have GW301 := n3_; have GE301 := n4_; have NB300_301 := n5_; have NB301_300 := n6_; clear n0_ n1_ n2_ n3_ n4_ n5_ n6_; clear hb hbox hg; have hnb12 := NB300_301.1; have hnc12 := NB301_300.1; have hcz13_0 : w11.cell? ⟨gb300, 0, none⟩ = some (.int .i64 a0_0) := (zc BK300.1 0).trans rfl; have hcz13_1 : w11.cell? ⟨gb300, 1, none⟩ = some (.int .i64 a0_1) := (zc BK300.1 1).trans rfl; have hcz13_2 : w11.cell? ⟨gb300, 2, none⟩ = some (.int .i64 a0_2) := (zc BK300.1 2).trans rfl; have hcz13_3 : w11.cell? ⟨gb300, 3, none⟩ = some (.int .i64 a0_3) := (zc BK300.1 3).trans rfl; have hfz13_0 := zf BK300.1 0; have hfz13_1 := zf BK300.1 1; have hfz13_2 := zf BK300.1 2; have hfz13_3 := zf BK300.1 3) | ((with_reducible refine gate_callee (f := 38) rfl ?_); refine goesL_ (some 15) rfl rfl Try.func38 (by kernel_rfl) rfl #[.agg #[.int .i64 a0_0, .int .i64 a0_1, .int .i64 a0_2, .int .i64 a0_3]] rfl (by (try simp only [List.map_toArray, List.map_cons, List.map_nil]); first | done | rfl | (simp only [List.length_drop, List.length_take]; rfl)) ?_; (with_reducible refine (estoversref21_Valid.calls a0_0 a0_1 a0_2 a0_3 true _ A5.1).mono ?_); rintro e w14 ⟨rfl, hb⟩; refine ⟨_, rfl, ?_⟩; have n0_ := zM (blk_below (g := gb300) (o := .cells #[.int .i64 a0_0, .int .i64 a0_1, .int .i64 a0_2, .int .i64 a0_3] 37 (0, 0)) (by (with_reducible repeat (first | refine zn ?_ _ | refine zd ?_ | refine za ?_ _)); exact BK300.1) hb); have n1_ := zM (blk_below (g := gb301) (o := .cells #[.int .i64 0, .int .i64 0, .bool false] 43 (0, 0)) (by (with_reducible repeat (first | refine zn ?_ _ | refine zd ?_ | refine za ?_ _)); exact BK301.1) hb); have n2_ := zM (zT (by repeat (first | (with_reducible first | exact HB.1 | apply zA | apply zN | apply zD | refine zS ?_ GE300.1 | refine zS ?_ GE301.1) | exact HB.1)) hb); clear BK300; clear BK301; clear HB; have BK300 := n0_; have BK301 := n1_; have HB := n2_; clear n0_ n1_ n2_; (try clear hb); (try clear hb2); (try clear hk); (try clear hi)) | ((with_reducible refine gate_callee (f := 39) rfl ?_); refine goesL_ (some 19) rfl rfl Try.func39 (by kernel_rfl) rfl #[.slice A1 l1.length c1] rfl (by (try simp only [List.map_toArray, List.map_cons, List.map_nil]); first | done | rfl | (simp only [List.length_drop, List.length_take]; rfl)) ?_; (with_reducible refine (estoversref19_Check.calls k _ _ l1 t303 _ ?side1 ?side2 A7.1).mono ?_); (case side1 => repeat (first | exact (Kd.C_below HR1.1 HB.1) | (with_reducible refine Kd.C_alloc ?_ _) | (with_reducible refine Kd.C_drewN ?_ _) | (with_reducible refine Kd.C_drew ?_))); (case side2 => exact HC1.1); rintro e w' ⟨rfl, ⟨nd, rfl⟩⟩; refine ⟨_, rfl, ?_⟩; (try (rw [drewN_self w14]; generalize hq_ : World.drewN w14 _ = w14; have n0_ : Aside0 (w14.heap[gb300]? = some (.cells #[.int .i64 a0_0, .int .i64 a0_1, .int .i64 a0_2, .int .i64 a0_3] 37 (0, 0))) := ⟨by rw [← hq_]; exact (by (with_reducible repeat (first | refine zn ?_ _ | refine zd ?_ | refine za ?_ _)); exact BK300.1)⟩; have n1_ : Aside0 (w14.heap[gb301]? = some (.cells #[.int .i64 0, .int .i64 0, .bool false] 43 (0, 0))) := ⟨by rw [← hq_]; exact (by (with_reducible repeat (first | refine zn ?_ _ | refine zd ?_ | refine za ?_ _)); exact BK301.1)⟩; have n2_ : Aside0 (Below w.heap.size w w14) := ⟨by rw [← hq_]; exact (by repeat (first | (with_reducible first | exact HB.1 | apply zA | apply zN | apply zD | refine zS ?_ GE300.1 | refine zS ?_ GE301.1) | exact HB.1))⟩; clear BK300 BK301 HB hq_; have BK300 := n0_; have BK301 := n1_; have HB := n2_; clear n0_ n1_ n2_)); have hcz15_0 : w14.cell? ⟨gb300, 0, none⟩ = some (.int .i64 a0_0) := (zc BK300.1 0).trans rfl; have hcz15_1 : w14.cell? ⟨gb300, 1, none⟩ = some (.int .i64 a0_1) := (zc BK300.1 1).trans rfl; have hcz15_2 : w14.cell? ⟨gb300, 2, none⟩ = some (.int .i64 a0_2) := (zc BK300.1 2).trans rfl; have hcz15_3 : w14.cell? ⟨gb300, 3, none⟩ = some (.int .i64 a0_3) := (zc BK300.1 3).trans rfl; have hfz15_0 := zf BK300.1 0; have hfz15_1 := zf BK300.1 1; have hfz15_2 := zf BK300.1 2; have hfz15_3 := zf BK300.1 3; have hcz16_0 : w14.cell? ⟨gb301, 0, none⟩ = some (.int .i64 0) := (zc BK301.1 0).trans rfl; have hcz16_1 : w14.cell? ⟨gb301, 1, none⟩ = some (.int .i64 0) := (zc BK301.1 1).trans rfl; have hcz16_2 : w14.cell? ⟨gb301, 2, none⟩ = some (.bool false) := (zc BK301.1 2).trans rfl; have hfz16_0 := zf BK301.1 0; have hfz16_1 := zf BK301.1 1; have hfz16_2 := zf BK301.1 2))
    refine bodyPost_ret (results_ct rfl _ _ gb301 43 #[.int .i64 0, .int .i64 0, .bool false] (0, 0) _ rfl (by (with_reducible repeat (first | refine zn ?_ _ | refine zd ?_ | refine za ?_ _)); refine blk_put (cs := #[.int .i64 0, .int .i64 0, .bool false]) ?_ 2 _ rfl; (with_reducible repeat (first | refine zn ?_ _ | refine zd ?_ | refine za ?_ _)); refine blk_put (cs := #[.int .i64 0, .int .i64 0, .bool false]) ?_ 1 _ rfl; (with_reducible repeat (first | refine zn ?_ _ | refine zd ?_ | refine za ?_ _)); refine blk_put (cs := #[.int .i64 0, .int .i64 0, .bool false]) ?_ 0 _ rfl; (with_reducible repeat (first | refine zn ?_ _ | refine zd ?_ | refine za ?_ _)); exact BK301.1) Try.underlying43 rfl (by kernel_rfl)) rfl ?_
    exact ⟨by first | rfl | (simp [errW_none, errW_some] <;> rfl) | (simp [*, errW_none, errW_some] <;> rfl), by repeat (first | (with_reducible first | exact HB.1 | apply zA | apply zN | apply zD | refine zS ?_ GE300.1 | refine zS ?_ GE301.1) | exact HB.1)⟩
   ·rw [if_neg c9] at H
    have c9b0 : decide ((l1.length : Int) ≤ a0_1) = false := decide_eq_false c9
    clear c9
    replace H := Option.bind_eq_some_iff.mp H
    obtain ⟨t304, A170, H⟩ := H
    replace H : (estoversref21_Short.l0 k l1 a2 a3 t304 0 a0_0 a0_1 a0_2 a0_3) = some (r1, r2, r3, r4) := H
    have A17 := zM A170
    clear A170
    have H' := zM H
    clear H
    go_enter Try.func17, Try.ntmps17
    go_wp2_with (first | ((with_reducible refine gate_dst (N := 4) rfl ?_); refine box_event ?hg (N := 4) ?hd (cs := #[.int .i64 a0_0, .int .i64 a0_1, .int .i64 a0_2, .int .i64 a0_3]) (t := 37) ?hr ?_; (case hd => rfl); (case hg => rfl); (case hr => first | (go_simp; done) | (go_simp; rfl)); intro gb300 hg w18 hbox hb; have n0_ := zM (zT (by repeat (first | (with_reducible first | exact HB.1 | apply zA | apply zN | apply zD) | exact HB.1)) hb); have n1_ := zM (hbox); have n2_ := zM ((by rw [hg]; exact (zz (by repeat (first | (with_reducible first | exact HB.1 | apply zA | apply zN | apply zD) | exact HB.1))) : w.heap.size ≤ gb300)); have n3_ := zM ((by rw [hg]; exact (zz (by repeat (first | (with_reducible first | exact HB.1 | apply zA | apply zN | apply zD) | exact HB.1))) : w.heap.size ≤ gb300)); clear HB; have HB := n0_; have BK300 := n1_; have GW300 := n2_; have GE300 := n3_; clear n0_ n1_ n2_ n3_; clear hb hbox hg) | ((with_reducible refine gate_dst (N := 8) rfl ?_); refine box_event ?hg (N := 8) ?hd (cs := #[.int .i64 0, .int .i64 0, .bool false]) (t := 43) ?hr ?_; (case hd => rfl); (case hg => rfl); (case hr => first | (go_simp; done) | (go_simp; rfl)); intro gb301 hg w19 hbox hb; have n0_ := zM (blk_below (g := gb300) (o := .cells #[.int .i64 a0_0, .int .i64 a0_1, .int .i64 a0_2, .int .i64 a0_3] 37 (0, 0)) (by (with_reducible repeat (first | refine zn ?_ _ | refine zd ?_ | refine za ?_ _)); exact BK300.1) hb); have n1_ := zM (zT (by repeat (first | (with_reducible first | exact HB.1 | apply zA | apply zN | apply zD | refine zS ?_ GE300.1) | exact HB.1)) hb); have n2_ := zM (hbox); have n3_ := zM ((by rw [hg]; exact (zz (by repeat (first | (with_reducible first | exact HB.1 | apply zA | apply zN | apply zD | refine zS ?_ GE300.1) | exact HB.1))) : w.heap.size ≤ gb301)); have n4_ := zM ((by rw [hg]; exact (zz (by repeat (first | (with_reducible first | exact HB.1 | apply zA | apply zN | apply zD | refine zS ?_ GE300.1) | exact HB.1))) : w.heap.size ≤ gb301)); have n5_ := zM ((by rw [hg]; exact Nat.ne_of_lt (blk_lt (g := gb300) (o := .cells #[.int .i64 a0_0, .int .i64 a0_1, .int .i64 a0_2, .int .i64 a0_3] 37 (0, 0)) (by (with_reducible repeat (first | refine zn ?_ _ | refine zd ?_ | refine za ?_ _)); exact BK300.1)) : gb300 ≠ gb301)); have n6_ := zM ((by rw [hg]; exact Nat.ne_of_gt (blk_lt (g := gb300) (o := .cells #[.int .i64 a0_0, .int .i64 a0_1, .int .i64 a0_2, .int .i64 a0_3] 37 (0, 0)) (by (with_reducible repeat (first | refine zn ?_ _ | refine zd ?_ | refine za ?_ _)); exact BK300.1)) : gb301 ≠ gb300)); clear BK300; clear HB; have BK300 := n0_; have HB := n1_; have BK301 := n2_; have GW301 := n3_; have GE301 := n4_; have NB300_301 := n5_; have NB301_300 := n6_; clear n0_ n1_ n2_ n3_ n4_ n5_ n6_; clear hb hbox hg; have hnb20 := NB300_301.1; have hnc20 := NB301_300.1; have hcz21_0 : w19.cell? ⟨gb300, 0, none⟩ = some (.int .i64 a0_0) := (zc BK300.1 0).trans rfl; have hcz21_1 : w19.cell? ⟨gb300, 1, none⟩ = some (.int .i64 a0_1) := (zc BK300.1 1).trans rfl; have hcz21_2 : w19.cell? ⟨gb300, 2, none⟩ = some (.int .i64 a0_2) := (zc BK300.1 2).trans rfl; have hcz21_3 : w19.cell? ⟨gb300, 3, none⟩ = some (.int .i64 a0_3) := (zc BK300.1 3).trans rfl; have hfz21_0 := zf BK300.1 0; have hfz21_1 := zf BK300.1 1; have hfz21_2 := zf BK300.1 2; have hfz21_3 := zf BK300.1 3) | ((with_reducible refine gate_callee (f := 38) rfl ?_); refine goesL_ (some 15) rfl rfl Try.func38 (by kernel_rfl) rfl #[.agg #[.int .i64 a0_0, .int .i64 a0_1, .int .i64 a0_2, .int .i64 a0_3]] rfl (by (try simp only [List.map_toArray, List.map_cons, List.map_nil]); first | done | rfl | (simp only [List.length_drop, List.length_take]; rfl)) ?_; (with_reducible refine (estoversref21_Valid.calls a0_0 a0_1 a0_2 a0_3 true _ A5.1).mono ?_); rintro e w22 ⟨rfl, hb⟩; refine ⟨_, rfl, ?_⟩; have n0_ := zM (blk_below (g := gb300) (o := .cells #[.int .i64 a0_0, .int .i64 a0_1, .int .i64 a0_2, .int .i64 a0_3] 37 (0, 0)) (by (with_reducible repeat (first | refine zn ?_ _ | refine zd ?_ | refine za ?_ _)); exact BK300.1) hb); have n1_ := zM (blk_below (g := gb301) (o := .cells #[.int .i64 0, .int .i64 0, .bool false] 43 (0, 0)) (by (with_reducible repeat (first | refine zn ?_ _ | refine zd ?_ | refine za ?_ _)); exact BK301.1) hb); have n2_ := zM (zT (by repeat (first | (with_reducible first | exact HB.1 | apply zA | apply zN | apply zD | refine zS ?_ GE300.1 | refine zS ?_ GE301.1) | exact HB.1)) hb); clear BK300; clear BK301; clear HB; have BK300 := n0_; have BK301 := n1_; have HB := n2_; clear n0_ n1_ n2_; (try clear hb); (try clear hb2); (try clear hk); (try clear hi)) | ((with_reducible refine gate_callee (f := 39) rfl ?_); refine goesL_ (some 19) rfl rfl Try.func39 (by kernel_rfl) rfl #[.slice A1 l1.length c1] rfl (by (try simp only [List.map_toArray, List.map_cons, List.map_nil]); first | done | rfl | (simp only [List.length_drop, List.length_take]; rfl)) ?_; (with_reducible refine (estoversref19_Check.calls k _ _ l1 t303 _ ?side1 ?side2 A7.1).mono ?_); (case side1 => repeat (first | exact (Kd.C_below HR1.1 HB.1) | (with_reducible refine Kd.C_alloc ?_ _) | (with_reducible refine Kd.C_drewN ?_ _) | (with_reducible refine Kd.C_drew ?_))); (case side2 => exact HC1.1); rintro e w' ⟨rfl, ⟨nd, rfl⟩⟩; refine ⟨_, rfl, ?_⟩; have hcz23_0 : w22.cell? ⟨gb300, 0, none⟩ = some (.int .i64 a0_0) := (zc BK300.1 0).trans rfl; have hcz23_1 : w22.cell? ⟨gb300, 1, none⟩ = some (.int .i64 a0_1) := (zc BK300.1 1).trans rfl; have hcz23_2 : w22.cell? ⟨gb300, 2, none⟩ = some (.int .i64 a0_2) := (zc BK300.1 2).trans rfl; have hcz23_3 : w22.cell? ⟨gb300, 3, none⟩ = some (.int .i64 a0_3) := (zc BK300.1 3).trans rfl; have hfz23_0 := zf BK300.1 0; have hfz23_1 := zf BK300.1 1; have hfz23_2 := zf BK300.1 2; have hfz23_3 := zf BK300.1 3) | ((with_reducible refine gate_callee (f := 40) rfl ?_); refine goesL_ (some 33) rfl rfl Try.func40 (by kernel_rfl) rfl #[.slice A1 l1.length c1, .int .i64 a0_1] rfl (by (try simp only [List.map_toArray, List.map_cons, List.map_nil]); first | done | rfl | (simp only [List.length_drop, List.length_take]; rfl)) ?_; (with_reducible refine (estoversref19_Path.calls k _ _ l1 a0_1 t304 _ ?side1 ?side2 A17.1).mono ?_); (case side1 => repeat (first | exact (Kd.C_below HR1.1 (by repeat (first | (with_reducible first | exact HB.1 | apply zA | apply zN | apply zD | refine zS ?_ GE300.1 | refine zS ?_ GE301.1) | exact HB.1))) | (with_reducible refine Kd.C_alloc ?_ _) | (with_reducible refine Kd.C_drewN ?_ _) | (with_reducible refine Kd.C_drew ?_))); (case side2 => exact HC1.1); rintro e w24 ⟨v305, rfl, ho0, hb⟩; refine ⟨_, rfl, ?_⟩; have n0_ := zM (Kd.R_lower ho0 (zz (by repeat (first | (with_reducible first | exact HB.1 | apply zA | apply zN | apply zD | refine zS ?_ GE300.1 | refine zS ?_ GE301.1) | exact HB.1)))); have n1_ := zM (blk_below (g := gb300) (o := .cells #[.int .i64 a0_0, .int .i64 a0_1, .int .i64 a0_2, .int .i64 a0_3] 37 (0, 0)) (by (with_reducible repeat (first | refine zn ?_ _ | refine zd ?_ | refine za ?_ _)); exact BK300.1) hb); have n2_ := zM (blk_below (g := gb301) (o := .cells #[.int .i64 0, .int .i64 0, .bool false] 43 (0, 0)) (by (with_reducible repeat (first | refine zn ?_ _ | refine zd ?_ | refine za ?_ _)); exact BK301.1) hb); have n3_ := zM (zT (by repeat (first | (with_reducible first | exact HB.1 | apply zA | apply zN | apply zD | refine zS ?_ GE300.1 | refine zS ?_ GE301.1) | exact HB.1)) hb); clear BK300; clear BK301; clear HB; have HO306 := n0_; have BK300 := n1_; have BK301 := n2_; have HB := n3_; clear n0_ n1_ n2_ n3_; (try clear hb); (try clear hb2); (try clear hk); (try clear hi); (try clear ho0)))
    go_loopg [12] k (fun kq v12 w' => ∃ (x12_1 : Int) (x302000_1 : Int) (x302001_1 : Int) (x302002_1 : Bool), v12 = .int .i64 x12_1 ∧ Aside0 (estoversref21_Short.l0 kq l1 a2 a3 t304 x12_1 a0_0 a0_1 a0_2 a0_3 = some (r1, r2, r3, r4)) ∧ Aside0 (kq ≤ k) ∧ Aside0 (Kd.R (Kd.int .i64) 3 w' w.heap.size (fun _ => True) v305 t304) ∧ Aside0 (w'.heap[gb300]? = some (.cells #[.int .i64 a0_0, .int .i64 a0_1, .int .i64 a0_2, .int .i64 a0_3] 37 (0, 0))) ∧ Aside0 (w'.heap[gb301]? = some (.cells #[.int .i64 x302000_1, .int .i64 x302001_1, .bool x302002_1] 43 (0, 0))) ∧ Aside0 (Below w.heap.size w w'))
    case atStart => exact ⟨(0), (0), (0), (false), (by first | rfl | (simp; done) | (simp [*]; done)), H', ⟨Nat.le_refl _⟩, ⟨by (with_reducible repeat (first | apply Kd.R_alloc | apply Kd.R_drewN | apply Kd.R_drew)); exact HO306.1⟩, ⟨by (with_reducible repeat (first | refine zn ?_ _ | refine zd ?_ | refine za ?_ _)); exact BK300.1⟩, ⟨by (with_reducible repeat (first | refine zn ?_ _ | refine zd ?_ | refine za ?_ _)); exact BK301.1⟩, ⟨by repeat (first | (with_reducible first | exact HB.1 | apply zA | apply zN | apply zD | refine zS ?_ GE300.1 | refine zS ?_ GE301.1) | exact HB.1)⟩⟩
    case round =>
     clear H'
     try clear c1
     try clear c2
     try clear p2
     try clear c3
     try clear c4
     try clear c6
     try clear c8
     try clear c8b0
     try clear c8b1
     try clear c9
     try clear c9b0
     try clear c12
     try clear c17
     try clear c20
     try clear hcz13_0
     try clear hcz13_1
     try clear hcz13_2
     try clear hcz13_3
     try clear hcz15_0
     try clear hcz15_1
     try clear hcz15_2
     try clear hcz15_3
     try clear hcz16_0
     try clear hcz16_1
     try clear hcz16_2
     try clear hcz21_0
     try clear hcz21_1
     try clear hcz21_2
     try clear hcz21_3
     try clear hcz23_0
     try clear hcz23_1
     try clear hcz23_2
     try clear hcz23_3
     try clear hfz13_0
     try clear hfz13_1
     try clear hfz13_2
     try clear hfz13_3
     try clear hfz15_0
     try clear hfz15_1
     try clear hfz15_2
     try clear hfz15_3
     try clear hfz16_0
     try clear hfz16_1
     try clear hfz16_2
     try clear hfz21_0
     try clear hfz21_1
     try clear hfz21_2
     try clear hfz21_3
     try clear hfz23_0
     try clear hfz23_1
     try clear hfz23_2
     try clear hfz23_3
     obtain ⟨x12_1, x302000_1, x302001_1, x302002_1, rfl, HA, HK1, HO_11, BK300, BK301, HB⟩ := hrel
     cases gk with
     | zero => exact absurd HA.1 (by simp [estoversref21_Short.l0])
     | succ k1 =>
      have H := HA.1
      clear HA
      simp only [estoversref21_Short.l0] at H
      by_cases c25 : x12_1 < (t304.length : Int)
      ·rw [if_pos c25] at H
       have c25b0 : decide (x12_1 < (t304.length : Int)) = true := decide_eq_true c25
       clear c25
       by_cases c26 : 0 ≤ x12_1
       ·rw [if_pos c26] at H
        have c26b0 : decide (0 ≤ x12_1) = true := decide_eq_true c26
        clear c26
        by_cases c27 : 0 ≤ (rd t304 x12_1)
        ·rw [if_pos c27] at H
         have c27b0 : decide (0 ≤ (rd t304 x12_1)) = true := decide_eq_true c27
         clear c27
         by_cases c28 : (rd t304 x12_1) < (l1.length : Int)
         ·rw [if_pos c28] at H
          have c28b0 : decide ((rd t304 x12_1) < (l1.length : Int)) = true := decide_eq_true c28
          clear c28
          replace H := Option.bind_eq_some_iff.mp H
          obtain ⟨t311, A290, H⟩ := H
          replace H : (if t311 > (wrap64 (((rd_T59 l1 (rd t304 x12_1)).f4) - ((rd_T59 l1 (rd t304 x12_1)).f1))) then ((estoversref21_Total.f a0_0 a0_1 a0_2 a0_3).bind fun t312 => (some (wrap64 (t312 - (wrap64 (((rd_T59 l1 (rd t304 x12_1)).f4) - ((rd_T59 l1 (rd t304 x12_1)).f1)))), rd t304 x12_1, false, 0))) else (estoversref21_Short.l0 k1 l1 a2 a3 t304 (wrap64 (x12_1 + 1)) a0_0 a0_1 a0_2 a0_3)) = some (r1, r2, r3, r4) := H
          have A29 := zM A290
          clear A290
          by_cases c30 : t311 > (wrap64 (((rd_T59 l1 (rd t304 x12_1)).f4) - ((rd_T59 l1 (rd t304 x12_1)).f1)))
          ·rw [if_pos c30] at H
           have c30b0 : decide ((wrap64 (((rd_T59 l1 (rd t304 x12_1)).f4) - ((rd_T59 l1 (rd t304 x12_1)).f1))) < t311) = true := decide_eq_true c30
           clear c30
           replace H := Option.bind_eq_some_iff.mp H
           obtain ⟨t312, A310, H⟩ := H
           replace H : (some (wrap64 (t312 - (wrap64 (((rd_T59 l1 (rd t304 x12_1)).f4) - ((rd_T59 l1 (rd t304 x12_1)).f1)))), rd t304 x12_1, false, 0)) = some (r1, r2, r3, r4) := H
           have A31 := zM A310
           clear A310
           simp only [Option.some.injEq, Prod.mk.injEq] at H
           obtain ⟨rfl, rfl, rfl, rfl⟩ := H
           obtain ⟨Ao32, co32, eo32⟩ := Kd.R_slice HO_11.1
           subst eo32
           try go_wp2
           have n0_ := zM (Kd.R_drew HO_11.1)
           have n1_ := zM (zd BK300.1)
           have n2_ := zM (zd BK301.1)
           have n3_ := zM (zD HB.1)
           clear HO_11
           clear BK300
           clear BK301
           clear HB
           have HO_11 := n0_
           have BK300 := n1_
           have BK301 := n2_
           have HB := n3_
           clear n0_ n1_ n2_ n3_
           have p307 : 0 ≤ (x12_1 : Int) := zo (by first | (with_reducible assumption) | assumption)
           have q307 : x12_1 < (t304.length : Int) := zo (by first | (with_reducible assumption) | assumption)
           obtain ⟨ad307, e307, hx307_0⟩ := Kd.at_int (Kd.R_reads' HO_11.1).2.2 x12_1 p307 q307
           cases e307
           replace p307 := eq_true p307
           replace q307 := eq_true q307
           have p308 : 0 ≤ ((rd t304 x12_1) : Int) := zo (by first | (with_reducible assumption) | assumption)
           have q308 : (rd t304 x12_1) < (l1.length : Int) := zo (by first | (with_reducible assumption) | assumption)
           obtain ⟨ad308, e308, hx308_0, hx308_1, hx308_2, hx308_3, hx308_4⟩ := at_T59 HR1.1 (rd t304 x12_1) p308 q308
           have hw308_4 := hx308_4
           have hw308_3 := hx308_3
           have hw308_2 := hx308_2
           have hw308_1 := hx308_1
           have hw308_0 := hx308_0
           cases e308
           replace hx308_0 := (HB.1.cell (zL w _ hx308_0)).trans hx308_0
           replace hx308_1 := (HB.1.cell (zL w _ hx308_1)).trans hx308_1
           replace hx308_2 := (HB.1.cell (zL w _ hx308_2)).trans hx308_2
           replace hx308_3 := (HB.1.cell (zL w _ hx308_3)).trans hx308_3
           replace hx308_4 := (HB.1.cell (zL w _ hx308_4)).trans hx308_4
           replace p308 := eq_true p308
           replace q308 := eq_true q308
           have p309 : 0 ≤ (x12_1 : Int) := zo (by first | (with_reducible assumption) | assumption)
           have q309 : x12_1 < (t304.length : Int) := zo (by first | (with_reducible assumption) | assumption)
           obtain ⟨ad309, e309, hx309_0⟩ := Kd.at_int (Kd.R_reads' HO_11.1).2.2 x12_1 p309 q309
           obtain rfl : ad307 = ad309 := (by injection e309)
           replace p309 := eq_true p309
           replace q309 := eq_true q309
           have p310 : 0 ≤ ((rd t304 x12_1) : Int) := zo (by first | (with_reducible assumption) | assumption)
           have q310 : (rd t304 x12_1) < (l1.length : Int) := zo (by first | (with_reducible assumption) | assumption)
           obtain ⟨ad310, e310, hx310_0, hx310_1, hx310_2, hx310_3, hx310_4⟩ := at_T59 HR1.1 (rd t304 x12_1) p310 q310
           have hw310_4 := hx310_4
           have hw310_3 := hx310_3
           have hw310_2 := hx310_2
           have hw310_1 := hx310_1
           have hw310_0 := hx310_0
           obtain rfl : ad308 = ad310 := (by injection e310)
           replace hx310_0 := (HB.1.cell (zL w _ hx310_0)).trans hx310_0
           replace hx310_1 := (HB.1.cell (zL w _ hx310_1)).trans hx310_1
           replace hx310_2 := (HB.1.cell (zL w _ hx310_2)).trans hx310_2
           replace hx310_3 := (HB.1.cell (zL w _ hx310_3)).trans hx310_3
           replace hx310_4 := (HB.1.cell (zL w _ hx310_4)).trans hx310_4
           replace p310 := eq_true p310
           replace q310 := eq_true q310
           refine start_ (n := 18) (S := fun w' => w'.cell? (ad307.add (x12_1).toNat) = some (.int .i64 (rd t304 x12_1)) ∧ w'.cell? (ad308.add (((rd t304 x12_1)).toNat * 5)) = some (.int .i64 ((rd_T59 l1 (rd t304 x12_1)).f0)) ∧ w'.cell? ⟨(ad308.add (((rd t304 x12_1)).toNat * 5)).block, (ad308.add (((rd t304 x12_1)).toNat * 5)).off + 1, none⟩ = some (.int .i64 ((rd_T59 l1 (rd t304 x12_1)).f1)) ∧ w'.cell? ⟨(ad308.add (((rd t304 x12_1)).toNat * 5)).block, (ad308.add (((rd t304 x12_1)).toNat * 5)).off + 2, none⟩ = some (.int .i64 ((rd_T59 l1 (rd t304 x12_1)).f2)) ∧ w'.cell? ⟨(ad308.add (((rd t304 x12_1)).toNat * 5)).block, (ad308.add (((rd t304 x12_1)).toNat * 5)).off + 3, none⟩ = some (.int .i64 ((rd_T59 l1 (rd t304 x12_1)).f3)) ∧ w'.cell? ⟨(ad308.add (((rd t304 x12_1)).toNat * 5)).block, (ad308.add (((rd t304 x12_1)).toNat * 5)).off + 4, none⟩ = some (.int .i64 ((rd_T59 l1 (rd t304 x12_1)).f4)) ∧ w'.cell? (ad307.add (x12_1).toNat) = some (.int .i64 (rd t304 x12_1)) ∧ w'.cell? (ad308.add (((rd t304 x12_1)).toNat * 5)) = some (.int .i64 ((rd_T59 l1 (rd t304 x12_1)).f0)) ∧ w'.cell? ⟨(ad308.add (((rd t304 x12_1)).toNat * 5)).block, (ad308.add (((rd t304 x12_1)).toNat * 5)).off + 1, none⟩ = some (.int .i64 ((rd_T59 l1 (rd t304 x12_1)).f1)) ∧ w'.cell? ⟨(ad308.add (((rd t304 x12_1)).toNat * 5)).block, (ad308.add (((rd t304 x12_1)).toNat * 5)).off + 2, none⟩ = some (.int .i64 ((rd_T59 l1 (rd t304 x12_1)).f2)) ∧ w'.cell? ⟨(ad308.add (((rd t304 x12_1)).toNat * 5)).block, (ad308.add (((rd t304 x12_1)).toNat * 5)).off + 3, none⟩ = some (.int .i64 ((rd_T59 l1 (rd t304 x12_1)).f3)) ∧ w'.cell? ⟨(ad308.add (((rd t304 x12_1)).toNat * 5)).block, (ad308.add (((rd t304 x12_1)).toNat * 5)).off + 4, none⟩ = some (.int .i64 ((rd_T59 l1 (rd t304 x12_1)).f4))) (ds := []) #[false, false, false, false, false, false, false, false, false, false, false, false, false, false, false, false, false, false] (by kernel_rfl) rfl rfl ⟨hx307_0, ((HB.1.cell (zL w _ hw308_0)).trans hw308_0), ((HB.1.cell (zL w _ hw308_1)).trans hw308_1), ((HB.1.cell (zL w _ hw308_2)).trans hw308_2), ((HB.1.cell (zL w _ hw308_3)).trans hw308_3), ((HB.1.cell (zL w _ hw308_4)).trans hw308_4), hx309_0, ((HB.1.cell (zL w _ hw310_0)).trans hw310_0), ((HB.1.cell (zL w _ hw310_1)).trans hw310_1), ((HB.1.cell (zL w _ hw310_2)).trans hw310_2), ((HB.1.cell (zL w _ hw310_3)).trans hw310_3), ((HB.1.cell (zL w _ hw310_4)).trans hw310_4)⟩ (fun hHeld => ?_); refine with_tabW estoversref21_Short.tab12 estoversref21_Short.bits12 (fun HT_ HW_ => ?_)
           generalize wr.drew = w33 at HO_11 BK300 BK301 HB hx307_0 hx308_0 hx308_1 hx308_2 hx308_3 hx308_4 hx309_0 hx310_0 hx310_1 hx310_2 hx310_3 hx310_4 hHeld ⊢
           refine pure_ (i := 0) (N := some 40) (v := ?_) (a' := ?_) #[true, false, false, false, false, false, false, false, false, false, false, false, false, false, false, false, false, false] rfl rfl (any_of HT_.1 (by kernel_rfl)) (fun _ _ _ h => h) (Or.inl ⟨by rfl, ?_⟩) ?_ ?_
           rotate_left
           ·intro w'
            go_simp
            with_reducible rfl
           rotate_left
           ·simp only [Act.put, z1, z2, z3, i64_w, i32_w]
            rfl
           refine pure_ (i := 1) (N := some 41) (v := ?_) (a' := ?_) #[true, true, false, false, false, false, false, false, false, false, false, false, false, false, false, false, false, false] rfl rfl (any_of HT_.1 (by kernel_rfl)) (fun _ _ _ h => h) (Or.inl ⟨by rfl, ?_⟩) ?_ ?_
           rotate_left
           ·intro w'
            go_simp
            with_reducible rfl
           rotate_left
           ·simp only [Act.put, z1, z2, z3, i64_w, i32_w]
            rfl
           refine pure_ (i := 2) (N := some 42) (v := ?_) (a' := ?_) #[true, true, true, false, false, false, false, false, false, false, false, false, false, false, false, false, false, false] rfl rfl (any_of HT_.1 (by kernel_rfl)) (fun _ _ _ h => h) (Or.inl ⟨by rfl, ?_⟩) ?_ ?_
           rotate_left
           ·intro w'
            go_simp
            with_reducible rfl
           rotate_left
           ·simp only [Act.put, z1, z2, z3, i64_w, i32_w]
            rfl
           refine pure_ (i := 3) (N := some 43) (v := ?_) (a' := ?_) #[true, true, true, true, false, false, false, false, false, false, false, false, false, false, false, false, false, false] rfl rfl (any_of HT_.1 (by kernel_rfl)) (fun _ _ _ h => h) (Or.inl ⟨by rfl, ?_⟩) ?_ ?_
           rotate_left
           ·intro w'
            go_simp
            with_reducible rfl
           rotate_left
           ·simp only [Act.put, z1, z2, z3, i64_w, i32_w]
            rfl
           refine pure_ (i := 8) (N := some 48) (v := ?_) (a' := ?_) #[true, true, true, true, false, false, false, false, true, false, false, false, false, false, false, false, false, false] rfl rfl (any_of HT_.1 (by kernel_rfl)) (fun _ _ _ h => h) (Or.inl ⟨by rfl, ?_⟩) ?_ ?_
           rotate_left
           ·intro w'
            go_simp
            with_reducible rfl
           rotate_left
           ·simp only [Act.put, z1, z2, z3, i64_w, i32_w]
            rfl
           refine pure_ (i := 9) (N := some 49) (v := ?_) (a' := ?_) #[true, true, true, true, false, false, false, false, true, true, false, false, false, false, false, false, false, false] rfl rfl (any_of HT_.1 (by kernel_rfl)) (fun _ _ _ h => h) (Or.inl ⟨by rfl, ?_⟩) ?_ ?_
           rotate_left
           ·intro w'
            go_simp
            with_reducible rfl
           rotate_left
           ·simp only [Act.put, z1, z2, z3, i64_w, i32_w]
            rfl
           refine pure_ (i := 10) (N := some 50) (v := ?_) (a' := ?_) #[true, true, true, true, false, false, false, false, true, true, true, false, false, false, false, false, false, false] rfl rfl (any_of HT_.1 (by kernel_rfl)) (fun _ _ _ h => h) (Or.inl ⟨by rfl, ?_⟩) ?_ ?_
           rotate_left
           ·intro w'
            go_simp
            with_reducible rfl
           rotate_left
           ·simp only [Act.put, z1, z2, z3, i64_w, i32_w]
            rfl
           refine pure_ (i := 11) (N := some 51) (v := ?_) (a' := ?_) #[true, true, true, true, false, false, false, false, true, true, true, true, false, false, false, false, false, false] rfl rfl (any_of HT_.1 (by kernel_rfl)) (fun _ _ _ h => h) (Or.inl ⟨by rfl, ?_⟩) ?_ ?_
           rotate_left
           ·intro w'
            go_simp
            with_reducible rfl
           rotate_left
           ·simp only [Act.put, z1, z2, z3, i64_w, i32_w]
            rfl
           refine take_ (i := 4) (N := some 44) (v := ?_) (a' := ?_) #[true, true, true, true, true, false, false, false, true, true, true, true, false, false, false, false, false, false] rfl rfl (take_ofW HT_.1 HW_.1 (by kernel_rfl)) (fun _ _ _ h => h) (Or.inl ⟨by rfl, ?_⟩) hHeld ?_ ?_
           rotate_left
           ·rintro w' ⟨s0, s1, s2, s3, s4, s5, s6, s7, s8, s9, s10, s11⟩
            go_simp
            with_reducible rfl
           rotate_left
           ·simp only [Act.put, z1, z2, z3, i64_w, i32_w]
            rfl
           refine pure_ (i := 5) (N := some 45) (v := ?_) (a' := ?_) #[true, true, true, true, true, true, false, false, true, true, true, true, false, false, false, false, false, false] rfl rfl (any_of HT_.1 (by kernel_rfl)) (fun _ _ _ h => h) (Or.inl ⟨by rfl, ?_⟩) ?_ ?_
           rotate_left
           ·intro w'
            go_simp
            with_reducible rfl
           rotate_left
           ·simp only [Act.put, z1, z2, z3, i64_w, i32_w]
            rfl
           refine pure_ (i := 6) (N := some 46) (v := ?_) (a' := ?_) #[true, true, true, true, true, true, true, false, true, true, true, true, false, false, false, false, false, false] rfl rfl (any_of HT_.1 (by kernel_rfl)) (fun _ _ _ h => h) (Or.inl ⟨by rfl, ?_⟩) ?_ ?_
           rotate_left
           ·intro w'
            go_simp
            with_reducible rfl
           rotate_left
           ·simp only [Act.put, z1, z2, z3, i64_w, i32_w]
            rfl
           refine take_ (i := 7) (N := some 47) (v := ?_) (a' := ?_) #[true, true, true, true, true, true, true, true, true, true, true, true, false, false, false, false, false, false] rfl rfl (take_ofW HT_.1 HW_.1 (by kernel_rfl)) (fun _ _ _ h => h) (Or.inl ⟨by rfl, ?_⟩) hHeld ?_ ?_
           rotate_left
           ·rintro w' ⟨s0, s1, s2, s3, s4, s5, s6, s7, s8, s9, s10, s11⟩
            go_simp
            with_reducible rfl
           rotate_left
           ·simp only [Act.put, z1, z2, z3, i64_w, i32_w]
            rfl
           refine take_ (i := 12) (N := some 52) (v := ?_) (a' := ?_) #[true, true, true, true, true, true, true, true, true, true, true, true, true, false, false, false, false, false] rfl rfl (take_ofW HT_.1 HW_.1 (by kernel_rfl)) (fun _ _ _ h => h) (Or.inl ⟨by rfl, ?_⟩) hHeld ?_ ?_
           rotate_left
           ·rintro w' ⟨s0, s1, s2, s3, s4, s5, s6, s7, s8, s9, s10, s11⟩
            go_simp
            with_reducible rfl
           rotate_left
           ·simp only [Act.put, z1, z2, z3, i64_w, i32_w]
            rfl
           refine pure_ (i := 13) (N := some 53) (v := ?_) (a' := ?_) #[true, true, true, true, true, true, true, true, true, true, true, true, true, true, false, false, false, false] rfl rfl (any_of HT_.1 (by kernel_rfl)) (fun _ _ _ h => h) (Or.inl ⟨by rfl, ?_⟩) ?_ ?_
           rotate_left
           ·intro w'
            go_simp
            with_reducible rfl
           rotate_left
           ·simp only [Act.put, z1, z2, z3, i64_w, i32_w]
            rfl
           refine pure_ (i := 14) (N := some 54) (v := ?_) (a' := ?_) #[true, true, true, true, true, true, true, true, true, true, true, true, true, true, true, false, false, false] rfl rfl (any_of HT_.1 (by kernel_rfl)) (fun _ _ _ h => h) (Or.inl ⟨by rfl, ?_⟩) ?_ ?_
           rotate_left
           ·intro w'
            go_simp
            with_reducible rfl
           rotate_left
           ·simp only [Act.put, z1, z2, z3, i64_w, i32_w]
            rfl
           refine take_ (i := 15) (N := some 55) (v := ?_) (a' := ?_) #[true, true, true, true, true, true, true, true, true, true, true, true, true, true, true, true, false, false] rfl rfl (take_ofW HT_.1 HW_.1 (by kernel_rfl)) (fun _ _ _ h => h) (Or.inl ⟨by rfl, ?_⟩) hHeld ?_ ?_
           rotate_left
           ·rintro w' ⟨s0, s1, s2, s3, s4, s5, s6, s7, s8, s9, s10, s11⟩
            go_simp
            with_reducible rfl
           rotate_left
           ·simp only [Act.put, z1, z2, z3, i64_w, i32_w]
            rfl
           refine pure_ (i := 16) (N := some 56) (v := ?_) (a' := ?_) #[true, true, true, true, true, true, true, true, true, true, true, true, true, true, true, true, true, false] rfl rfl (any_of HT_.1 (by kernel_rfl)) (fun _ _ _ h => h) (Or.inl ⟨by rfl, ?_⟩) ?_ ?_
           rotate_left
           ·intro w'
            go_simp
            with_reducible rfl
           rotate_left
           ·simp only [Act.put, z1, z2, z3, i64_w, i32_w]
            rfl
           refine pure_ (i := 17) (N := some 13) (v := ?_) (a' := ?_) #[true, true, true, true, true, true, true, true, true, true, true, true, true, true, true, true, true, true] rfl rfl (any_of HT_.1 (by kernel_rfl)) (fun _ _ _ h => h) (Or.inl ⟨by rfl, ?_⟩) ?_ ?_
           rotate_left
           ·intro w'
            go_simp
            with_reducible rfl
           rotate_left
           ·simp only [Act.put, z1, z2, z3, i64_w, i32_w]
            rfl
           refine done_ (done_of HT_.1 (by kernel_rfl)) ?_
           have hnb34 := NB300_301.1
           have hnc34 := NB301_300.1
           have hcz35_0 : w33.cell? ⟨gb300, 0, none⟩ = some (.int .i64 a0_0) := (zc BK300.1 0).trans rfl
           have hcz35_1 : w33.cell? ⟨gb300, 1, none⟩ = some (.int .i64 a0_1) := (zc BK300.1 1).trans rfl
           have hcz35_2 : w33.cell? ⟨gb300, 2, none⟩ = some (.int .i64 a0_2) := (zc BK300.1 2).trans rfl
           have hcz35_3 : w33.cell? ⟨gb300, 3, none⟩ = some (.int .i64 a0_3) := (zc BK300.1 3).trans rfl
           have hfz35_0 := zf BK300.1 0
           have hfz35_1 := zf BK300.1 1
           have hfz35_2 := zf BK300.1 2
           have hfz35_3 := zf BK300.1 3
           try go_wp2_with (first | ((with_reducible refine gate_callee (f := 41) rfl ?_); refine goesL_ (some 58) rfl rfl Try.func41 (by kernel_rfl) rfl #[.agg #[.int .i64 a0_0, .int .i64 a0_1, .int .i64 a0_2, .int .i64 a0_3]] rfl (by (try simp only [List.map_toArray, List.map_cons, List.map_nil]); first | done | rfl | (simp only [List.length_drop, List.length_take]; rfl)) ?_; (with_reducible refine (estoversref21_Total.calls a0_0 a0_1 a0_2 a0_3 t311 _ A29.1).mono ?_); rintro e w36 ⟨rfl, hb⟩; refine ⟨_, rfl, ?_⟩; have n0_ := zM (Kd.R_below (by (with_reducible repeat (first | apply Kd.R_alloc | apply Kd.R_drewN | apply Kd.R_drew)); exact HO_11.1) hb); have n1_ := zM (blk_below (g := gb300) (o := .cells #[.int .i64 a0_0, .int .i64 a0_1, .int .i64 a0_2, .int .i64 a0_3] 37 (0, 0)) (by (with_reducible repeat (first | refine zn ?_ _ | refine zd ?_ | refine za ?_ _)); exact BK300.1) hb); have n2_ := zM (blk_below (g := gb301) (o := .cells #[.int .i64 x302000_1, .int .i64 x302001_1, .bool x302002_1] 43 (0, 0)) (by (with_reducible repeat (first | refine zn ?_ _ | refine zd ?_ | refine za ?_ _)); exact BK301.1) hb); have n3_ := zM (zT (by repeat (first | (with_reducible first | exact HB.1 | apply zA | apply zN | apply zD | refine zS ?_ GE300.1 | refine zS ?_ GE301.1) | exact HB.1)) hb); clear HO_11; clear BK300; clear BK301; clear HB; have HO_11 := n0_; have BK300 := n1_; have BK301 := n2_; have HB := n3_; clear n0_ n1_ n2_ n3_; (try clear hb); (try clear hb2); (try clear hk); (try clear hi)))
           have n0_ := zM (Kd.R_drew HO_11.1)
           have n1_ := zM (zd BK300.1)
           have n2_ := zM (zd BK301.1)
           have n3_ := zM (zD HB.1)
           clear HO_11
           clear BK300
           clear BK301
           clear HB
           have HO_11 := n0_
           have BK300 := n1_
           have BK301 := n2_
           have HB := n3_
           clear n0_ n1_ n2_ n3_
           have p313 : 0 ≤ (x12_1 : Int) := zo (by first | (with_reducible assumption) | assumption)
           have q313 : x12_1 < (t304.length : Int) := zo (by first | (with_reducible assumption) | assumption)
           obtain ⟨ad313, e313, hx313_0⟩ := Kd.at_int (Kd.R_reads' HO_11.1).2.2 x12_1 p313 q313
           obtain rfl : ad307 = ad313 := (by injection e313)
           replace p313 := eq_true p313
           replace q313 := eq_true q313
           refine start_ (n := 11) (S := fun w' => w'.cell? ⟨gb300, 0, none⟩ = some (.int .i64 a0_0) ∧ w'.cell? ⟨gb300, 1, none⟩ = some (.int .i64 a0_1) ∧ w'.cell? ⟨gb300, 2, none⟩ = some (.int .i64 a0_2) ∧ w'.cell? ⟨gb300, 3, none⟩ = some (.int .i64 a0_3) ∧ w'.cell? (ad307.add (x12_1).toNat) = some (.int .i64 (rd t304 x12_1))) (ds := []) #[false, false, false, false, false, false, false, false, false, false, false] (by kernel_rfl) rfl rfl ⟨(zc BK300.1 0).trans rfl, (zc BK300.1 1).trans rfl, (zc BK300.1 2).trans rfl, (zc BK300.1 3).trans rfl, hx313_0⟩ (fun hHeld => ?_); refine with_tabW estoversref21_Short.tab14 estoversref21_Short.bits14 (fun HT_ HW_ => ?_)
           generalize w36.drew = w37 at HO_11 BK300 BK301 HB hx313_0 hHeld ⊢
           refine pure_ (i := 2) (N := some 63) (v := ?_) (a' := ?_) #[false, false, true, false, false, false, false, false, false, false, false] rfl rfl (any_of HT_.1 (by kernel_rfl)) (fun _ _ _ h => h) (Or.inl ⟨by rfl, ?_⟩) ?_ ?_
           rotate_left
           ·intro w'
            go_simp
            with_reducible rfl
           rotate_left
           ·simp only [Act.put, z1, z2, z3, i64_w, i32_w]
            rfl
           refine pure_ (i := 4) (N := some 65) (v := ?_) (a' := ?_) #[false, false, true, false, true, false, false, false, false, false, false] rfl rfl (any_of HT_.1 (by kernel_rfl)) (fun _ _ _ h => h) (Or.inl ⟨by rfl, ?_⟩) ?_ ?_
           rotate_left
           ·intro w'
            go_simp
            with_reducible rfl
           rotate_left
           ·simp only [Act.put, z1, z2, z3, i64_w, i32_w]
            rfl
           refine pure_ (i := 5) (N := some 66) (v := ?_) (a' := ?_) #[false, false, true, false, true, true, false, false, false, false, false] rfl rfl (any_of HT_.1 (by kernel_rfl)) (fun _ _ _ h => h) (Or.inl ⟨by rfl, ?_⟩) ?_ ?_
           rotate_left
           ·intro w'
            go_simp
            with_reducible rfl
           rotate_left
           ·simp only [Act.put, z1, z2, z3, i64_w, i32_w]
            rfl
           refine pure_ (i := 6) (N := some 67) (v := ?_) (a' := ?_) #[false, false, true, false, true, true, true, false, false, false, false] rfl rfl (any_of HT_.1 (by kernel_rfl)) (fun _ _ _ h => h) (Or.inl ⟨by rfl, ?_⟩) ?_ ?_
           rotate_left
           ·intro w'
            go_simp
            with_reducible rfl
           rotate_left
           ·simp only [Act.put, z1, z2, z3, i64_w, i32_w]
            rfl
           refine take_ (i := 0) (N := some 61) (v := ?_) (a' := ?_) #[true, false, true, false, true, true, true, false, false, false, false] rfl rfl (take_ofW HT_.1 HW_.1 (by kernel_rfl)) (fun _ _ _ h => h) (Or.inl ⟨by rfl, ?_⟩) hHeld ?_ ?_
           rotate_left
           ·rintro w' ⟨s0, s1, s2, s3, s4⟩
            go_simp
            with_reducible rfl
           rotate_left
           ·simp only [Act.put, z1, z2, z3, i64_w, i32_w]
            rfl
           refine take_ (i := 7) (N := some 68) (v := ?_) (a' := ?_) #[true, false, true, false, true, true, true, true, false, false, false] rfl rfl (take_ofW HT_.1 HW_.1 (by kernel_rfl)) (fun _ _ _ h => h) (Or.inl ⟨by rfl, ?_⟩) hHeld ?_ ?_
           rotate_left
           ·rintro w' ⟨s0, s1, s2, s3, s4⟩
            go_simp
            with_reducible rfl
           rotate_left
           ·simp only [Act.put, z1, z2, z3, i64_w, i32_w]
            rfl
           refine one_ (i := 1) (N := some 62) #[true, true, true, false, true, true, true, true, false, false, false] rfl rfl (one_of HT_.1 (by kernel_rfl)) (by decide) (fun K hK => ?_)
           refine goes_ Try.func41 (by kernel_rfl) rfl #[.agg #[.int .i64 a0_0, .int .i64 a0_1, .int .i64 a0_2, .int .i64 a0_3]] (by rfl) rfl rfl (by (try simp only [List.map_toArray, List.map_cons, List.map_nil]); first | done | rfl | (simp only [List.length_drop, List.length_take]; rfl)) ?_
           with_reducible refine (estoversref21_Total.calls a0_0 a0_1 a0_2 a0_3 t312 _ A31.1).mono ?_
           rintro e w38 ⟨rfl, hb⟩
           have HS4_ := (hb.cell (zL _ _ (hHeld.2.2.2.2))).trans (hHeld.2.2.2.2)
           refine ⟨_, rfl, ?_⟩
           have n0_ := zM (Kd.R_below (by (with_reducible repeat (first | apply Kd.R_alloc | apply Kd.R_drewN | apply Kd.R_drew)); exact HO_11.1) hb)
           have n1_ := zM (blk_below (g := gb300) (o := .cells #[.int .i64 a0_0, .int .i64 a0_1, .int .i64 a0_2, .int .i64 a0_3] 37 (0, 0)) (by (with_reducible repeat (first | refine zn ?_ _ | refine zd ?_ | refine za ?_ _)); exact BK300.1) hb)
           have n2_ := zM (blk_below (g := gb301) (o := .cells #[.int .i64 x302000_1, .int .i64 x302001_1, .bool x302002_1] 43 (0, 0)) (by (with_reducible repeat (first | refine zn ?_ _ | refine zd ?_ | refine za ?_ _)); exact BK301.1) hb)
           have n3_ := zM (zT (by repeat (first | (with_reducible first | exact HB.1 | apply zA | apply zN | apply zD | refine zS ?_ GE300.1 | refine zS ?_ GE301.1) | exact HB.1)) hb)
           clear HO_11
           clear BK300
           clear BK301
           clear HB
           have HO_11 := n0_
           have BK300 := n1_
           have BK301 := n2_
           have HB := n3_
           clear n0_ n1_ n2_ n3_
           (try clear hb)
           (try clear hb2)
           (try clear hk)
           (try clear hi)
           refine hK.out _ _ ⟨(zc BK300.1 0).trans rfl, (zc BK300.1 1).trans rfl, (zc BK300.1 2).trans rfl, (zc BK300.1 3).trans rfl, HS4_⟩ (fun hHeld => ?_)
           clear hK K
           refine norm_ (a' := ?_) ?_ ?_
           rotate_left
           ·show Act.put _ (some 62) _ = _
            simp only [Act.put, z1, z2, z3, i64_w, i32_w]
            rfl
           refine pure_ (i := 3) (N := some 64) (v := ?_) (a' := ?_) #[true, true, true, true, true, true, true, true, false, false, false] rfl rfl (any_of HT_.1 (by kernel_rfl)) (fun _ _ _ h => h) (Or.inl ⟨by rfl, ?_⟩) ?_ ?_
           rotate_left
           ·intro w'
            go_simp
            with_reducible rfl
           rotate_left
           ·simp only [Act.put, z1, z2, z3, i64_w, i32_w]
            rfl
           refine pure_ (i := 8) (N := some 69) (v := ?_) (a' := ?_) #[true, true, true, true, true, true, true, true, true, false, false] rfl rfl (any_of HT_.1 (by kernel_rfl)) (fun _ _ _ h => h) (Or.inl ⟨by rfl, ?_⟩) ?_ ?_
           rotate_left
           ·intro w'
            go_simp
            with_reducible rfl
           rotate_left
           ·simp only [Act.put, z1, z2, z3, i64_w, i32_w]
            rfl
           refine one_ (i := 9) (N := none) #[true, true, true, true, true, true, true, true, true, true, false] rfl rfl (one_of HT_.1 (by kernel_rfl)) (by decide) (fun K hK => ?_)
           have hs39 : w38.cell? ⟨gb301, 0, none⟩ = some (.int .i64 x302000_1) := (zc BK301.1 0).trans rfl
           have hfs39 := zf BK301.1 0
           have hns39_0 := NB300_301.1
           have hms39_0 := NB301_300.1
           have hs40 : w38.cell? ⟨gb301, 1, none⟩ = some (.int .i64 x302001_1) := (zc BK301.1 1).trans rfl
           have hfs40 := zf BK301.1 1
           have hns40_0 := NB300_301.1
           have hms40_0 := NB301_300.1
           have hs41 : w38.cell? ⟨gb301, 2, none⟩ = some (.bool x302002_1) := (zc BK301.1 2).trans rfl
           have hfs41 := zf BK301.1 2
           have hns41_0 := NB300_301.1
           have hms41_0 := NB301_300.1
           refine skip_ (w1 := ?_) (by rfl) rfl ?_ ?_
           rotate_left
           ·go_simp
            rfl
           refine hK.out _ _ ⟨((cell_far (p := ⟨gb301, _, none⟩) NB300_301.1 _).trans (((cell_far (p := ⟨gb301, _, none⟩) NB300_301.1 _).trans (((cell_far (p := ⟨gb301, _, none⟩) NB300_301.1 _).trans (hHeld.1)))))), ((cell_far (p := ⟨gb301, _, none⟩) NB300_301.1 _).trans (((cell_far (p := ⟨gb301, _, none⟩) NB300_301.1 _).trans (((cell_far (p := ⟨gb301, _, none⟩) NB300_301.1 _).trans (hHeld.2.1)))))), ((cell_far (p := ⟨gb301, _, none⟩) NB300_301.1 _).trans (((cell_far (p := ⟨gb301, _, none⟩) NB300_301.1 _).trans (((cell_far (p := ⟨gb301, _, none⟩) NB300_301.1 _).trans (hHeld.2.2.1)))))), ((cell_far (p := ⟨gb301, _, none⟩) NB300_301.1 _).trans (((cell_far (p := ⟨gb301, _, none⟩) NB300_301.1 _).trans (((cell_far (p := ⟨gb301, _, none⟩) NB300_301.1 _).trans (hHeld.2.2.2.1)))))), ((cell_far (p := ⟨gb301, _, none⟩) (by first | exact Kd.own_blk (Kd.R_ne HO_11.1 BK301.1 (by decide)) | (rw [add_block]; exact Kd.own_blk (Kd.R_ne HO_11.1 BK301.1 (by decide))) | (show (Addr.add _ _).block ≠ _; rw [add_block]; exact Kd.own_blk (Kd.R_ne HO_11.1 BK301.1 (by decide))) | (dsimp only; exact Kd.own_blk (Kd.R_ne HO_11.1 BK301.1 (by decide)))) _).trans (((cell_far (p := ⟨gb301, _, none⟩) (by first | exact Kd.own_blk (Kd.R_ne HO_11.1 BK301.1 (by decide)) | (rw [add_block]; exact Kd.own_blk (Kd.R_ne HO_11.1 BK301.1 (by decide))) | (show (Addr.add _ _).block ≠ _; rw [add_block]; exact Kd.own_blk (Kd.R_ne HO_11.1 BK301.1 (by decide))) | (dsimp only; exact Kd.own_blk (Kd.R_ne HO_11.1 BK301.1 (by decide)))) _).trans (((cell_far (p := ⟨gb301, _, none⟩) (by first | exact Kd.own_blk (Kd.R_ne HO_11.1 BK301.1 (by decide)) | (rw [add_block]; exact Kd.own_blk (Kd.R_ne HO_11.1 BK301.1 (by decide))) | (show (Addr.add _ _).block ≠ _; rw [add_block]; exact Kd.own_blk (Kd.R_ne HO_11.1 BK301.1 (by decide))) | (dsimp only; exact Kd.own_blk (Kd.R_ne HO_11.1 BK301.1 (by decide)))) _).trans (hHeld.2.2.2.2))))))⟩ (fun hHeld => ?_)
           clear hK K
           refine pure_ (i := 10) (N := some 9) (v := ?_) (a' := ?_) #[true, true, true, true, true, true, true, true, true, true, true] rfl rfl (any_of HT_.1 (by kernel_rfl)) (fun _ _ _ h => h) (Or.inl ⟨by rfl, ?_⟩) ?_ ?_
           rotate_left
           ·intro w'
            go_simp
            with_reducible rfl
           rotate_left
           ·simp only [Act.put, z1, z2, z3, i64_w, i32_w]
            rfl
           refine done_ (done_of HT_.1 (by kernel_rfl)) ?_
           try go_wp2
           refine bodyPost_ret (results_ct rfl _ _ gb301 43 #[.int .i64 (wrap64 (t312 - (wrap64 (((rd_T59 l1 (rd t304 x12_1)).f4) - ((rd_T59 l1 (rd t304 x12_1)).f1))))), .int .i64 (rd t304 x12_1), .bool false] (0, 0) _ rfl (by (with_reducible repeat (first | refine zn ?_ _ | refine zd ?_ | refine za ?_ _)); refine blk_put (cs := #[.int .i64 (wrap64 (t312 - (wrap64 (((rd_T59 l1 (rd t304 x12_1)).f4) - ((rd_T59 l1 (rd t304 x12_1)).f1))))), .int .i64 (rd t304 x12_1), .bool x302002_1]) ?_ 2 _ rfl; (with_reducible repeat (first | refine zn ?_ _ | refine zd ?_ | refine za ?_ _)); refine blk_put (cs := #[.int .i64 (wrap64 (t312 - (wrap64 (((rd_T59 l1 (rd t304 x12_1)).f4) - ((rd_T59 l1 (rd t304 x12_1)).f1))))), .int .i64 x302001_1, .bool x302002_1]) ?_ 1 _ rfl; (with_reducible repeat (first | refine zn ?_ _ | refine zd ?_ | refine za ?_ _)); refine blk_put (cs := #[.int .i64 x302000_1, .int .i64 x302001_1, .bool x302002_1]) ?_ 0 _ rfl; (with_reducible repeat (first | refine zn ?_ _ | refine zd ?_ | refine za ?_ _)); exact BK301.1) Try.underlying43 rfl (by kernel_rfl)) rfl ?_
           exact ⟨by first | rfl | (simp [errW_none, errW_some] <;> rfl) | (simp [*, errW_none, errW_some] <;> rfl), by repeat (first | (with_reducible first | exact HB.1 | apply zA | apply zN | apply zD | refine zS ?_ GE300.1 | refine zS ?_ GE301.1) | exact HB.1)⟩
          ·rw [if_neg c30] at H
           have c30b0 : decide ((wrap64 (((rd_T59 l1 (rd t304 x12_1)).f4) - ((rd_T59 l1 (rd t304 x12_1)).f1))) < t311) = false := decide_eq_false c30
           clear c30
           have H' := zM H
           clear H
           obtain ⟨Ao42, co42, eo42⟩ := Kd.R_slice HO_11.1
           subst eo42
           try go_wp2
           have n0_ := zM (Kd.R_drew HO_11.1)
           have n1_ := zM (zd BK300.1)
           have n2_ := zM (zd BK301.1)
           have n3_ := zM (zD HB.1)
           clear HO_11
           clear BK300
           clear BK301
           clear HB
           have HO_11 := n0_
           have BK300 := n1_
           have BK301 := n2_
           have HB := n3_
           clear n0_ n1_ n2_ n3_
           have p307 : 0 ≤ (x12_1 : Int) := zo (by first | (with_reducible assumption) | assumption)
           have q307 : x12_1 < (t304.length : Int) := zo (by first | (with_reducible assumption) | assumption)
           obtain ⟨ad307, e307, hx307_0⟩ := Kd.at_int (Kd.R_reads' HO_11.1).2.2 x12_1 p307 q307
           cases e307
           replace p307 := eq_true p307
           replace q307 := eq_true q307
           have p308 : 0 ≤ ((rd t304 x12_1) : Int) := zo (by first | (with_reducible assumption) | assumption)
           have q308 : (rd t304 x12_1) < (l1.length : Int) := zo (by first | (with_reducible assumption) | assumption)
           obtain ⟨ad308, e308, hx308_0, hx308_1, hx308_2, hx308_3, hx308_4⟩ := at_T59 HR1.1 (rd t304 x12_1) p308 q308
           have hw308_4 := hx308_4
           have hw308_3 := hx308_3
           have hw308_2 := hx308_2
           have hw308_1 := hx308_1
           have hw308_0 := hx308_0
           cases e308
           replace hx308_0 := (HB.1.cell (zL w _ hx308_0)).trans hx308_0
           replace hx308_1 := (HB.1.cell (zL w _ hx308_1)).trans hx308_1
           replace hx308_2 := (HB.1.cell (zL w _ hx308_2)).trans hx308_2
           replace hx308_3 := (HB.1.cell (zL w _ hx308_3)).trans hx308_3
           replace hx308_4 := (HB.1.cell (zL w _ hx308_4)).trans hx308_4
           replace p308 := eq_true p308
           replace q308 := eq_true q308
           have p309 : 0 ≤ (x12_1 : Int) := zo (by first | (with_reducible assumption) | assumption)
           have q309 : x12_1 < (t304.length : Int) := zo (by first | (with_reducible assumption) | assumption)
           obtain ⟨ad309, e309, hx309_0⟩ := Kd.at_int (Kd.R_reads' HO_11.1).2.2 x12_1 p309 q309
           obtain rfl : ad307 = ad309 := (by injection e309)
           replace p309 := eq_true p309
           replace q309 := eq_true q309
           have p310 : 0 ≤ ((rd t304 x12_1) : Int) := zo (by first | (with_reducible assumption) | assumption)
           have q310 : (rd t304 x12_1) < (l1.length : Int) := zo (by first | (with_reducible assumption) | assumption)
           obtain ⟨ad310, e310, hx310_0, hx310_1, hx310_2, hx310_3, hx310_4⟩ := at_T59 HR1.1 (rd t304 x12_1) p310 q310
           have hw310_4 := hx310_4
           have hw310_3 := hx310_3
           have hw310_2 := hx310_2
           have hw310_1 := hx310_1
           have hw310_0 := hx310_0
           obtain rfl : ad308 = ad310 := (by injection e310)
           replace hx310_0 := (HB.1.cell (zL w _ hx310_0)).trans hx310_0
           replace hx310_1 := (HB.1.cell (zL w _ hx310_1)).trans hx310_1
           replace hx310_2 := (HB.1.cell (zL w _ hx310_2)).trans hx310_2
           replace hx310_3 := (HB.1.cell (zL w _ hx310_3)).trans hx310_3
           replace hx310_4 := (HB.1.cell (zL w _ hx310_4)).trans hx310_4
           replace p310 := eq_true p310
           replace q310 := eq_true q310
           refine start_ (n := 18) (S := fun w' => w'.cell? (ad307.add (x12_1).toNat) = some (.int .i64 (rd t304 x12_1)) ∧ w'.cell? (ad308.add (((rd t304 x12_1)).toNat * 5)) = some (.int .i64 ((rd_T59 l1 (rd t304 x12_1)).f0)) ∧ w'.cell? ⟨(ad308.add (((rd t304 x12_1)).toNat * 5)).block, (ad308.add (((rd t304 x12_1)).toNat * 5)).off + 1, none⟩ = some (.int .i64 ((rd_T59 l1 (rd t304 x12_1)).f1)) ∧ w'.cell? ⟨(ad308.add (((rd t304 x12_1)).toNat * 5)).block, (ad308.add (((rd t304 x12_1)).toNat * 5)).off + 2, none⟩ = some (.int .i64 ((rd_T59 l1 (rd t304 x12_1)).f2)) ∧ w'.cell? ⟨(ad308.add (((rd t304 x12_1)).toNat * 5)).block, (ad308.add (((rd t304 x12_1)).toNat * 5)).off + 3, none⟩ = some (.int .i64 ((rd_T59 l1 (rd t304 x12_1)).f3)) ∧ w'.cell? ⟨(ad308.add (((rd t304 x12_1)).toNat * 5)).block, (ad308.add (((rd t304 x12_1)).toNat * 5)).off + 4, none⟩ = some (.int .i64 ((rd_T59 l1 (rd t304 x12_1)).f4)) ∧ w'.cell? (ad307.add (x12_1).toNat) = some (.int .i64 (rd t304 x12_1)) ∧ w'.cell? (ad308.add (((rd t304 x12_1)).toNat * 5)) = some (.int .i64 ((rd_T59 l1 (rd t304 x12_1)).f0)) ∧ w'.cell? ⟨(ad308.add (((rd t304 x12_1)).toNat * 5)).block, (ad308.add (((rd t304 x12_1)).toNat * 5)).off + 1, none⟩ = some (.int .i64 ((rd_T59 l1 (rd t304 x12_1)).f1)) ∧ w'.cell? ⟨(ad308.add (((rd t304 x12_1)).toNat * 5)).block, (ad308.add (((rd t304 x12_1)).toNat * 5)).off + 2, none⟩ = some (.int .i64 ((rd_T59 l1 (rd t304 x12_1)).f2)) ∧ w'.cell? ⟨(ad308.add (((rd t304 x12_1)).toNat * 5)).block, (ad308.add (((rd t304 x12_1)).toNat * 5)).off + 3, none⟩ = some (.int .i64 ((rd_T59 l1 (rd t304 x12_1)).f3)) ∧ w'.cell? ⟨(ad308.add (((rd t304 x12_1)).toNat * 5)).block, (ad308.add (((rd t304 x12_1)).toNat * 5)).off + 4, none⟩ = some (.int .i64 ((rd_T59 l1 (rd t304 x12_1)).f4))) (ds := []) #[false, false, false, false, false, false, false, false, false, false, false, false, false, false, false, false, false, false] (by kernel_rfl) rfl rfl ⟨hx307_0, ((HB.1.cell (zL w _ hw308_0)).trans hw308_0), ((HB.1.cell (zL w _ hw308_1)).trans hw308_1), ((HB.1.cell (zL w _ hw308_2)).trans hw308_2), ((HB.1.cell (zL w _ hw308_3)).trans hw308_3), ((HB.1.cell (zL w _ hw308_4)).trans hw308_4), hx309_0, ((HB.1.cell (zL w _ hw310_0)).trans hw310_0), ((HB.1.cell (zL w _ hw310_1)).trans hw310_1), ((HB.1.cell (zL w _ hw310_2)).trans hw310_2), ((HB.1.cell (zL w _ hw310_3)).trans hw310_3), ((HB.1.cell (zL w _ hw310_4)).trans hw310_4)⟩ (fun hHeld => ?_); refine with_tabW estoversref21_Short.tab12 estoversref21_Short.bits12 (fun HT_ HW_ => ?_)
           generalize wr.drew = w43 at HO_11 BK300 BK301 HB hx307_0 hx308_0 hx308_1 hx308_2 hx308_3 hx308_4 hx309_0 hx310_0 hx310_1 hx310_2 hx310_3 hx310_4 hHeld ⊢
           refine pure_ (i := 0) (N := some 40) (v := ?_) (a' := ?_) #[true, false, false, false, false, false, false, false, false, false, false, false, false, false, false, false, false, false] rfl rfl (any_of HT_.1 (by kernel_rfl)) (fun _ _ _ h => h) (Or.inl ⟨by rfl, ?_⟩) ?_ ?_
           rotate_left
           ·intro w'
            go_simp
            with_reducible rfl
           rotate_left
           ·simp only [Act.put, z1, z2, z3, i64_w, i32_w]
            rfl
           refine pure_ (i := 1) (N := some 41) (v := ?_) (a' := ?_) #[true, true, false, false, false, false, false, false, false, false, false, false, false, false, false, false, false, false] rfl rfl (any_of HT_.1 (by kernel_rfl)) (fun _ _ _ h => h) (Or.inl ⟨by rfl, ?_⟩) ?_ ?_
           rotate_left
           ·intro w'
            go_simp
            with_reducible rfl
           rotate_left
           ·simp only [Act.put, z1, z2, z3, i64_w, i32_w]
            rfl
           refine pure_ (i := 2) (N := some 42) (v := ?_) (a' := ?_) #[true, true, true, false, false, false, false, false, false, false, false, false, false, false, false, false, false, false] rfl rfl (any_of HT_.1 (by kernel_rfl)) (fun _ _ _ h => h) (Or.inl ⟨by rfl, ?_⟩) ?_ ?_
           rotate_left
           ·intro w'
            go_simp
            with_reducible rfl
           rotate_left
           ·simp only [Act.put, z1, z2, z3, i64_w, i32_w]
            rfl
           refine pure_ (i := 3) (N := some 43) (v := ?_) (a' := ?_) #[true, true, true, true, false, false, false, false, false, false, false, false, false, false, false, false, false, false] rfl rfl (any_of HT_.1 (by kernel_rfl)) (fun _ _ _ h => h) (Or.inl ⟨by rfl, ?_⟩) ?_ ?_
           rotate_left
           ·intro w'
            go_simp
            with_reducible rfl
           rotate_left
           ·simp only [Act.put, z1, z2, z3, i64_w, i32_w]
            rfl
           refine pure_ (i := 8) (N := some 48) (v := ?_) (a' := ?_) #[true, true, true, true, false, false, false, false, true, false, false, false, false, false, false, false, false, false] rfl rfl (any_of HT_.1 (by kernel_rfl)) (fun _ _ _ h => h) (Or.inl ⟨by rfl, ?_⟩) ?_ ?_
           rotate_left
           ·intro w'
            go_simp
            with_reducible rfl
           rotate_left
           ·simp only [Act.put, z1, z2, z3, i64_w, i32_w]
            rfl
           refine pure_ (i := 9) (N := some 49) (v := ?_) (a' := ?_) #[true, true, true, true, false, false, false, false, true, true, false, false, false, false, false, false, false, false] rfl rfl (any_of HT_.1 (by kernel_rfl)) (fun _ _ _ h => h) (Or.inl ⟨by rfl, ?_⟩) ?_ ?_
           rotate_left
           ·intro w'
            go_simp
            with_reducible rfl
           rotate_left
           ·simp only [Act.put, z1, z2, z3, i64_w, i32_w]
            rfl
           refine pure_ (i := 10) (N := some 50) (v := ?_) (a' := ?_) #[true, true, true, true, false, false, false, false, true, true, true, false, false, false, false, false, false, false] rfl rfl (any_of HT_.1 (by kernel_rfl)) (fun _ _ _ h => h) (Or.inl ⟨by rfl, ?_⟩) ?_ ?_
           rotate_left
           ·intro w'
            go_simp
            with_reducible rfl
           rotate_left
           ·simp only [Act.put, z1, z2, z3, i64_w, i32_w]
            rfl
           refine pure_ (i := 11) (N := some 51) (v := ?_) (a' := ?_) #[true, true, true, true, false, false, false, false, true, true, true, true, false, false, false, false, false, false] rfl rfl (any_of HT_.1 (by kernel_rfl)) (fun _ _ _ h => h) (Or.inl ⟨by rfl, ?_⟩) ?_ ?_
           rotate_left
           ·intro w'
            go_simp
            with_reducible rfl
           rotate_left
           ·simp only [Act.put, z1, z2, z3, i64_w, i32_w]
            rfl
           refine take_ (i := 4) (N := some 44) (v := ?_) (a' := ?_) #[true, true, true, true, true, false, false, false, true, true, true, true, false, false, false, false, false, false] rfl rfl (take_ofW HT_.1 HW_.1 (by kernel_rfl)) (fun _ _ _ h => h) (Or.inl ⟨by rfl, ?_⟩) hHeld ?_ ?_
           rotate_left
           ·rintro w' ⟨s0, s1, s2, s3, s4, s5, s6, s7, s8, s9, s10, s11⟩
            go_simp
            with_reducible rfl
           rotate_left
           ·simp only [Act.put, z1, z2, z3, i64_w, i32_w]
            rfl
           refine pure_ (i := 5) (N := some 45) (v := ?_) (a' := ?_) #[true, true, true, true, true, true, false, false, true, true, true, true, false, false, false, false, false, false] rfl rfl (any_of HT_.1 (by kernel_rfl)) (fun _ _ _ h => h) (Or.inl ⟨by rfl, ?_⟩) ?_ ?_
           rotate_left
           ·intro w'
            go_simp
            with_reducible rfl
           rotate_left
           ·simp only [Act.put, z1, z2, z3, i64_w, i32_w]
            rfl
           refine pure_ (i := 6) (N := some 46) (v := ?_) (a' := ?_) #[true, true, true, true, true, true, true, false, true, true, true, true, false, false, false, false, false, false] rfl rfl (any_of HT_.1 (by kernel_rfl)) (fun _ _ _ h => h) (Or.inl ⟨by rfl, ?_⟩) ?_ ?_
           rotate_left
           ·intro w'
            go_simp
            with_reducible rfl
           rotate_left
           ·simp only [Act.put, z1, z2, z3, i64_w, i32_w]
            rfl
           refine take_ (i := 7) (N := some 47) (v := ?_) (a' := ?_) #[true, true, true, true, true, true, true, true, true, true, true, true, false, false, false, false, false, false] rfl rfl (take_ofW HT_.1 HW_.1 (by kernel_rfl)) (fun _ _ _ h => h) (Or.inl ⟨by rfl, ?_⟩) hHeld ?_ ?_
           rotate_left
           ·rintro w' ⟨s0, s1, s2, s3, s4, s5, s6, s7, s8, s9, s10, s11⟩
            go_simp
            with_reducible rfl
           rotate_left
           ·simp only [Act.put, z1, z2, z3, i64_w, i32_w]
            rfl
           refine take_ (i := 12) (N := some 52) (v := ?_) (a' := ?_) #[true, true, true, true, true, true, true, true, true, true, true, true, true, false, false, false, false, false] rfl rfl (take_ofW HT_.1 HW_.1 (by kernel_rfl)) (fun _ _ _ h => h) (Or.inl ⟨by rfl, ?_⟩) hHeld ?_ ?_
           rotate_left
           ·rintro w' ⟨s0, s1, s2, s3, s4, s5, s6, s7, s8, s9, s10, s11⟩
            go_simp
            with_reducible rfl
           rotate_left
           ·simp only [Act.put, z1, z2, z3, i64_w, i32_w]
            rfl
           refine pure_ (i := 13) (N := some 53) (v := ?_) (a' := ?_) #[true, true, true, true, true, true, true, true, true, true, true, true, true, true, false, false, false, false] rfl rfl (any_of HT_.1 (by kernel_rfl)) (fun _ _ _ h => h) (Or.inl ⟨by rfl, ?_⟩) ?_ ?_
           rotate_left
           ·intro w'
            go_simp
            with_reducible rfl
           rotate_left
           ·simp only [Act.put, z1, z2, z3, i64_w, i32_w]
            rfl
           refine pure_ (i := 14) (N := some 54) (v := ?_) (a' := ?_) #[true, true, true, true, true, true, true, true, true, true, true, true, true, true, true, false, false, false] rfl rfl (any_of HT_.1 (by kernel_rfl)) (fun _ _ _ h => h) (Or.inl ⟨by rfl, ?_⟩) ?_ ?_
           rotate_left
           ·intro w'
            go_simp
            with_reducible rfl
           rotate_left
           ·simp only [Act.put, z1, z2, z3, i64_w, i32_w]
            rfl
           refine take_ (i := 15) (N := some 55) (v := ?_) (a' := ?_) #[true, true, true, true, true, true, true, true, true, true, true, true, true, true, true, true, false, false] rfl rfl (take_ofW HT_.1 HW_.1 (by kernel_rfl)) (fun _ _ _ h => h) (Or.inl ⟨by rfl, ?_⟩) hHeld ?_ ?_
           rotate_left
           ·rintro w' ⟨s0, s1, s2, s3, s4, s5, s6, s7, s8, s9, s10, s11⟩
            go_simp
            with_reducible rfl
           rotate_left
           ·simp only [Act.put, z1, z2, z3, i64_w, i32_w]
            rfl
           refine pure_ (i := 16) (N := some 56) (v := ?_) (a' := ?_) #[true, true, true, true, true, true, true, true, true, true, true, true, true, true, true, true, true, false] rfl rfl (any_of HT_.1 (by kernel_rfl)) (fun _ _ _ h => h) (Or.inl ⟨by rfl, ?_⟩) ?_ ?_
           rotate_left
           ·intro w'
            go_simp
            with_reducible rfl
           rotate_left
           ·simp only [Act.put, z1, z2, z3, i64_w, i32_w]
            rfl
           refine pure_ (i := 17) (N := some 13) (v := ?_) (a' := ?_) #[true, true, true, true, true, true, true, true, true, true, true, true, true, true, true, true, true, true] rfl rfl (any_of HT_.1 (by kernel_rfl)) (fun _ _ _ h => h) (Or.inl ⟨by rfl, ?_⟩) ?_ ?_
           rotate_left
           ·intro w'
            go_simp
            with_reducible rfl
           rotate_left
           ·simp only [Act.put, z1, z2, z3, i64_w, i32_w]
            rfl
           refine done_ (done_of HT_.1 (by kernel_rfl)) ?_
           have hnb44 := NB300_301.1
           have hnc44 := NB301_300.1
           have hcz45_0 : w43.cell? ⟨gb300, 0, none⟩ = some (.int .i64 a0_0) := (zc BK300.1 0).trans rfl
           have hcz45_1 : w43.cell? ⟨gb300, 1, none⟩ = some (.int .i64 a0_1) := (zc BK300.1 1).trans rfl
           have hcz45_2 : w43.cell? ⟨gb300, 2, none⟩ = some (.int .i64 a0_2) := (zc BK300.1 2).trans rfl
           have hcz45_3 : w43.cell? ⟨gb300, 3, none⟩ = some (.int .i64 a0_3) := (zc BK300.1 3).trans rfl
           have hfz45_0 := zf BK300.1 0
           have hfz45_1 := zf BK300.1 1
           have hfz45_2 := zf BK300.1 2
           have hfz45_3 := zf BK300.1 3
           try go_wp2_with (first | ((with_reducible refine gate_callee (f := 41) rfl ?_); refine goesL_ (some 58) rfl rfl Try.func41 (by kernel_rfl) rfl #[.agg #[.int .i64 a0_0, .int .i64 a0_1, .int .i64 a0_2, .int .i64 a0_3]] rfl (by (try simp only [List.map_toArray, List.map_cons, List.map_nil]); first | done | rfl | (simp only [List.length_drop, List.length_take]; rfl)) ?_; (with_reducible refine (estoversref21_Total.calls a0_0 a0_1 a0_2 a0_3 t311 _ A29.1).mono ?_); rintro e w46 ⟨rfl, hb⟩; refine ⟨_, rfl, ?_⟩; have n0_ := zM (Kd.R_below (by (with_reducible repeat (first | apply Kd.R_alloc | apply Kd.R_drewN | apply Kd.R_drew)); exact HO_11.1) hb); have n1_ := zM (blk_below (g := gb300) (o := .cells #[.int .i64 a0_0, .int .i64 a0_1, .int .i64 a0_2, .int .i64 a0_3] 37 (0, 0)) (by (with_reducible repeat (first | refine zn ?_ _ | refine zd ?_ | refine za ?_ _)); exact BK300.1) hb); have n2_ := zM (blk_below (g := gb301) (o := .cells #[.int .i64 x302000_1, .int .i64 x302001_1, .bool x302002_1] 43 (0, 0)) (by (with_reducible repeat (first | refine zn ?_ _ | refine zd ?_ | refine za ?_ _)); exact BK301.1) hb); have n3_ := zM (zT (by repeat (first | (with_reducible first | exact HB.1 | apply zA | apply zN | apply zD | refine zS ?_ GE300.1 | refine zS ?_ GE301.1) | exact HB.1)) hb); clear HO_11; clear BK300; clear BK301; clear HB; have HO_11 := n0_; have BK300 := n1_; have BK301 := n2_; have HB := n3_; clear n0_ n1_ n2_ n3_; (try clear hb); (try clear hb2); (try clear hk); (try clear hi)))
           go_roundg k1
           case measure => have := HK1.1; omega
           case rel => exact ⟨(wrap64 (x12_1 + 1)), (x302000_1), (x302001_1), (x302002_1), (by first | rfl | (simp; done) | (simp [*]; done)), H', ⟨by have := HK1.1; omega⟩, ⟨by (with_reducible repeat (first | apply Kd.R_alloc | apply Kd.R_drewN | apply Kd.R_drew)); exact HO_11.1⟩, ⟨by (with_reducible repeat (first | refine zn ?_ _ | refine zd ?_ | refine za ?_ _)); exact BK300.1⟩, ⟨by (with_reducible repeat (first | refine zn ?_ _ | refine zd ?_ | refine za ?_ _)); exact BK301.1⟩, ⟨by repeat (first | (with_reducible first | exact HB.1 | apply zA | apply zN | apply zD | refine zS ?_ GE300.1 | refine zS ?_ GE301.1) | exact HB.1)⟩⟩
         ·rw [if_neg c28] at H
          exact absurd H (by simp)
        ·rw [if_neg c27] at H
         exact absurd H (by simp)
       ·rw [if_neg c26] at H
        exact absurd H (by simp)
      ·rw [if_neg c25] at H
       have c25b0 : decide (x12_1 < (t304.length : Int)) = false := decide_eq_false c25
       clear c25
       obtain ⟨ji47, hji47⟩ : ∃ j_ : Int, (mx a2 (-1048576)) = j_ := ⟨_, rfl⟩
       replace H : (if a0_2 > (ji47) then (some (wrap64 (a0_2 - (ji47)), (-1), true, 0)) else ((estoversref21_Total.f a0_0 a0_1 a0_2 a0_3).bind fun t314 => (if t314 > (mx a3 (-1048576)) then ((estoversref21_Total.f a0_0 a0_1 a0_2 a0_3).bind fun t315 => (some (wrap64 (t315 - (mx a3 (-1048576))), (-1), false, 0))) else (some (0, (-1), false, 0))))) = some (r1, r2, r3, r4) := by first | (rw [hji47] at H; exact H) | (simp only [hji47] at H ⊢; exact H)
       have hji47_ : (if a2 < (-1048576) then (-1048576) else a2) = ji47 := hji47
       obtain ⟨ji48, hji48⟩ : ∃ j_ : Int, (mx a3 (-1048576)) = j_ := ⟨_, rfl⟩
       replace H : (if a0_2 > (ji47) then (some (wrap64 (a0_2 - (ji47)), (-1), true, 0)) else ((estoversref21_Total.f a0_0 a0_1 a0_2 a0_3).bind fun t314 => (if t314 > (ji48) then ((estoversref21_Total.f a0_0 a0_1 a0_2 a0_3).bind fun t315 => (some (wrap64 (t315 - (ji48)), (-1), false, 0))) else (some (0, (-1), false, 0))))) = some (r1, r2, r3, r4) := by first | (rw [hji48] at H; exact H) | (simp only [hji48] at H ⊢; exact H)
       have hji48_ : (if a3 < (-1048576) then (-1048576) else a3) = ji48 := hji48
       by_cases c49 : a0_2 > (ji47)
       ·rw [if_pos c49] at H
        have c49b0 : decide ((ji47) < a0_2) = true := decide_eq_true c49
        clear c49
        simp only [Option.some.injEq, Prod.mk.injEq] at H
        obtain ⟨rfl, rfl, rfl, rfl⟩ := H
        obtain ⟨Ao50, co50, eo50⟩ := Kd.R_slice HO_11.1
        subst eo50
        have hnb51 := NB300_301.1
        have hnc51 := NB301_300.1
        have hcz52_0 : wr.cell? ⟨gb300, 0, none⟩ = some (.int .i64 a0_0) := (zc BK300.1 0).trans rfl
        have hcz52_1 : wr.cell? ⟨gb300, 1, none⟩ = some (.int .i64 a0_1) := (zc BK300.1 1).trans rfl
        have hcz52_2 : wr.cell? ⟨gb300, 2, none⟩ = some (.int .i64 a0_2) := (zc BK300.1 2).trans rfl
        have hcz52_3 : wr.cell? ⟨gb300, 3, none⟩ = some (.int .i64 a0_3) := (zc BK300.1 3).trans rfl
        have hfz52_0 := zf BK300.1 0
        have hfz52_1 := zf BK300.1 1
        have hfz52_2 := zf BK300.1 2
        have hfz52_3 := zf BK300.1 3
        have hcz53_0 : wr.cell? ⟨gb301, 0, none⟩ = some (.int .i64 x302000_1) := (zc BK301.1 0).trans rfl
        have hcz53_1 : wr.cell? ⟨gb301, 1, none⟩ = some (.int .i64 x302001_1) := (zc BK301.1 1).trans rfl
        have hcz53_2 : wr.cell? ⟨gb301, 2, none⟩ = some (.bool x302002_1) := (zc BK301.1 2).trans rfl
        have hfz53_0 := zf BK301.1 0
        have hfz53_1 := zf BK301.1 1
        have hfz53_2 := zf BK301.1 2
        go_wp2
        refine bodyPost_ret (results_ct rfl _ _ gb301 43 #[.int .i64 (wrap64 (a0_2 - (ji47))), .int .i64 (-1), .bool true] (0, 0) _ rfl (by (with_reducible repeat (first | refine zn ?_ _ | refine zd ?_ | refine za ?_ _)); refine blk_put (cs := #[.int .i64 (wrap64 (a0_2 - (ji47))), .int .i64 (-1), .bool x302002_1]) ?_ 2 _ rfl; (with_reducible repeat (first | refine zn ?_ _ | refine zd ?_ | refine za ?_ _)); refine blk_put (cs := #[.int .i64 (wrap64 (a0_2 - (ji47))), .int .i64 x302001_1, .bool x302002_1]) ?_ 1 _ rfl; (with_reducible repeat (first | refine zn ?_ _ | refine zd ?_ | refine za ?_ _)); refine blk_put (cs := #[.int .i64 x302000_1, .int .i64 x302001_1, .bool x302002_1]) ?_ 0 _ rfl; (with_reducible repeat (first | refine zn ?_ _ | refine zd ?_ | refine za ?_ _)); exact BK301.1) Try.underlying43 rfl (by kernel_rfl)) rfl ?_
        exact ⟨by first | rfl | (simp [errW_none, errW_some] <;> rfl) | (simp only [← hji47, ← hji48]; first | rfl | (simp [errW_none, errW_some] <;> rfl)) | (simp [*, errW_none, errW_some] <;> rfl), by repeat (first | (with_reducible first | exact HB.1 | apply zA | apply zN | apply zD | refine zS ?_ GE300.1 | refine zS ?_ GE301.1) | exact HB.1)⟩
       ·rw [if_neg c49] at H
        have c49b0 : decide ((ji47) < a0_2) = false := decide_eq_false c49
        clear c49
        replace H := Option.bind_eq_some_iff.mp H
        obtain ⟨t314, A540, H⟩ := H
        replace H : (if t314 > (ji48) then ((estoversref21_Total.f a0_0 a0_1 a0_2 a0_3).bind fun t315 => (some (wrap64 (t315 - (ji48)), (-1), false, 0))) else (some (0, (-1), false, 0))) = some (r1, r2, r3, r4) := H
        have A54 := zM A540
        clear A540
        by_cases c55 : t314 > (ji48)
        ·rw [if_pos c55] at H
         have c55b0 : decide ((ji48) < t314) = true := decide_eq_true c55
         clear c55
         replace H := Option.bind_eq_some_iff.mp H
         obtain ⟨t315, A560, H⟩ := H
         replace H : (some (wrap64 (t315 - (ji48)), (-1), false, 0)) = some (r1, r2, r3, r4) := H
         have A56 := zM A560
         clear A560
         simp only [Option.some.injEq, Prod.mk.injEq] at H
         obtain ⟨rfl, rfl, rfl, rfl⟩ := H
         obtain ⟨Ao57, co57, eo57⟩ := Kd.R_slice HO_11.1
         subst eo57
         have hnb58 := NB300_301.1
         have hnc58 := NB301_300.1
         have hcz59_0 : wr.cell? ⟨gb300, 0, none⟩ = some (.int .i64 a0_0) := (zc BK300.1 0).trans rfl
         have hcz59_1 : wr.cell? ⟨gb300, 1, none⟩ = some (.int .i64 a0_1) := (zc BK300.1 1).trans rfl
         have hcz59_2 : wr.cell? ⟨gb300, 2, none⟩ = some (.int .i64 a0_2) := (zc BK300.1 2).trans rfl
         have hcz59_3 : wr.cell? ⟨gb300, 3, none⟩ = some (.int .i64 a0_3) := (zc BK300.1 3).trans rfl
         have hfz59_0 := zf BK300.1 0
         have hfz59_1 := zf BK300.1 1
         have hfz59_2 := zf BK300.1 2
         have hfz59_3 := zf BK300.1 3
         go_wp2_with (first | ((with_reducible refine gate_callee (f := 41) rfl ?_); refine goesL_ (some 84) rfl rfl Try.func41 (by kernel_rfl) rfl #[.agg #[.int .i64 a0_0, .int .i64 a0_1, .int .i64 a0_2, .int .i64 a0_3]] rfl (by (try simp only [List.map_toArray, List.map_cons, List.map_nil]); first | done | rfl | (simp only [List.length_drop, List.length_take]; rfl)) ?_; (with_reducible refine (estoversref21_Total.calls a0_0 a0_1 a0_2 a0_3 t314 _ A54.1).mono ?_); rintro e w60 ⟨rfl, hb⟩; refine ⟨_, rfl, ?_⟩; have n0_ := zM (Kd.R_below (by (with_reducible repeat (first | apply Kd.R_alloc | apply Kd.R_drewN | apply Kd.R_drew)); exact HO_11.1) hb); have n1_ := zM (blk_below (g := gb300) (o := .cells #[.int .i64 a0_0, .int .i64 a0_1, .int .i64 a0_2, .int .i64 a0_3] 37 (0, 0)) (by (with_reducible repeat (first | refine zn ?_ _ | refine zd ?_ | refine za ?_ _)); exact BK300.1) hb); have n2_ := zM (blk_below (g := gb301) (o := .cells #[.int .i64 x302000_1, .int .i64 x302001_1, .bool x302002_1] 43 (0, 0)) (by (with_reducible repeat (first | refine zn ?_ _ | refine zd ?_ | refine za ?_ _)); exact BK301.1) hb); have n3_ := zM (zT (by repeat (first | (with_reducible first | exact HB.1 | apply zA | apply zN | apply zD | refine zS ?_ GE300.1 | refine zS ?_ GE301.1) | exact HB.1)) hb); clear HO_11; clear BK300; clear BK301; clear HB; have HO_11 := n0_; have BK300 := n1_; have BK301 := n2_; have HB := n3_; clear n0_ n1_ n2_ n3_; (try clear hb); (try clear hb2); (try clear hk); (try clear hi); have hcz61_0 : w60.cell? ⟨gb300, 0, none⟩ = some (.int .i64 a0_0) := (zc BK300.1 0).trans rfl; have hcz61_1 : w60.cell? ⟨gb300, 1, none⟩ = some (.int .i64 a0_1) := (zc BK300.1 1).trans rfl; have hcz61_2 : w60.cell? ⟨gb300, 2, none⟩ = some (.int .i64 a0_2) := (zc BK300.1 2).trans rfl; have hcz61_3 : w60.cell? ⟨gb300, 3, none⟩ = some (.int .i64 a0_3) := (zc BK300.1 3).trans rfl; have hfz61_0 := zf BK300.1 0; have hfz61_1 := zf BK300.1 1; have hfz61_2 := zf BK300.1 2; have hfz61_3 := zf BK300.1 3) | ((with_reducible refine gate_callee (f := 41) rfl ?_); refine goesL_ (some 88) rfl rfl Try.func41 (by kernel_rfl) rfl #[.agg #[.int .i64 a0_0, .int .i64 a0_1, .int .i64 a0_2, .int .i64 a0_3]] rfl (by (try simp only [List.map_toArray, List.map_cons, List.map_nil]); first | done | rfl | (simp only [List.length_drop, List.length_take]; rfl)) ?_; (with_reducible refine (estoversref21_Total.calls a0_0 a0_1 a0_2 a0_3 t315 _ A56.1).mono ?_); rintro e w62 ⟨rfl, hb⟩; refine ⟨_, rfl, ?_⟩; have n0_ := zM (Kd.R_below (by (with_reducible repeat (first | apply Kd.R_alloc | apply Kd.R_drewN | apply Kd.R_drew)); exact HO_11.1) hb); have n1_ := zM (blk_below (g := gb300) (o := .cells #[.int .i64 a0_0, .int .i64 a0_1, .int .i64 a0_2, .int .i64 a0_3] 37 (0, 0)) (by (with_reducible repeat (first | refine zn ?_ _ | refine zd ?_ | refine za ?_ _)); exact BK300.1) hb); have n2_ := zM (blk_below (g := gb301) (o := .cells #[.int .i64 x302000_1, .int .i64 x302001_1, .bool x302002_1] 43 (0, 0)) (by (with_reducible repeat (first | refine zn ?_ _ | refine zd ?_ | refine za ?_ _)); exact BK301.1) hb); have n3_ := zM (zT (by repeat (first | (with_reducible first | exact HB.1 | apply zA | apply zN | apply zD | refine zS ?_ GE300.1 | refine zS ?_ GE301.1) | exact HB.1)) hb); clear HO_11; clear BK300; clear BK301; clear HB; have HO_11 := n0_; have BK300 := n1_; have BK301 := n2_; have HB := n3_; clear n0_ n1_ n2_ n3_; (try clear hb); (try clear hb2); (try clear hk); (try clear hi); have hcz63_0 : w62.cell? ⟨gb301, 0, none⟩ = some (.int .i64 x302000_1) := (zc BK301.1 0).trans rfl; have hcz63_1 : w62.cell? ⟨gb301, 1, none⟩ = some (.int .i64 x302001_1) := (zc BK301.1 1).trans rfl; have hcz63_2 : w62.cell? ⟨gb301, 2, none⟩ = some (.bool x302002_1) := (zc BK301.1 2).trans rfl; have hfz63_0 := zf BK301.1 0; have hfz63_1 := zf BK301.1 1; have hfz63_2 := zf BK301.1 2))
         refine bodyPost_ret (results_ct rfl _ _ gb301 43 #[.int .i64 (wrap64 (t315 - (ji48))), .int .i64 (-1), .bool false] (0, 0) _ rfl (by (with_reducible repeat (first | refine zn ?_ _ | refine zd ?_ | refine za ?_ _)); refine blk_put (cs := #[.int .i64 (wrap64 (t315 - (ji48))), .int .i64 (-1), .bool x302002_1]) ?_ 2 _ rfl; (with_reducible repeat (first | refine zn ?_ _ | refine zd ?_ | refine za ?_ _)); refine blk_put (cs := #[.int .i64 (wrap64 (t315 - (ji48))), .int .i64 x302001_1, .bool x302002_1]) ?_ 1 _ rfl; (with_reducible repeat (first | refine zn ?_ _ | refine zd ?_ | refine za ?_ _)); refine blk_put (cs := #[.int .i64 x302000_1, .int .i64 x302001_1, .bool x302002_1]) ?_ 0 _ rfl; (with_reducible repeat (first | refine zn ?_ _ | refine zd ?_ | refine za ?_ _)); exact BK301.1) Try.underlying43 rfl (by kernel_rfl)) rfl ?_
         exact ⟨by first | rfl | (simp [errW_none, errW_some] <;> rfl) | (simp only [← hji47, ← hji48]; first | rfl | (simp [errW_none, errW_some] <;> rfl)) | (simp [*, errW_none, errW_some] <;> rfl), by repeat (first | (with_reducible first | exact HB.1 | apply zA | apply zN | apply zD | refine zS ?_ GE300.1 | refine zS ?_ GE301.1) | exact HB.1)⟩
        ·rw [if_neg c55] at H
         have c55b0 : decide ((ji48) < t314) = false := decide_eq_false c55
         clear c55
         simp only [Option.some.injEq, Prod.mk.injEq] at H
         obtain ⟨rfl, rfl, rfl, rfl⟩ := H
         obtain ⟨Ao64, co64, eo64⟩ := Kd.R_slice HO_11.1
         subst eo64
         have hnb65 := NB300_301.1
         have hnc65 := NB301_300.1
         have hcz66_0 : wr.cell? ⟨gb300, 0, none⟩ = some (.int .i64 a0_0) := (zc BK300.1 0).trans rfl
         have hcz66_1 : wr.cell? ⟨gb300, 1, none⟩ = some (.int .i64 a0_1) := (zc BK300.1 1).trans rfl
         have hcz66_2 : wr.cell? ⟨gb300, 2, none⟩ = some (.int .i64 a0_2) := (zc BK300.1 2).trans rfl
         have hcz66_3 : wr.cell? ⟨gb300, 3, none⟩ = some (.int .i64 a0_3) := (zc BK300.1 3).trans rfl
         have hfz66_0 := zf BK300.1 0
         have hfz66_1 := zf BK300.1 1
         have hfz66_2 := zf BK300.1 2
         have hfz66_3 := zf BK300.1 3
         go_wp2_with (first | ((with_reducible refine gate_callee (f := 41) rfl ?_); refine goesL_ (some 84) rfl rfl Try.func41 (by kernel_rfl) rfl #[.agg #[.int .i64 a0_0, .int .i64 a0_1, .int .i64 a0_2, .int .i64 a0_3]] rfl (by (try simp only [List.map_toArray, List.map_cons, List.map_nil]); first | done | rfl | (simp only [List.length_drop, List.length_take]; rfl)) ?_; (with_reducible refine (estoversref21_Total.calls a0_0 a0_1 a0_2 a0_3 t314 _ A54.1).mono ?_); rintro e w67 ⟨rfl, hb⟩; refine ⟨_, rfl, ?_⟩; have n0_ := zM (Kd.R_below (by (with_reducible repeat (first | apply Kd.R_alloc | apply Kd.R_drewN | apply Kd.R_drew)); exact HO_11.1) hb); have n1_ := zM (blk_below (g := gb300) (o := .cells #[.int .i64 a0_0, .int .i64 a0_1, .int .i64 a0_2, .int .i64 a0_3] 37 (0, 0)) (by (with_reducible repeat (first | refine zn ?_ _ | refine zd ?_ | refine za ?_ _)); exact BK300.1) hb); have n2_ := zM (blk_below (g := gb301) (o := .cells #[.int .i64 x302000_1, .int .i64 x302001_1, .bool x302002_1] 43 (0, 0)) (by (with_reducible repeat (first | refine zn ?_ _ | refine zd ?_ | refine za ?_ _)); exact BK301.1) hb); have n3_ := zM (zT (by repeat (first | (with_reducible first | exact HB.1 | apply zA | apply zN | apply zD | refine zS ?_ GE300.1 | refine zS ?_ GE301.1) | exact HB.1)) hb); clear HO_11; clear BK300; clear BK301; clear HB; have HO_11 := n0_; have BK300 := n1_; have BK301 := n2_; have HB := n3_; clear n0_ n1_ n2_ n3_; (try clear hb); (try clear hb2); (try clear hk); (try clear hi); have hcz68_0 : w67.cell? ⟨gb301, 0, none⟩ = some (.int .i64 x302000_1) := (zc BK301.1 0).trans rfl; have hcz68_1 : w67.cell? ⟨gb301, 1, none⟩ = some (.int .i64 x302001_1) := (zc BK301.1 1).trans rfl; have hcz68_2 : w67.cell? ⟨gb301, 2, none⟩ = some (.bool x302002_1) := (zc BK301.1 2).trans rfl; have hfz68_0 := zf BK301.1 0; have hfz68_1 := zf BK301.1 1; have hfz68_2 := zf BK301.1 2))
         refine bodyPost_ret (results_ct rfl _ _ gb301 43 #[.int .i64 0, .int .i64 (-1), .bool false] (0, 0) _ rfl (by (with_reducible repeat (first | refine zn ?_ _ | refine zd ?_ | refine za ?_ _)); refine blk_put (cs := #[.int .i64 0, .int .i64 (-1), .bool x302002_1]) ?_ 2 _ rfl; (with_reducible repeat (first | refine zn ?_ _ | refine zd ?_ | refine za ?_ _)); refine blk_put (cs := #[.int .i64 0, .int .i64 x302001_1, .bool x302002_1]) ?_ 1 _ rfl; (with_reducible repeat (first | refine zn ?_ _ | refine zd ?_ | refine za ?_ _)); refine blk_put (cs := #[.int .i64 x302000_1, .int .i64 x302001_1, .bool x302002_1]) ?_ 0 _ rfl; (with_reducible repeat (first | refine zn ?_ _ | refine zd ?_ | refine za ?_ _)); exact BK301.1) Try.underlying43 rfl (by kernel_rfl)) rfl ?_
         exact ⟨by first | rfl | (simp [errW_none, errW_some] <;> rfl) | (simp only [← hji47, ← hji48]; first | rfl | (simp [errW_none, errW_some] <;> rfl)) | (simp [*, errW_none, errW_some] <;> rfl), by repeat (first | (with_reducible first | exact HB.1 | apply zA | apply zN | apply zD | refine zS ?_ GE300.1 | refine zS ?_ GE301.1) | exact HB.1)⟩
  ·rw [if_neg c8] at H
   have c8b0 : (t303 == 0) = false := beq_eq_false_iff_ne.mpr c8
   have c8b1 : (t303 != 0) = true := bne_iff_ne.mpr c8
   simp only [Option.some.injEq, Prod.mk.injEq] at H
   obtain ⟨rfl, rfl, rfl, rfl⟩ := H
   go_enter Try.func17, Try.ntmps17
   go_wp2_with (first | ((with_reducible refine gate_dst (N := 4) rfl ?_); refine box_event ?hg (N := 4) ?hd (cs := #[.int .i64 a0_0, .int .i64 a0_1, .int .i64 a0_2, .int .i64 a0_3]) (t := 37) ?hr ?_; (case hd => rfl); (case hg => rfl); (case hr => first | (go_simp; done) | (go_simp; rfl)); intro gb300 hg w69 hbox hb; have n0_ := zM (zT (by repeat (first | (with_reducible first | exact HB.1 | apply zA | apply zN | apply zD) | exact HB.1)) hb); have n1_ := zM (hbox); have n2_ := zM ((by rw [hg]; exact (zz (by repeat (first | (with_reducible first | exact HB.1 | apply zA | apply zN | apply zD) | exact HB.1))) : w.heap.size ≤ gb300)); have n3_ := zM ((by rw [hg]; exact (zz (by repeat (first | (with_reducible first | exact HB.1 | apply zA | apply zN | apply zD) | exact HB.1))) : w.heap.size ≤ gb300)); clear HB; have HB := n0_; have BK300 := n1_; have GW300 := n2_; have GE300 := n3_; clear n0_ n1_ n2_ n3_; clear hb hbox hg) | ((with_reducible refine gate_dst (N := 8) rfl ?_); refine box_event ?hg (N := 8) ?hd (cs := #[.int .i64 0, .int .i64 0, .bool false]) (t := 43) ?hr ?_; (case hd => rfl); (case hg => rfl); (case hr => first | (go_simp; done) | (go_simp; rfl)); intro gb301 hg w70 hbox hb; have n0_ := zM (blk_below (g := gb300) (o := .cells #[.int .i64 a0_0, .int .i64 a0_1, .int .i64 a0_2, .int .i64 a0_3] 37 (0, 0)) (by (with_reducible repeat (first | refine zn ?_ _ | refine zd ?_ | refine za ?_ _)); exact BK300.1) hb); have n1_ := zM (zT (by repeat (first | (with_reducible first | exact HB.1 | apply zA | apply zN | apply zD | refine zS ?_ GE300.1) | exact HB.1)) hb); have n2_ := zM (hbox); have n3_ := zM ((by rw [hg]; exact (zz (by repeat (first | (with_reducible first | exact HB.1 | apply zA | apply zN | apply zD | refine zS ?_ GE300.1) | exact HB.1))) : w.heap.size ≤ gb301)); have n4_ := zM ((by rw [hg]; exact (zz (by repeat (first | (with_reducible first | exact HB.1 | apply zA | apply zN | apply zD | refine zS ?_ GE300.1) | exact HB.1))) : w.heap.size ≤ gb301)); have n5_ := zM ((by rw [hg]; exact Nat.ne_of_lt (blk_lt (g := gb300) (o := .cells #[.int .i64 a0_0, .int .i64 a0_1, .int .i64 a0_2, .int .i64 a0_3] 37 (0, 0)) (by (with_reducible repeat (first | refine zn ?_ _ | refine zd ?_ | refine za ?_ _)); exact BK300.1)) : gb300 ≠ gb301)); have n6_ := zM ((by rw [hg]; exact Nat.ne_of_gt (blk_lt (g := gb300) (o := .cells #[.int .i64 a0_0, .int .i64 a0_1, .int .i64 a0_2, .int .i64 a0_3] 37 (0, 0)) (by (with_reducible repeat (first | refine zn ?_ _ | refine zd ?_ | refine za ?_ _)); exact BK300.1)) : gb301 ≠ gb300)); clear BK300; clear HB; have BK300 := n0_; have HB := n1_; have BK301 := n2_; have GW301 := n3_; have GE301 := n4_; have NB300_301 := n5_; have NB301_300 := n6_; clear n0_ n1_ n2_ n3_ n4_ n5_ n6_; clear hb hbox hg; have hnb71 := NB300_301.1; have hnc71 := NB301_300.1; have hcz72_0 : w70.cell? ⟨gb300, 0, none⟩ = some (.int .i64 a0_0) := (zc BK300.1 0).trans rfl; have hcz72_1 : w70.cell? ⟨gb300, 1, none⟩ = some (.int .i64 a0_1) := (zc BK300.1 1).trans rfl; have hcz72_2 : w70.cell? ⟨gb300, 2, none⟩ = some (.int .i64 a0_2) := (zc BK300.1 2).trans rfl; have hcz72_3 : w70.cell? ⟨gb300, 3, none⟩ = some (.int .i64 a0_3) := (zc BK300.1 3).trans rfl; have hfz72_0 := zf BK300.1 0; have hfz72_1 := zf BK300.1 1; have hfz72_2 := zf BK300.1 2; have hfz72_3 := zf BK300.1 3) | ((with_reducible refine gate_callee (f := 38) rfl ?_); refine goesL_ (some 15) rfl rfl Try.func38 (by kernel_rfl) rfl #[.agg #[.int .i64 a0_0, .int .i64 a0_1, .int .i64 a0_2, .int .i64 a0_3]] rfl (by (try simp only [List.map_toArray, List.map_cons, List.map_nil]); first | done | rfl | (simp only [List.length_drop, List.length_take]; rfl)) ?_; (with_reducible refine (estoversref21_Valid.calls a0_0 a0_1 a0_2 a0_3 true _ A5.1).mono ?_); rintro e w73 ⟨rfl, hb⟩; refine ⟨_, rfl, ?_⟩; have n0_ := zM (blk_below (g := gb300) (o := .cells #[.int .i64 a0_0, .int .i64 a0_1, .int .i64 a0_2, .int .i64 a0_3] 37 (0, 0)) (by (with_reducible repeat (first | refine zn ?_ _ | refine zd ?_ | refine za ?_ _)); exact BK300.1) hb); have n1_ := zM (blk_below (g := gb301) (o := .cells #[.int .i64 0, .int .i64 0, .bool false] 43 (0, 0)) (by (with_reducible repeat (first | refine zn ?_ _ | refine zd ?_ | refine za ?_ _)); exact BK301.1) hb); have n2_ := zM (zT (by repeat (first | (with_reducible first | exact HB.1 | apply zA | apply zN | apply zD | refine zS ?_ GE300.1 | refine zS ?_ GE301.1) | exact HB.1)) hb); clear BK300; clear BK301; clear HB; have BK300 := n0_; have BK301 := n1_; have HB := n2_; clear n0_ n1_ n2_; (try clear hb); (try clear hb2); (try clear hk); (try clear hi)) | ((with_reducible refine gate_callee (f := 39) rfl ?_); refine goesL_ (some 19) rfl rfl Try.func39 (by kernel_rfl) rfl #[.slice A1 l1.length c1] rfl (by (try simp only [List.map_toArray, List.map_cons, List.map_nil]); first | done | rfl | (simp only [List.length_drop, List.length_take]; rfl)) ?_; (with_reducible refine (estoversref19_Check.calls k _ _ l1 t303 _ ?side1 ?side2 A7.1).mono ?_); (case side1 => repeat (first | exact (Kd.C_below HR1.1 HB.1) | (with_reducible refine Kd.C_alloc ?_ _) | (with_reducible refine Kd.C_drewN ?_ _) | (with_reducible refine Kd.C_drew ?_))); (case side2 => exact HC1.1); rintro e w' ⟨rfl, ⟨nd, rfl⟩⟩; refine ⟨_, rfl, ?_⟩; (try (rw [drewN_self w73]; generalize hq_ : World.drewN w73 _ = w73; have n0_ : Aside0 (w73.heap[gb300]? = some (.cells #[.int .i64 a0_0, .int .i64 a0_1, .int .i64 a0_2, .int .i64 a0_3] 37 (0, 0))) := ⟨by rw [← hq_]; exact (by (with_reducible repeat (first | refine zn ?_ _ | refine zd ?_ | refine za ?_ _)); exact BK300.1)⟩; have n1_ : Aside0 (w73.heap[gb301]? = some (.cells #[.int .i64 0, .int .i64 0, .bool false] 43 (0, 0))) := ⟨by rw [← hq_]; exact (by (with_reducible repeat (first | refine zn ?_ _ | refine zd ?_ | refine za ?_ _)); exact BK301.1)⟩; have n2_ : Aside0 (Below w.heap.size w w73) := ⟨by rw [← hq_]; exact (by repeat (first | (with_reducible first | exact HB.1 | apply zA | apply zN | apply zD | refine zS ?_ GE300.1 | refine zS ?_ GE301.1) | exact HB.1))⟩; clear BK300 BK301 HB hq_; have BK300 := n0_; have BK301 := n1_; have HB := n2_; clear n0_ n1_ n2_)); have hcz74_0 : w73.cell? ⟨gb301, 0, none⟩ = some (.int .i64 0) := (zc BK301.1 0).trans rfl; have hcz74_1 : w73.cell? ⟨gb301, 1, none⟩ = some (.int .i64 0) := (zc BK301.1 1).trans rfl; have hcz74_2 : w73.cell? ⟨gb301, 2, none⟩ = some (.bool false) := (zc BK301.1 2).trans rfl; have hfz74_0 := zf BK301.1 0; have hfz74_1 := zf BK301.1 1; have hfz74_2 := zf BK301.1 2))
   refine bodyPost_ret (results_ct rfl _ _ gb301 43 #[.int .i64 0, .int .i64 0, .bool false] (0, 0) _ rfl (by (with_reducible repeat (first | refine zn ?_ _ | refine zd ?_ | refine za ?_ _)); refine blk_put (cs := #[.int .i64 0, .int .i64 0, .bool false]) ?_ 2 _ rfl; (with_reducible repeat (first | refine zn ?_ _ | refine zd ?_ | refine za ?_ _)); refine blk_put (cs := #[.int .i64 0, .int .i64 0, .bool false]) ?_ 1 _ rfl; (with_reducible repeat (first | refine zn ?_ _ | refine zd ?_ | refine za ?_ _)); refine blk_put (cs := #[.int .i64 0, .int .i64 0, .bool false]) ?_ 0 _ rfl; (with_reducible repeat (first | refine zn ?_ _ | refine zd ?_ | refine za ?_ _)); exact BK301.1) Try.underlying43 rfl (by kernel_rfl)) rfl ?_
   exact ⟨by first | rfl | (simp [errW_none, errW_some] <;> rfl) | (simp [*, errW_none, errW_some] <;> rfl), by repeat (first | (with_reducible first | exact HB.1 | apply zA | apply zN | apply zD | refine zS ?_ GE300.1 | refine zS ?_ GE301.1) | exact HB.1)⟩
 ·replace c6 := Bool.eq_false_iff.mpr c6
  subst c6
  have H1 : (some (0, 0, false, 2)) = some (r1, r2, r3, r4) := by rw [if_neg (show ¬ (false = true) by decide)] at H; exact H
  clear H
  have H := H1
  clear H1
  simp only [Option.some.injEq, Prod.mk.injEq] at H
  obtain ⟨rfl, rfl, rfl, rfl⟩ := H
  go_enter Try.func17, Try.ntmps17
  go_wp2_with (first | ((with_reducible refine gate_dst (N := 4) rfl ?_); refine box_event ?hg (N := 4) ?hd (cs := #[.int .i64 a0_0, .int .i64 a0_1, .int .i64 a0_2, .int .i64 a0_3]) (t := 37) ?hr ?_; (case hd => rfl); (case hg => rfl); (case hr => first | (go_simp; done) | (go_simp; rfl)); intro gb300 hg w75 hbox hb; have n0_ := zM (zT (by repeat (first | (with_reducible first | exact HB.1 | apply zA | apply zN | apply zD) | exact HB.1)) hb); have n1_ := zM (hbox); have n2_ := zM ((by rw [hg]; exact (zz (by repeat (first | (with_reducible first | exact HB.1 | apply zA | apply zN | apply zD) | exact HB.1))) : w.heap.size ≤ gb300)); have n3_ := zM ((by rw [hg]; exact (zz (by repeat (first | (with_reducible first | exact HB.1 | apply zA | apply zN | apply zD) | exact HB.1))) : w.heap.size ≤ gb300)); clear HB; have HB := n0_; have BK300 := n1_; have GW300 := n2_; have GE300 := n3_; clear n0_ n1_ n2_ n3_; clear hb hbox hg) | ((with_reducible refine gate_dst (N := 8) rfl ?_); refine box_event ?hg (N := 8) ?hd (cs := #[.int .i64 0, .int .i64 0, .bool false]) (t := 43) ?hr ?_; (case hd => rfl); (case hg => rfl); (case hr => first | (go_simp; done) | (go_simp; rfl)); intro gb301 hg w76 hbox hb; have n0_ := zM (blk_below (g := gb300) (o := .cells #[.int .i64 a0_0, .int .i64 a0_1, .int .i64 a0_2, .int .i64 a0_3] 37 (0, 0)) (by (with_reducible repeat (first | refine zn ?_ _ | refine zd ?_ | refine za ?_ _)); exact BK300.1) hb); have n1_ := zM (zT (by repeat (first | (with_reducible first | exact HB.1 | apply zA | apply zN | apply zD | refine zS ?_ GE300.1) | exact HB.1)) hb); have n2_ := zM (hbox); have n3_ := zM ((by rw [hg]; exact (zz (by repeat (first | (with_reducible first | exact HB.1 | apply zA | apply zN | apply zD | refine zS ?_ GE300.1) | exact HB.1))) : w.heap.size ≤ gb301)); have n4_ := zM ((by rw [hg]; exact (zz (by repeat (first | (with_reducible first | exact HB.1 | apply zA | apply zN | apply zD | refine zS ?_ GE300.1) | exact HB.1))) : w.heap.size ≤ gb301)); have n5_ := zM ((by rw [hg]; exact Nat.ne_of_lt (blk_lt (g := gb300) (o := .cells #[.int .i64 a0_0, .int .i64 a0_1, .int .i64 a0_2, .int .i64 a0_3] 37 (0, 0)) (by (with_reducible repeat (first | refine zn ?_ _ | refine zd ?_ | refine za ?_ _)); exact BK300.1)) : gb300 ≠ gb301)); have n6_ := zM ((by rw [hg]; exact Nat.ne_of_gt (blk_lt (g := gb300) (o := .cells #[.int .i64 a0_0, .int .i64 a0_1, .int .i64 a0_2, .int .i64 a0_3] 37 (0, 0)) (by (with_reducible repeat (first | refine zn ?_ _ | refine zd ?_ | refine za ?_ _)); exact BK300.1)) : gb301 ≠ gb300)); clear BK300; clear HB; have BK300 := n0_; have HB := n1_; have BK301 := n2_; have GW301 := n3_; have GE301 := n4_; have NB300_301 := n5_; have NB301_300 := n6_; clear n0_ n1_ n2_ n3_ n4_ n5_ n6_; clear hb hbox hg; have hnb77 := NB300_301.1; have hnc77 := NB301_300.1; have hcz78_0 : w76.cell? ⟨gb300, 0, none⟩ = some (.int .i64 a0_0) := (zc BK300.1 0).trans rfl; have hcz78_1 : w76.cell? ⟨gb300, 1, none⟩ = some (.int .i64 a0_1) := (zc BK300.1 1).trans rfl; have hcz78_2 : w76.cell? ⟨gb300, 2, none⟩ = some (.int .i64 a0_2) := (zc BK300.1 2).trans rfl; have hcz78_3 : w76.cell? ⟨gb300, 3, none⟩ = some (.int .i64 a0_3) := (zc BK300.1 3).trans rfl; have hfz78_0 := zf BK300.1 0; have hfz78_1 := zf BK300.1 1; have hfz78_2 := zf BK300.1 2; have hfz78_3 := zf BK300.1 3) | ((with_reducible refine gate_callee (f := 38) rfl ?_); refine goesL_ (some 15) rfl rfl Try.func38 (by kernel_rfl) rfl #[.agg #[.int .i64 a0_0, .int .i64 a0_1, .int .i64 a0_2, .int .i64 a0_3]] rfl (by (try simp only [List.map_toArray, List.map_cons, List.map_nil]); first | done | rfl | (simp only [List.length_drop, List.length_take]; rfl)) ?_; (with_reducible refine (estoversref21_Valid.calls a0_0 a0_1 a0_2 a0_3 false _ A5.1).mono ?_); rintro e w79 ⟨rfl, hb⟩; refine ⟨_, rfl, ?_⟩; have n0_ := zM (blk_below (g := gb300) (o := .cells #[.int .i64 a0_0, .int .i64 a0_1, .int .i64 a0_2, .int .i64 a0_3] 37 (0, 0)) (by (with_reducible repeat (first | refine zn ?_ _ | refine zd ?_ | refine za ?_ _)); exact BK300.1) hb); have n1_ := zM (blk_below (g := gb301) (o := .cells #[.int .i64 0, .int .i64 0, .bool false] 43 (0, 0)) (by (with_reducible repeat (first | refine zn ?_ _ | refine zd ?_ | refine za ?_ _)); exact BK301.1) hb); have n2_ := zM (zT (by repeat (first | (with_reducible first | exact HB.1 | apply zA | apply zN | apply zD | refine zS ?_ GE300.1 | refine zS ?_ GE301.1) | exact HB.1)) hb); clear BK300; clear BK301; clear HB; have BK300 := n0_; have BK301 := n1_; have HB := n2_; clear n0_ n1_ n2_; (try clear hb); (try clear hb2); (try clear hk); (try clear hi); have hcz80_0 : w79.cell? ⟨gb301, 0, none⟩ = some (.int .i64 0) := (zc BK301.1 0).trans rfl; have hcz80_1 : w79.cell? ⟨gb301, 1, none⟩ = some (.int .i64 0) := (zc BK301.1 1).trans rfl; have hcz80_2 : w79.cell? ⟨gb301, 2, none⟩ = some (.bool false) := (zc BK301.1 2).trans rfl; have hfz80_0 := zf BK301.1 0; have hfz80_1 := zf BK301.1 1; have hfz80_2 := zf BK301.1 2))
  refine bodyPost_ret (results_ct rfl _ _ gb301 43 #[.int .i64 0, .int .i64 0, .bool false] (0, 0) _ rfl (by (with_reducible repeat (first | refine zn ?_ _ | refine zd ?_ | refine za ?_ _)); refine blk_put (cs := #[.int .i64 0, .int .i64 0, .bool false]) ?_ 2 _ rfl; (with_reducible repeat (first | refine zn ?_ _ | refine zd ?_ | refine za ?_ _)); refine blk_put (cs := #[.int .i64 0, .int .i64 0, .bool false]) ?_ 1 _ rfl; (with_reducible repeat (first | refine zn ?_ _ | refine zd ?_ | refine za ?_ _)); refine blk_put (cs := #[.int .i64 0, .int .i64 0, .bool false]) ?_ 0 _ rfl; (with_reducible repeat (first | refine zn ?_ _ | refine zd ?_ | refine za ?_ _)); exact BK301.1) Try.underlying43 rfl (by kernel_rfl)) rfl ?_
  exact ⟨by first | rfl | (simp [errW_none, errW_some] <;> rfl) | (simp [*, errW_none, errW_some] <;> rfl), by repeat (first | (with_reducible first | exact HB.1 | apply zA | apply zN | apply zD | refine zS ?_ GE300.1 | refine zS ?_ GE301.1) | exact HB.1)⟩
end Go.Proofs.Ytimlodcdfekbhaa.PGrantServes
