-- Printed by a copy of the kit's printer that this session has patched (wip/tools/patch_print.py): the session's own text. Lean checks it.
import Derived.Test.YtimlodcdfekbhaaPGrantServesx0
import Derived.Test.YtimlodcdfekbhaaPGrantServesx9
import Derived.Test.YtimlodcdfekbhaaPGrantServesx10
import Derived.Test.YtimlodcdfekbhaaPGrantServesx11
import Derived.Test.YtimlodcdfekbhaaPGrantServesx12
import Derived.Test.YtimlodcdfekbhaaPGrantServesx13
namespace Go.Proofs.Ytimlodcdfekbhaa.PGrantServes
open Go.RowKit Go.Proofs.YtimlodcdfekbhaaW.PrintWords Go.Proofs.YtimlodcdfekbhaaW.PrintLast Go.Proofs.YtimlodcdfekbhaaW.PrintMore
attribute [local go_sem] max2_int min2_int max_two min_two max_three min_three max_four min_four   -- for this text's walks alone
set_option linter.unusedVariables false
set_option linter.unusedSimpArgs false
mutual
def estoversref21_Serve.l0 : Nat → List (S37) → List (S59) → Int → Int → Int → Option (Int × (List (S59)) × Int)
 | 0, _, _, _, _, _ => none
 | k + 1, x0, x1, x2, x3, x12 => if x12 < (x0.length : Int) then (if 0 ≤ x12 then (if ((rd_T37 x0 x12).f1) ≥ (x1.length : Int) then (some (0, ([] : List (S59)), 6)) else (estoversref21_Serve.l0 k x0 x1 x2 x3 (wrap64 (x12 + 1)))) else (none)) else ((estoversref19_Copy.f k x1).bind fun t352 => (estoversref21_Serve.l1 k x0 x2 x3 t352 0))
def estoversref21_Serve.l1 : Nat → List (S37) → Int → Int → List (S59) → Int → Option (Int × (List (S59)) × Int)
 | 0, _, _, _, _, _ => none
 | k + 1, x0, x2, x3, x13, x14 => if x14 < (x0.length : Int) then (if 0 ≤ x14 then ((estoversref21_Short.f k ((rd_T37 x0 x14).f0) ((rd_T37 x0 x14).f1) ((rd_T37 x0 x14).f2) ((rd_T37 x0 x14).f3) x13 x2 x3).bind fun bt356 => (if bt356.1 = 0 then ((estoversref21_Total.f ((rd_T37 x0 x14).f0) ((rd_T37 x0 x14).f1) ((rd_T37 x0 x14).f2) ((rd_T37 x0 x14).f3)).bind fun t363 => ((estoversref19_Charge.f k x13 ((rd_T37 x0 x14).f1) t363).bind fun bt364 => ((estoversref21_Total.f ((rd_T37 x0 x14).f0) ((rd_T37 x0 x14).f1) ((rd_T37 x0 x14).f2) ((rd_T37 x0 x14).f3)).bind fun t371 => (estoversref21_Serve.l1 k x0 (wrap64 (x2 - ((rd_T37 x0 x14).f2))) (wrap64 (x3 - t371)) bt364.1 (wrap64 (x14 + 1)))))) else (some (x14, x13, 0)))) else (none)) else (some ((x0.length : Int), x13, 0))
end
def estoversref21_Serve.f (k : Nat) (l0 : List (S37)) (l1 : List (S59)) (a2 : Int) (a3 : Int) : Option (Int × (List (S59)) × Int) := (estoversref21_Check.f k l0).bind fun t349 => (if t349 = 0 then ((estoversref19_Check.f k l1).bind fun t350 => (if t350 = 0 then (estoversref21_Serve.l0 k l0 l1 a2 a3 0) else (some (0, ([] : List (S59)), t350)))) else (some (0, ([] : List (S59)), t349)))
theorem estoversref21_Serve.mono_l : ∀ k, (∀ y0 y1 y2 y3 y4, LeO (estoversref21_Serve.l0 k y0 y1 y2 y3 y4) (estoversref21_Serve.l0 (k + 1) y0 y1 y2 y3 y4)) ∧ (∀ y0 y1 y2 y3 y4, LeO (estoversref21_Serve.l1 k y0 y1 y2 y3 y4) (estoversref21_Serve.l1 (k + 1) y0 y1 y2 y3 y4))
 | 0 => ⟨fun _ _ _ _ _ r h => by simp [estoversref21_Serve.l0] at h, fun _ _ _ _ _ r h => by simp [estoversref21_Serve.l1] at h⟩
 | k + 1 => by
  obtain ⟨ih0, ih1⟩ := estoversref21_Serve.mono_l k
  refine ⟨?_, ?_⟩
  ·intro y0 y1 y2 y3 y4
   unfold estoversref21_Serve.l0
   repeat' first
   | (with_reducible exact ih0 _ _ _ _ _)
   | (with_reducible exact ih1 _ _ _ _ _)
   | (with_reducible exact estoversref19_Charge.mono _ _ _ _)
   | (with_reducible exact estoversref19_Check.mono _ _)
   | (with_reducible exact estoversref19_Copy.mono _ _)
   | (with_reducible exact estoversref21_Check.mono _ _)
   | (with_reducible exact estoversref21_Short.mono _ _ _ _ _ _ _ _)
   | (with_reducible exact LeO.refl _)
   | (with_reducible exact LeO.none _)
   | (with_reducible refine LeO.ite ?_ ?_)
   | (with_reducible refine LeO.bind ?_ (fun _ => ?_))
   | exact ih0 _ _ _ _ _
   | exact ih1 _ _ _ _ _
   | exact estoversref19_Charge.mono _ _ _ _
   | exact estoversref19_Check.mono _ _
   | exact estoversref19_Copy.mono _ _
   | exact estoversref21_Check.mono _ _
   | exact estoversref21_Short.mono _ _ _ _ _ _ _ _
   | exact LeO.none _
   | refine LeO.ite ?_ ?_
   | refine LeO.bind ?_ (fun _ => ?_)
  ·intro y0 y1 y2 y3 y4
   unfold estoversref21_Serve.l1
   repeat' first
   | (with_reducible exact ih0 _ _ _ _ _)
   | (with_reducible exact ih1 _ _ _ _ _)
   | (with_reducible exact estoversref19_Charge.mono _ _ _ _)
   | (with_reducible exact estoversref19_Check.mono _ _)
   | (with_reducible exact estoversref19_Copy.mono _ _)
   | (with_reducible exact estoversref21_Check.mono _ _)
   | (with_reducible exact estoversref21_Short.mono _ _ _ _ _ _ _ _)
   | (with_reducible exact LeO.refl _)
   | (with_reducible exact LeO.none _)
   | (with_reducible refine LeO.ite ?_ ?_)
   | (with_reducible refine LeO.bind ?_ (fun _ => ?_))
   | exact ih0 _ _ _ _ _
   | exact ih1 _ _ _ _ _
   | exact estoversref19_Charge.mono _ _ _ _
   | exact estoversref19_Check.mono _ _
   | exact estoversref19_Copy.mono _ _
   | exact estoversref21_Check.mono _ _
   | exact estoversref21_Short.mono _ _ _ _ _ _ _ _
   | exact LeO.none _
   | refine LeO.ite ?_ ?_
   | refine LeO.bind ?_ (fun _ => ?_)
theorem estoversref21_Serve.mono : ∀ a0 a1 a2 a3 k, LeO (estoversref21_Serve.f k a0 a1 a2 a3) (estoversref21_Serve.f (k + 1) a0 a1 a2 a3) := by
 intro a0 a1 a2 a3 k
 obtain ⟨ih0, ih1⟩ := estoversref21_Serve.mono_l k
 unfold estoversref21_Serve.f
 repeat' first
   | (with_reducible exact ih0 _ _ _ _ _)
   | (with_reducible exact ih1 _ _ _ _ _)
   | (with_reducible exact estoversref19_Charge.mono _ _ _ _)
   | (with_reducible exact estoversref19_Check.mono _ _)
   | (with_reducible exact estoversref19_Copy.mono _ _)
   | (with_reducible exact estoversref21_Check.mono _ _)
   | (with_reducible exact estoversref21_Short.mono _ _ _ _ _ _ _ _)
   | (with_reducible exact LeO.refl _)
   | (with_reducible exact LeO.none _)
   | (with_reducible refine LeO.ite ?_ ?_)
   | (with_reducible refine LeO.bind ?_ (fun _ => ?_))
   | exact ih0 _ _ _ _ _
   | exact ih1 _ _ _ _ _
   | exact estoversref19_Charge.mono _ _ _ _
   | exact estoversref19_Check.mono _ _
   | exact estoversref19_Copy.mono _ _
   | exact estoversref21_Check.mono _ _
   | exact estoversref21_Short.mono _ _ _ _ _ _ _ _
   | exact LeO.none _
   | refine LeO.ite ?_ ?_
   | refine LeO.bind ?_ (fun _ => ?_)
def estoversref21_Serve.T19 : Bool × List (List Nat × List Nat) := (true, [([], []), ([], []), ([], []), ([1, 2], [1, 2]), ([3], [3]), ([4], [4]), ([], []), ([], []), ([6, 7], [6, 7]), ([8], [8]), ([9], [9]), ([0, 5, 10, 10], [0, 5, 10]), ([11], [11]), ([12], [12]), ([12], [12]), ([12], [12]), ([13, 11, 0, 1, 2, 3, 4, 5, 6, 7, 8, 9, 10, 11, 12, 13], [0, 13])])
def estoversref21_Serve.B19 : List Nat := [0, 0, 0, 6, 14, 30, 0, 0, 192, 448, 960, 2047, 4095, 8191, 8191, 8191, 16383]
theorem estoversref21_Serve.tab19 : rtab .any (opsOf Try.f21 19) = estoversref21_Serve.T19 := by kernel_rfl
theorem estoversref21_Serve.bits19 : waitsOk estoversref21_Serve.T19.2 estoversref21_Serve.B19 = true := by kernel_rfl
def estoversref21_Serve.T20 : Bool × List (List Nat × List Nat) := (true, [([], []), ([], []), ([], []), ([1, 2], [1, 2]), ([3], [3]), ([4], [4]), ([0, 5], [0, 5]), ([], []), ([], []), ([], []), ([8, 9], [8, 9]), ([10], [10]), ([11], [11]), ([7, 12], [7, 12]), ([6, 12, 0, 1, 2, 3, 4, 5, 6], [0, 6]), ([13, 14, 0, 1, 2, 3, 4, 5, 6, 7, 8, 9, 10, 11, 12, 13, 14], [7, 13])])
def estoversref21_Serve.B20 : List Nat := [0, 0, 0, 6, 14, 30, 63, 0, 0, 0, 768, 1792, 3840, 8064, 8063, 32767]
theorem estoversref21_Serve.tab20 : rtab .any (opsOf Try.f21 20) = estoversref21_Serve.T20 := by kernel_rfl
theorem estoversref21_Serve.bits20 : waitsOk estoversref21_Serve.T20.2 estoversref21_Serve.B20 = true := by kernel_rfl
set_option maxHeartbeats 8000000 in
set_option maxRecDepth 100000 in
theorem estoversref21_Serve.calls (k : Nat) (A0 : Option Addr) (c0 : Nat) (l0 : List (S37)) (A1 : Option Addr) (c1 : Nat) (l1 : List (S59)) (a2 : Int) (a3 : Int) (r1 : Int) (r2 : List (S59)) (r3 : Int) (w : World) (hr0 : Kd.C k37 w A0 l0.length l0) (hc0 : l0.length ≤ c0) (hr1 : Kd.C k59 w A1 l1.length l1) (hc1 : l1.length ≤ c1) (h : estoversref21_Serve.f k l0 l1 a2 a3 = some (r1, r2, r3)) :
  Calls Try.prog 21 #[.slice A0 l0.length c0, .slice A1 l1.length c1, .int .i64 a2, .int .i64 a3] w fun e w' => ∃ v1_ : Value, e = .returned (.tuple #[.int .i64 r1, v1_, .int .i64 r3]) ∧ Kd.R k59 59 w' w.heap.size (fun _ => True) v1_ r2 ∧ Below w.heap.size w w' := by
 have hu37 := Try.underlying37
 have hu43 := Try.underlying43
 have HR0 := zM hr0
 have HC0 := zM hc0
 clear hr0 hc0
 have HR1 := zM hr1
 have HC1 := zM hc1
 clear hr1 hc1
 have HB := zM (Below.refl w.heap.size w)
 have H : ((estoversref21_Check.f k l0).bind fun t349 => (if t349 = 0 then ((estoversref19_Check.f k l1).bind fun t350 => (if t350 = 0 then (estoversref21_Serve.l0 k l0 l1 a2 a3 0) else (some (0, ([] : List (S59)), t350)))) else (some (0, ([] : List (S59)), t349)))) = some (r1, r2, r3) := h
 clear h
 replace H := Option.bind_eq_some_iff.mp H
 obtain ⟨t349, A50, H⟩ := H
 replace H : (if t349 = 0 then ((estoversref19_Check.f k l1).bind fun t350 => (if t350 = 0 then (estoversref21_Serve.l0 k l0 l1 a2 a3 0) else (some (0, ([] : List (S59)), t350)))) else (some (0, ([] : List (S59)), t349))) = some (r1, r2, r3) := H
 have A5 := zM A50
 clear A50
 by_cases c6 : t349 = 0
 ·rw [if_pos c6] at H
  have c6b0 : (t349 == 0) = true := beq_iff_eq.mpr c6
  have c6b1 : (t349 != 0) = false := bne_eq_false_iff_eq.mpr c6
  clear c6
  replace H := Option.bind_eq_some_iff.mp H
  obtain ⟨t350, A70, H⟩ := H
  replace H : (if t350 = 0 then (estoversref21_Serve.l0 k l0 l1 a2 a3 0) else (some (0, ([] : List (S59)), t350))) = some (r1, r2, r3) := H
  have A7 := zM A70
  clear A70
  by_cases c8 : t350 = 0
  ·rw [if_pos c8] at H
   have c8b0 : (t350 == 0) = true := beq_iff_eq.mpr c8
   have c8b1 : (t350 != 0) = false := bne_eq_false_iff_eq.mpr c8
   clear c8
   have H' := zM H
   clear H
   go_enter Try.func21, Try.ntmps21
   go_wp2_with (first | ((with_reducible refine gate_callee (f := 28) rfl ?_); refine goesL_ (some 18) rfl rfl Try.func28 (by kernel_rfl) rfl #[.slice A0 l0.length c0] rfl (by (try simp only [List.map_toArray, List.map_cons, List.map_nil]); first | done | rfl | (simp only [List.length_drop, List.length_take]; rfl)) ?_; (with_reducible refine (estoversref21_Check.calls k _ _ l0 t349 _ ?side1 ?side2 A5.1).mono ?_); (case side1 => repeat (first | exact HR0.1 | (with_reducible refine Kd.C_alloc ?_ _) | (with_reducible refine Kd.C_drewN ?_ _) | (with_reducible refine Kd.C_drew ?_))); (case side2 => exact HC0.1); rintro e w9 ⟨rfl, hb⟩; refine ⟨_, rfl, ?_⟩; have n0_ := zM (zT (by repeat (first | (with_reducible first | exact HB.1 | apply zA | apply zN | apply zD) | exact HB.1)) hb); clear HB; have HB := n0_; clear n0_; (try clear hb); (try clear hb2); (try clear hk); (try clear hi)) | ((with_reducible refine gate_callee (f := 39) rfl ?_); refine goesL_ (some 23) rfl rfl Try.func39 (by kernel_rfl) rfl #[.slice A1 l1.length c1] rfl (by (try simp only [List.map_toArray, List.map_cons, List.map_nil]); first | done | rfl | (simp only [List.length_drop, List.length_take]; rfl)) ?_; (with_reducible refine (estoversref19_Check.calls k _ _ l1 t350 _ ?side1 ?side2 A7.1).mono ?_); (case side1 => repeat (first | exact (Kd.C_below HR1.1 HB.1) | (with_reducible refine Kd.C_alloc ?_ _) | (with_reducible refine Kd.C_drewN ?_ _) | (with_reducible refine Kd.C_drew ?_))); (case side2 => exact HC1.1); rintro e w' ⟨rfl, ⟨nd, rfl⟩⟩; refine ⟨_, rfl, ?_⟩))
   go_loopg [12] k (fun kq v12 w' => ∃ (x12_1 : Int), v12 = .int .i64 x12_1 ∧ Aside0 (estoversref21_Serve.l0 kq l0 l1 a2 a3 x12_1 = some (r1, r2, r3)) ∧ Aside0 (kq ≤ k) ∧ Aside0 (Below w.heap.size w w'))
   case atStart => exact ⟨(0), (by first | rfl | (simp; done) | (simp [*]; done)), H', ⟨Nat.le_refl _⟩, ⟨by repeat (first | (with_reducible first | exact HB.1 | apply zA | apply zN | apply zD) | exact HB.1)⟩⟩
   case round =>
    clear H'
    try clear c1
    try clear c2
    try clear p2
    try clear c3
    try clear c6
    try clear c6b0
    try clear c6b1
    try clear c8
    try clear c8b0
    try clear c8b1
    obtain ⟨x12_1, rfl, HA, HK1, HB⟩ := hrel
    cases gk with
    | zero => exact absurd HA.1 (by simp [estoversref21_Serve.l0])
    | succ k1 =>
     have H := HA.1
     clear HA
     simp only [estoversref21_Serve.l0] at H
     by_cases c10 : x12_1 < (l0.length : Int)
     ·rw [if_pos c10] at H
      have c10b0 : decide (x12_1 < (l0.length : Int)) = true := decide_eq_true c10
      clear c10
      by_cases c11 : 0 ≤ x12_1
      ·rw [if_pos c11] at H
       have c11b0 : decide (0 ≤ x12_1) = true := decide_eq_true c11
       clear c11
       by_cases c12 : ((rd_T37 l0 x12_1).f1) ≥ (l1.length : Int)
       ·rw [if_pos c12] at H
        have c12b0 : decide ((l1.length : Int) ≤ ((rd_T37 l0 x12_1).f1)) = true := decide_eq_true c12
        clear c12
        simp only [Option.some.injEq, Prod.mk.injEq] at H
        obtain ⟨rfl, rfl, rfl⟩ := H
        have p351 : 0 ≤ (x12_1 : Int) := zo (by first | (with_reducible assumption) | assumption)
        have q351 : x12_1 < (l0.length : Int) := zo (by first | (with_reducible assumption) | assumption)
        obtain ⟨ad351, e351, hx351_0, hx351_1, hx351_2, hx351_3⟩ := at_T37 HR0.1 x12_1 p351 q351
        cases e351
        replace hx351_0 := (HB.1.cell (zL w _ hx351_0)).trans hx351_0
        replace hx351_1 := (HB.1.cell (zL w _ hx351_1)).trans hx351_1
        replace hx351_2 := (HB.1.cell (zL w _ hx351_2)).trans hx351_2
        replace hx351_3 := (HB.1.cell (zL w _ hx351_3)).trans hx351_3
        replace p351 := eq_true p351
        replace q351 := eq_true q351
        go_wp2
        go_ret3
        exact ⟨_, by first | rfl | (simp [errW_none, errW_some] <;> rfl) | (simp [*, errW_none, errW_some] <;> rfl), by first | exact Kd.R_nil _ _ _ _ _ | exact Kd.N_nil _ _ _ _ _ | exact Kd.V_nil _ _ _ _ _ | exact Kd.Q_nil _ _ _ _ _ | exact Kd.S_nil _ _ _ _ _, by repeat (first | (with_reducible first | exact HB.1 | apply zA | apply zN | apply zD) | exact HB.1)⟩
       ·rw [if_neg c12] at H
        have c12b0 : decide ((l1.length : Int) ≤ ((rd_T37 l0 x12_1).f1)) = false := decide_eq_false c12
        clear c12
        have H' := zM H
        clear H
        have p351 : 0 ≤ (x12_1 : Int) := zo (by first | (with_reducible assumption) | assumption)
        have q351 : x12_1 < (l0.length : Int) := zo (by first | (with_reducible assumption) | assumption)
        obtain ⟨ad351, e351, hx351_0, hx351_1, hx351_2, hx351_3⟩ := at_T37 HR0.1 x12_1 p351 q351
        cases e351
        replace hx351_0 := (HB.1.cell (zL w _ hx351_0)).trans hx351_0
        replace hx351_1 := (HB.1.cell (zL w _ hx351_1)).trans hx351_1
        replace hx351_2 := (HB.1.cell (zL w _ hx351_2)).trans hx351_2
        replace hx351_3 := (HB.1.cell (zL w _ hx351_3)).trans hx351_3
        replace p351 := eq_true p351
        replace q351 := eq_true q351
        go_wp2
        go_roundg k1
        case measure => have := HK1.1; omega
        case rel => exact ⟨(wrap64 (x12_1 + 1)), (by first | rfl | (simp; done) | (simp [*]; done)), H', ⟨by have := HK1.1; omega⟩, ⟨by repeat (first | (with_reducible first | exact HB.1 | apply zA | apply zN | apply zD) | exact HB.1)⟩⟩
      ·rw [if_neg c11] at H
       exact absurd H (by simp)
     ·rw [if_neg c10] at H
      have c10b0 : decide (x12_1 < (l0.length : Int)) = false := decide_eq_false c10
      clear c10
      replace H := Option.bind_eq_some_iff.mp H
      obtain ⟨t352, A130, H⟩ := H
      replace H : (estoversref21_Serve.l1 k1 l0 a2 a3 t352 0) = some (r1, r2, r3) := H
      have A13 := zM A130
      clear A130
      have H' := zM H
      clear H
      go_wp2_with (first | ((with_reducible refine gate_callee (f := 46) rfl ?_); refine goesL_ (some 42) rfl rfl Try.func46 (by kernel_rfl) rfl #[.slice A1 l1.length c1] rfl (by (try simp only [List.map_toArray, List.map_cons, List.map_nil]); first | done | rfl | (simp only [List.length_drop, List.length_take]; rfl)) ?_; (with_reducible refine (estoversref19_Copy.calls k1 _ _ l1 t352 _ ?side1 ?side2 A13.1).mono ?_); (case side1 => repeat (first | exact (Kd.C_below HR1.1 HB.1) | (with_reducible refine Kd.C_alloc ?_ _) | (with_reducible refine Kd.C_drewN ?_ _) | (with_reducible refine Kd.C_drew ?_))); (case side2 => exact HC1.1); rintro e w14 ⟨v353, rfl, ho0, hb⟩; refine ⟨_, rfl, ?_⟩; have n0_ := zM (Kd.R_lower ho0 (zz (by repeat (first | (with_reducible first | exact HB.1 | apply zA | apply zN | apply zD) | exact HB.1)))); have n1_ := zM (zT (by repeat (first | (with_reducible first | exact HB.1 | apply zA | apply zN | apply zD) | exact HB.1)) hb); clear HB; have HO354 := n0_; have HB := n1_; clear n0_ n1_; (try clear hb); (try clear hb2); (try clear hk); (try clear hi); (try clear ho0)))
      go_loopg [2, 3, 13, 14] k1 (fun kq v2 v3 v13 v14 w' => ∃ (x2_2 : Int) (x3_2 : Int) (x13_2 : List (S59)) (x14_2 : Int), v2 = .int .i64 x2_2 ∧ v3 = .int .i64 x3_2 ∧ v14 = .int .i64 x14_2 ∧ Aside0 (estoversref21_Serve.l1 kq l0 x2_2 x3_2 x13_2 x14_2 = some (r1, r2, r3)) ∧ Aside0 (kq ≤ k1) ∧ Aside0 (Kd.R k59 59 w' w.heap.size (fun _ => True) v13 x13_2) ∧ Aside0 (Below w.heap.size w w'))
      case atStart => exact ⟨(a2), (a3), (t352), (0), (by first | rfl | (simp; done) | (simp [*]; done)), (by first | rfl | (simp; done) | (simp [*]; done)), (by first | rfl | (simp; done) | (simp [*]; done)), H', ⟨Nat.le_refl _⟩, ⟨by (with_reducible repeat (first | apply Kd.R_alloc | apply Kd.R_drewN | apply Kd.R_drew)); exact HO354.1⟩, ⟨by repeat (first | (with_reducible first | exact HB.1 | apply zA | apply zN | apply zD) | exact HB.1)⟩⟩
      case round =>
       clear H'
       try clear c1
       try clear c2
       try clear p2
       try clear c3
       try clear p3
       try clear q3
       try clear hx3
       try clear c4
       try clear c6
       try clear c6b0
       try clear c6b1
       try clear p6
       try clear c8
       try clear c8b0
       try clear c8b1
       try clear c10
       try clear c10b0
       try clear c11
       try clear c11b0
       try clear c12
       try clear c12b0
       try clear hx351_0
       try clear hx351_1
       try clear hx351_2
       try clear hx351_3
       try clear p2
       try clear p351
       try clear q351
       obtain ⟨x2_2, x3_2, x13_2, x14_2, rfl, rfl, rfl, HA, HK2, HO_13, HB⟩ := hrel
       cases gk with
       | zero => exact absurd HA.1 (by simp [estoversref21_Serve.l1])
       | succ k2 =>
        have H := HA.1
        clear HA
        simp only [estoversref21_Serve.l1] at H
        by_cases c15 : x14_2 < (l0.length : Int)
        ·rw [if_pos c15] at H
         have c15b0 : decide (x14_2 < (l0.length : Int)) = true := decide_eq_true c15
         clear c15
         by_cases c16 : 0 ≤ x14_2
         ·rw [if_pos c16] at H
          have c16b0 : decide (0 ≤ x14_2) = true := decide_eq_true c16
          clear c16
          replace H := Option.bind_eq_some_iff.mp H
          obtain ⟨⟨t356, t357, t358, t359⟩, A170, H⟩ := H
          replace H : (if t356 = 0 then ((estoversref21_Total.f ((rd_T37 l0 x14_2).f0) ((rd_T37 l0 x14_2).f1) ((rd_T37 l0 x14_2).f2) ((rd_T37 l0 x14_2).f3)).bind fun t363 => ((estoversref19_Charge.f k2 x13_2 ((rd_T37 l0 x14_2).f1) t363).bind fun bt364 => ((estoversref21_Total.f ((rd_T37 l0 x14_2).f0) ((rd_T37 l0 x14_2).f1) ((rd_T37 l0 x14_2).f2) ((rd_T37 l0 x14_2).f3)).bind fun t371 => (estoversref21_Serve.l1 k2 l0 (wrap64 (x2_2 - ((rd_T37 l0 x14_2).f2))) (wrap64 (x3_2 - t371)) bt364.1 (wrap64 (x14_2 + 1)))))) else (some (x14_2, x13_2, 0))) = some (r1, r2, r3) := H
          have A17 := zM A170
          clear A170
          by_cases c18 : t356 = 0
          ·rw [if_pos c18] at H
           have c18b0 : (t356 == 0) = true := beq_iff_eq.mpr c18
           have c18b1 : (t356 != 0) = false := bne_eq_false_iff_eq.mpr c18
           clear c18
           replace H := Option.bind_eq_some_iff.mp H
           obtain ⟨t363, A190, H⟩ := H
           replace H : ((estoversref19_Charge.f k2 x13_2 ((rd_T37 l0 x14_2).f1) t363).bind fun bt364 => ((estoversref21_Total.f ((rd_T37 l0 x14_2).f0) ((rd_T37 l0 x14_2).f1) ((rd_T37 l0 x14_2).f2) ((rd_T37 l0 x14_2).f3)).bind fun t371 => (estoversref21_Serve.l1 k2 l0 (wrap64 (x2_2 - ((rd_T37 l0 x14_2).f2))) (wrap64 (x3_2 - t371)) bt364.1 (wrap64 (x14_2 + 1))))) = some (r1, r2, r3) := H
           have A19 := zM A190
           clear A190
           replace H := Option.bind_eq_some_iff.mp H
           obtain ⟨⟨t364, t365, t366⟩, A200, H⟩ := H
           replace H : ((estoversref21_Total.f ((rd_T37 l0 x14_2).f0) ((rd_T37 l0 x14_2).f1) ((rd_T37 l0 x14_2).f2) ((rd_T37 l0 x14_2).f3)).bind fun t371 => (estoversref21_Serve.l1 k2 l0 (wrap64 (x2_2 - ((rd_T37 l0 x14_2).f2))) (wrap64 (x3_2 - t371)) t364 (wrap64 (x14_2 + 1)))) = some (r1, r2, r3) := H
           have A20 := zM A200
           clear A200
           replace H := Option.bind_eq_some_iff.mp H
           obtain ⟨t371, A210, H⟩ := H
           replace H : (estoversref21_Serve.l1 k2 l0 (wrap64 (x2_2 - ((rd_T37 l0 x14_2).f2))) (wrap64 (x3_2 - t371)) t364 (wrap64 (x14_2 + 1))) = some (r1, r2, r3) := H
           have A21 := zM A210
           clear A210
           have H' := zM H
           clear H
           have p355 : 0 ≤ (x14_2 : Int) := zo (by first | (with_reducible assumption) | assumption)
           have q355 : x14_2 < (l0.length : Int) := zo (by first | (with_reducible assumption) | assumption)
           obtain ⟨ad355, e355, hx355_0, hx355_1, hx355_2, hx355_3⟩ := at_T37 HR0.1 x14_2 p355 q355
           cases e355
           replace hx355_0 := (HB.1.cell (zL w _ hx355_0)).trans hx355_0
           replace hx355_1 := (HB.1.cell (zL w _ hx355_1)).trans hx355_1
           replace hx355_2 := (HB.1.cell (zL w _ hx355_2)).trans hx355_2
           replace hx355_3 := (HB.1.cell (zL w _ hx355_3)).trans hx355_3
           replace p355 := eq_true p355
           replace q355 := eq_true q355
           obtain ⟨Ao22, co22, eo22⟩ := Kd.R_slice HO_13.1
           subst eo22
           try go_wp2_with (first | ((with_reducible refine gate_callee (f := 17) rfl ?_); refine goesL_ (some 57) rfl rfl Try.func17 (by kernel_rfl) rfl #[.agg #[.int .i64 ((rd_T37 l0 x14_2).f0), .int .i64 ((rd_T37 l0 x14_2).f1), .int .i64 ((rd_T37 l0 x14_2).f2), .int .i64 ((rd_T37 l0 x14_2).f3)], .slice Ao22 x13_2.length co22, .int .i64 x2_2, .int .i64 x3_2] rfl (by (try simp only [List.map_toArray, List.map_cons, List.map_nil]); first | done | rfl | (simp only [List.length_drop, List.length_take]; rfl)) ?_; (with_reducible refine (estoversref21_Short.calls k2 ((rd_T37 l0 x14_2).f0) ((rd_T37 l0 x14_2).f1) ((rd_T37 l0 x14_2).f2) ((rd_T37 l0 x14_2).f3) _ _ x13_2 x2_2 x3_2 t356 t357 t358 t359 _ ?side1 ?side2 A17.1).mono ?_); (case side1 => repeat (first | exact (Kd.R_reads' HO_13.1).2.2 | (with_reducible refine Kd.C_alloc ?_ _) | (with_reducible refine Kd.C_drewN ?_ _) | (with_reducible refine Kd.C_drew ?_))); (case side2 => exact (Kd.R_reads' HO_13.1).2.1); rintro e w23 ⟨rfl, hb⟩; refine ⟨_, rfl, ?_⟩; have n0_ := zM (Kd.R_below (by (with_reducible repeat (first | apply Kd.R_alloc | apply Kd.R_drewN | apply Kd.R_drew)); exact HO_13.1) hb); have n1_ := zM (zT (by repeat (first | (with_reducible first | exact HB.1 | apply zA | apply zN | apply zD) | exact HB.1)) hb); clear HO_13; clear HB; have HO_13 := n0_; have HB := n1_; clear n0_ n1_; (try clear hb); (try clear hb2); (try clear hk); (try clear hi)) | ((with_reducible refine gate_dst (N := 15) rfl ?_); refine box_event ?hg (N := 15) ?hd (cs := #[.int .i64 0, .int .i64 0, .bool false]) (t := 43) ?hr ?_; (case hd => rfl); (case hg => rfl); (case hr => first | (go_simp; done) | (go_simp; rfl)); intro gb360 hg w24 hbox hb; have n0_ := zM (Kd.R_below (by (with_reducible repeat (first | apply Kd.R_alloc | apply Kd.R_drewN | apply Kd.R_drew)); exact HO_13.1) hb); have n1_ := zM (zT (by repeat (first | (with_reducible first | exact HB.1 | apply zA | apply zN | apply zD) | exact HB.1)) hb); have n2_ := zM (hbox); have n3_ := zM ((by rw [hg]; exact (zz (by repeat (first | (with_reducible first | exact HB.1 | apply zA | apply zN | apply zD) | exact HB.1))) : w.heap.size ≤ gb360)); have n4_ := zM ((by rw [hg]; exact (zz (by repeat (first | (with_reducible first | exact HB.1 | apply zA | apply zN | apply zD) | exact HB.1))) : w.heap.size ≤ gb360)); clear HO_13; clear HB; have HO_13 := n0_; have HB := n1_; have BK360 := n2_; have GW360 := n3_; have GE360 := n4_; clear n0_ n1_ n2_ n3_ n4_; clear hb hbox hg; have hcz25_0 : w24.cell? ⟨gb360, 0, none⟩ = some (.int .i64 0) := (zc BK360.1 0).trans rfl; have hcz25_1 : w24.cell? ⟨gb360, 1, none⟩ = some (.int .i64 0) := (zc BK360.1 1).trans rfl; have hcz25_2 : w24.cell? ⟨gb360, 2, none⟩ = some (.bool false) := (zc BK360.1 2).trans rfl; have hfz25_0 := zf BK360.1 0; have hfz25_1 := zf BK360.1 1; have hfz25_2 := zf BK360.1 2))
           have n0_ : Aside0 (Kd.R k59 59 (((w24.setCell ⟨gb360, 0, none⟩ (.int .i64 t356)).setCell ⟨gb360, 1, none⟩ (.int .i64 t357)).setCell ⟨gb360, 2, none⟩ (.bool t358)) w.heap.size (fun _ => True) (.slice Ao22 x13_2.length co22) x13_2) := ⟨by (with_reducible repeat (first | apply Kd.R_alloc | apply Kd.R_drewN | apply Kd.R_drew)); exact Kd.R_mono (Kd.R_far (p := ⟨gb360, 2, none⟩) (Kd.R_far (p := ⟨gb360, 1, none⟩) (Kd.R_far (p := ⟨gb360, 0, none⟩) (Kd.R_types HO_13.1 BK360.1 (by decide)) (fun _ hk => hk.2) (.int .i64 t356)) (fun _ hk => hk.2) (.int .i64 t357)) (fun _ hk => hk.2) (.bool t358)) (fun _ hk => trivial)⟩
           have n1_ : Aside0 ((((w24.setCell ⟨gb360, 0, none⟩ (.int .i64 t356)).setCell ⟨gb360, 1, none⟩ (.int .i64 t357)).setCell ⟨gb360, 2, none⟩ (.bool t358)).heap[gb360]? = some (.cells #[.int .i64 t356, .int .i64 t357, .bool t358] 43 (0, 0))) := ⟨by (with_reducible repeat (first | refine zn ?_ _ | refine zd ?_ | refine za ?_ _)); refine blk_put (cs := #[.int .i64 t356, .int .i64 t357, .bool false]) ?_ 2 _ rfl; (with_reducible repeat (first | refine zn ?_ _ | refine zd ?_ | refine za ?_ _)); refine blk_put (cs := #[.int .i64 t356, .int .i64 0, .bool false]) ?_ 1 _ rfl; (with_reducible repeat (first | refine zn ?_ _ | refine zd ?_ | refine za ?_ _)); refine blk_put (cs := #[.int .i64 0, .int .i64 0, .bool false]) ?_ 0 _ rfl; (with_reducible repeat (first | refine zn ?_ _ | refine zd ?_ | refine za ?_ _)); exact BK360.1⟩
           have n2_ : Aside0 (Below w.heap.size w (((w24.setCell ⟨gb360, 0, none⟩ (.int .i64 t356)).setCell ⟨gb360, 1, none⟩ (.int .i64 t357)).setCell ⟨gb360, 2, none⟩ (.bool t358))) := ⟨by repeat (first | (with_reducible first | exact HB.1 | apply zA | apply zN | apply zD | refine zS ?_ GE360.1) | exact HB.1)⟩
           (try clear HO_13)
           (try clear BK360)
           (try clear HB)
           generalize (((w24.setCell ⟨gb360, 0, none⟩ (.int .i64 t356)).setCell ⟨gb360, 1, none⟩ (.int .i64 t357)).setCell ⟨gb360, 2, none⟩ (.bool t358)) = w26 at n0_ n1_ n2_ ⊢
           have HO_13 := n0_
           have BK360 := n1_
           have HB := n2_
           clear n0_ n1_ n2_
           have n0_ := zM (Kd.R_drew HO_13.1)
           have n1_ := zM (zd BK360.1)
           have n2_ := zM (zD HB.1)
           clear HO_13
           clear BK360
           clear HB
           have HO_13 := n0_
           have BK360 := n1_
           have HB := n2_
           clear n0_ n1_ n2_
           have p361 : 0 ≤ (x14_2 : Int) := zo (by first | (with_reducible assumption) | assumption)
           have q361 : x14_2 < (l0.length : Int) := zo (by first | (with_reducible assumption) | assumption)
           obtain ⟨ad361, e361, hx361_0, hx361_1, hx361_2, hx361_3⟩ := at_T37 HR0.1 x14_2 p361 q361
           have hw361_3 := hx361_3
           have hw361_2 := hx361_2
           have hw361_1 := hx361_1
           have hw361_0 := hx361_0
           obtain rfl : ad355 = ad361 := (by injection e361)
           replace hx361_0 := (HB.1.cell (zL w _ hx361_0)).trans hx361_0
           replace hx361_1 := (HB.1.cell (zL w _ hx361_1)).trans hx361_1
           replace hx361_2 := (HB.1.cell (zL w _ hx361_2)).trans hx361_2
           replace hx361_3 := (HB.1.cell (zL w _ hx361_3)).trans hx361_3
           replace p361 := eq_true p361
           replace q361 := eq_true q361
           have p362 : 0 ≤ (x14_2 : Int) := zo (by first | (with_reducible assumption) | assumption)
           have q362 : x14_2 < (l0.length : Int) := zo (by first | (with_reducible assumption) | assumption)
           obtain ⟨ad362, e362, hx362_0, hx362_1, hx362_2, hx362_3⟩ := at_T37 HR0.1 x14_2 p362 q362
           have hw362_3 := hx362_3
           have hw362_2 := hx362_2
           have hw362_1 := hx362_1
           have hw362_0 := hx362_0
           obtain rfl : ad355 = ad362 := (by injection e362)
           replace hx362_0 := (HB.1.cell (zL w _ hx362_0)).trans hx362_0
           replace hx362_1 := (HB.1.cell (zL w _ hx362_1)).trans hx362_1
           replace hx362_2 := (HB.1.cell (zL w _ hx362_2)).trans hx362_2
           replace hx362_3 := (HB.1.cell (zL w _ hx362_3)).trans hx362_3
           replace p362 := eq_true p362
           replace q362 := eq_true q362
           refine start_ (n := 17) (S := fun w' => w'.cell? (ad355.add ((x14_2).toNat * 4)) = some (.int .i64 ((rd_T37 l0 x14_2).f0)) ∧ w'.cell? ⟨(ad355.add ((x14_2).toNat * 4)).block, (ad355.add ((x14_2).toNat * 4)).off + 1, none⟩ = some (.int .i64 ((rd_T37 l0 x14_2).f1)) ∧ w'.cell? ⟨(ad355.add ((x14_2).toNat * 4)).block, (ad355.add ((x14_2).toNat * 4)).off + 2, none⟩ = some (.int .i64 ((rd_T37 l0 x14_2).f2)) ∧ w'.cell? ⟨(ad355.add ((x14_2).toNat * 4)).block, (ad355.add ((x14_2).toNat * 4)).off + 3, none⟩ = some (.int .i64 ((rd_T37 l0 x14_2).f3)) ∧ w'.cell? (ad355.add ((x14_2).toNat * 4)) = some (.int .i64 ((rd_T37 l0 x14_2).f0)) ∧ w'.cell? ⟨(ad355.add ((x14_2).toNat * 4)).block, (ad355.add ((x14_2).toNat * 4)).off + 1, none⟩ = some (.int .i64 ((rd_T37 l0 x14_2).f1)) ∧ w'.cell? ⟨(ad355.add ((x14_2).toNat * 4)).block, (ad355.add ((x14_2).toNat * 4)).off + 2, none⟩ = some (.int .i64 ((rd_T37 l0 x14_2).f2)) ∧ w'.cell? ⟨(ad355.add ((x14_2).toNat * 4)).block, (ad355.add ((x14_2).toNat * 4)).off + 3, none⟩ = some (.int .i64 ((rd_T37 l0 x14_2).f3))) (ds := []) #[false, false, false, false, false, false, false, false, false, false, false, false, false, false, false, false, false] (by kernel_rfl) rfl rfl ⟨((HB.1.cell (zL w _ hw361_0)).trans hw361_0), ((HB.1.cell (zL w _ hw361_1)).trans hw361_1), ((HB.1.cell (zL w _ hw361_2)).trans hw361_2), ((HB.1.cell (zL w _ hw361_3)).trans hw361_3), ((HB.1.cell (zL w _ hw362_0)).trans hw362_0), ((HB.1.cell (zL w _ hw362_1)).trans hw362_1), ((HB.1.cell (zL w _ hw362_2)).trans hw362_2), ((HB.1.cell (zL w _ hw362_3)).trans hw362_3)⟩ (fun hHeld => ?_); refine with_tabW estoversref21_Serve.tab19 estoversref21_Serve.bits19 (fun HT_ HW_ => ?_)
           generalize w26.drew = w27 at HO_13 BK360 HB hx361_0 hx361_1 hx361_2 hx361_3 hx362_0 hx362_1 hx362_2 hx362_3 hHeld ⊢
           refine pure_ (i := 0) (N := some 66) (v := ?_) (a' := ?_) #[true, false, false, false, false, false, false, false, false, false, false, false, false, false, false, false, false] rfl rfl (any_of HT_.1 (by kernel_rfl)) (fun _ _ _ h => h) (Or.inl ⟨by rfl, ?_⟩) ?_ ?_
           rotate_left
           ·intro w'
            go_simp
            with_reducible rfl
           rotate_left
           ·simp only [Act.put, z1, z2, z3, i64_w, i32_w]
            rfl
           refine pure_ (i := 1) (N := some 67) (v := ?_) (a' := ?_) #[true, true, false, false, false, false, false, false, false, false, false, false, false, false, false, false, false] rfl rfl (any_of HT_.1 (by kernel_rfl)) (fun _ _ _ h => h) (Or.inl ⟨by rfl, ?_⟩) ?_ ?_
           rotate_left
           ·intro w'
            go_simp
            with_reducible rfl
           rotate_left
           ·simp only [Act.put, z1, z2, z3, i64_w, i32_w]
            rfl
           refine pure_ (i := 2) (N := some 68) (v := ?_) (a' := ?_) #[true, true, true, false, false, false, false, false, false, false, false, false, false, false, false, false, false] rfl rfl (any_of HT_.1 (by kernel_rfl)) (fun _ _ _ h => h) (Or.inl ⟨by rfl, ?_⟩) ?_ ?_
           rotate_left
           ·intro w'
            go_simp
            with_reducible rfl
           rotate_left
           ·simp only [Act.put, z1, z2, z3, i64_w, i32_w]
            rfl
           refine pure_ (i := 3) (N := some 69) (v := ?_) (a' := ?_) #[true, true, true, true, false, false, false, false, false, false, false, false, false, false, false, false, false] rfl rfl (any_of HT_.1 (by kernel_rfl)) (fun _ _ _ h => h) (Or.inl ⟨by rfl, ?_⟩) ?_ ?_
           rotate_left
           ·intro w'
            go_simp
            with_reducible rfl
           rotate_left
           ·simp only [Act.put, z1, z2, z3, i64_w, i32_w]
            rfl
           refine pure_ (i := 4) (N := some 70) (v := ?_) (a' := ?_) #[true, true, true, true, true, false, false, false, false, false, false, false, false, false, false, false, false] rfl rfl (any_of HT_.1 (by kernel_rfl)) (fun _ _ _ h => h) (Or.inl ⟨by rfl, ?_⟩) ?_ ?_
           rotate_left
           ·intro w'
            go_simp
            with_reducible rfl
           rotate_left
           ·simp only [Act.put, z1, z2, z3, i64_w, i32_w]
            rfl
           refine pure_ (i := 6) (N := some 72) (v := ?_) (a' := ?_) #[true, true, true, true, true, false, true, false, false, false, false, false, false, false, false, false, false] rfl rfl (any_of HT_.1 (by kernel_rfl)) (fun _ _ _ h => h) (Or.inl ⟨by rfl, ?_⟩) ?_ ?_
           rotate_left
           ·intro w'
            go_simp
            with_reducible rfl
           rotate_left
           ·simp only [Act.put, z1, z2, z3, i64_w, i32_w]
            rfl
           refine pure_ (i := 7) (N := some 73) (v := ?_) (a' := ?_) #[true, true, true, true, true, false, true, true, false, false, false, false, false, false, false, false, false] rfl rfl (any_of HT_.1 (by kernel_rfl)) (fun _ _ _ h => h) (Or.inl ⟨by rfl, ?_⟩) ?_ ?_
           rotate_left
           ·intro w'
            go_simp
            with_reducible rfl
           rotate_left
           ·simp only [Act.put, z1, z2, z3, i64_w, i32_w]
            rfl
           refine pure_ (i := 8) (N := some 74) (v := ?_) (a' := ?_) #[true, true, true, true, true, false, true, true, true, false, false, false, false, false, false, false, false] rfl rfl (any_of HT_.1 (by kernel_rfl)) (fun _ _ _ h => h) (Or.inl ⟨by rfl, ?_⟩) ?_ ?_
           rotate_left
           ·intro w'
            go_simp
            with_reducible rfl
           rotate_left
           ·simp only [Act.put, z1, z2, z3, i64_w, i32_w]
            rfl
           refine take_ (i := 5) (N := some 71) (v := ?_) (a' := ?_) #[true, true, true, true, true, true, true, true, true, false, false, false, false, false, false, false, false] rfl rfl (take_ofW HT_.1 HW_.1 (by kernel_rfl)) (fun _ _ _ h => h) (Or.inl ⟨by rfl, ?_⟩) hHeld ?_ ?_
           rotate_left
           ·rintro w' ⟨s0, s1, s2, s3, s4, s5, s6, s7⟩
            go_simp
            with_reducible rfl
           rotate_left
           ·simp only [Act.put, z1, z2, z3, i64_w, i32_w]
            rfl
           refine take_ (i := 9) (N := some 75) (v := ?_) (a' := ?_) #[true, true, true, true, true, true, true, true, true, true, false, false, false, false, false, false, false] rfl rfl (take_ofW HT_.1 HW_.1 (by kernel_rfl)) (fun _ _ _ h => h) (Or.inl ⟨by rfl, ?_⟩) hHeld ?_ ?_
           rotate_left
           ·rintro w' ⟨s0, s1, s2, s3, s4, s5, s6, s7⟩
            go_simp
            with_reducible rfl
           rotate_left
           ·simp only [Act.put, z1, z2, z3, i64_w, i32_w]
            rfl
           refine one_ (i := 10) (N := some 76) #[true, true, true, true, true, true, true, true, true, true, true, false, false, false, false, false, false] rfl rfl (one_of HT_.1 (by kernel_rfl)) (by decide) (fun K hK => ?_)
           refine goes_ Try.func41 (by kernel_rfl) rfl #[.agg #[.int .i64 ((rd_T37 l0 x14_2).f0), .int .i64 ((rd_T37 l0 x14_2).f1), .int .i64 ((rd_T37 l0 x14_2).f2), .int .i64 ((rd_T37 l0 x14_2).f3)]] (by rfl) rfl rfl (by (try simp only [List.map_toArray, List.map_cons, List.map_nil]); first | done | rfl | (simp only [List.length_drop, List.length_take]; rfl)) ?_
           with_reducible refine (estoversref21_Total.calls ((rd_T37 l0 x14_2).f0) ((rd_T37 l0 x14_2).f1) ((rd_T37 l0 x14_2).f2) ((rd_T37 l0 x14_2).f3) t363 _ A19.1).mono ?_
           rintro e w28 ⟨rfl, hb⟩
           refine ⟨_, rfl, ?_⟩
           have n0_ := zM (Kd.R_below (by (with_reducible repeat (first | apply Kd.R_alloc | apply Kd.R_drewN | apply Kd.R_drew)); exact HO_13.1) hb)
           have n1_ := zM (blk_below (g := gb360) (o := .cells #[.int .i64 t356, .int .i64 t357, .bool t358] 43 (0, 0)) (by (with_reducible repeat (first | refine zn ?_ _ | refine zd ?_ | refine za ?_ _)); exact BK360.1) hb)
           have n2_ := zM (zT (by repeat (first | (with_reducible first | exact HB.1 | apply zA | apply zN | apply zD | refine zS ?_ GE360.1) | exact HB.1)) hb)
           clear HO_13
           clear BK360
           clear HB
           have HO_13 := n0_
           have BK360 := n1_
           have HB := n2_
           clear n0_ n1_ n2_
           (try clear hb)
           (try clear hb2)
           (try clear hk)
           (try clear hi)
           refine hK.out _ _ ⟨((HB.1.cell (zL w _ hw361_0)).trans hw361_0), ((HB.1.cell (zL w _ hw361_1)).trans hw361_1), ((HB.1.cell (zL w _ hw361_2)).trans hw361_2), ((HB.1.cell (zL w _ hw361_3)).trans hw361_3), ((HB.1.cell (zL w _ hw362_0)).trans hw362_0), ((HB.1.cell (zL w _ hw362_1)).trans hw362_1), ((HB.1.cell (zL w _ hw362_2)).trans hw362_2), ((HB.1.cell (zL w _ hw362_3)).trans hw362_3)⟩ (fun hHeld => ?_)
           clear hK K
           refine norm_ (a' := ?_) ?_ ?_
           rotate_left
           ·show Act.put _ (some 76) _ = _
            simp only [Act.put, z1, z2, z3, i64_w, i32_w]
            rfl
           refine one_ (i := 11) (N := some 77) #[true, true, true, true, true, true, true, true, true, true, true, true, false, false, false, false, false] rfl rfl (one_of HT_.1 (by kernel_rfl)) (by decide) (fun K hK => ?_)
           refine goes_ Try.func47 (by kernel_rfl) rfl #[.slice Ao22 x13_2.length co22, .int .i64 ((rd_T37 l0 x14_2).f1), .int .i64 t363] (by rfl) rfl rfl (by (try simp only [List.map_toArray, List.map_cons, List.map_nil]); first | done | rfl | (simp only [List.length_drop, List.length_take]; rfl)) ?_
           with_reducible refine (estoversref19_Charge.calls k2 _ _ x13_2 ((rd_T37 l0 x14_2).f1) t363 t364 t365 t366 _ ?side1 ?side2 A20.1).mono ?_
           (case side1 => repeat (first | exact (Kd.R_reads' HO_13.1).2.2 | (with_reducible refine Kd.C_alloc ?_ _) | (with_reducible refine Kd.C_drewN ?_ _) | (with_reducible refine Kd.C_drew ?_)))
           (case side2 => exact (Kd.R_reads' HO_13.1).2.1)
           rintro e w29 ⟨v367, rfl, ho0, hb⟩
           refine ⟨_, rfl, ?_⟩
           have n0_ := zM (Kd.R_elder' (by (with_reducible repeat (first | apply Kd.R_alloc | apply Kd.R_drewN | apply Kd.R_drew)); exact HO_13.1) (Kd.R_base ho0) hb)
           have n1_ := zM (Kd.R_lower (Kd.R_new' ho0 (Kd.R_lt (by (with_reducible repeat (first | apply Kd.R_alloc | apply Kd.R_drewN | apply Kd.R_drew)); exact HO_13.1))) (zz (by repeat (first | (with_reducible first | exact HB.1 | apply zA | apply zN | apply zD | refine zS ?_ GE360.1) | exact HB.1))))
           have n2_ := zM (blk_below (g := gb360) (o := .cells #[.int .i64 t356, .int .i64 t357, .bool t358] 43 (0, 0)) (by (with_reducible repeat (first | refine zn ?_ _ | refine zd ?_ | refine za ?_ _)); exact BK360.1) hb)
           have n3_ := zM (zT (by repeat (first | (with_reducible first | exact HB.1 | apply zA | apply zN | apply zD | refine zS ?_ GE360.1) | exact HB.1)) hb)
           clear HO_13
           clear BK360
           clear HB
           have HO_13 := n0_
           have HO368 := n1_
           have BK360 := n2_
           have HB := n3_
           clear n0_ n1_ n2_ n3_
           (try clear hb)
           (try clear hb2)
           (try clear hk)
           (try clear hi)
           (try clear ho0)
           refine hK.out _ _ ⟨((HB.1.cell (zL w _ hw361_0)).trans hw361_0), ((HB.1.cell (zL w _ hw361_1)).trans hw361_1), ((HB.1.cell (zL w _ hw361_2)).trans hw361_2), ((HB.1.cell (zL w _ hw361_3)).trans hw361_3), ((HB.1.cell (zL w _ hw362_0)).trans hw362_0), ((HB.1.cell (zL w _ hw362_1)).trans hw362_1), ((HB.1.cell (zL w _ hw362_2)).trans hw362_2), ((HB.1.cell (zL w _ hw362_3)).trans hw362_3)⟩ (fun hHeld => ?_)
           clear hK K
           refine norm_ (a' := ?_) ?_ ?_
           rotate_left
           ·show Act.put _ (some 77) _ = _
            simp only [Act.put, z1, z2, z3, i64_w, i32_w]
            rfl
           refine pure_ (i := 12) (N := some 65) (v := ?_) (a' := ?_) #[true, true, true, true, true, true, true, true, true, true, true, true, true, false, false, false, false] rfl rfl (any_of HT_.1 (by kernel_rfl)) (fun _ _ _ h => h) (Or.inl ⟨by rfl, ?_⟩) ?_ ?_
           rotate_left
           ·intro w'
            go_simp
            with_reducible rfl
           rotate_left
           ·simp only [Act.put, z1, z2, z3, i64_w, i32_w]
            rfl
           refine pure_ (i := 13) (N := some 78) (v := ?_) (a' := ?_) #[true, true, true, true, true, true, true, true, true, true, true, true, true, true, false, false, false] rfl rfl (any_of HT_.1 (by kernel_rfl)) (fun _ _ _ h => h) (Or.inl ⟨by rfl, ?_⟩) ?_ ?_
           rotate_left
           ·intro w'
            go_simp
            with_reducible rfl
           rotate_left
           ·simp only [Act.put, z1, z2, z3, i64_w, i32_w]
            rfl
           refine pure_ (i := 14) (N := some 79) (v := ?_) (a' := ?_) #[true, true, true, true, true, true, true, true, true, true, true, true, true, true, true, false, false] rfl rfl (any_of HT_.1 (by kernel_rfl)) (fun _ _ _ h => h) (Or.inl ⟨by rfl, ?_⟩) ?_ ?_
           rotate_left
           ·intro w'
            go_simp
            with_reducible rfl
           rotate_left
           ·simp only [Act.put, z1, z2, z3, i64_w, i32_w]
            rfl
           refine pure_ (i := 15) (N := some 80) (v := ?_) (a' := ?_) #[true, true, true, true, true, true, true, true, true, true, true, true, true, true, true, true, false] rfl rfl (any_of HT_.1 (by kernel_rfl)) (fun _ _ _ h => h) (Or.inl ⟨by rfl, ?_⟩) ?_ ?_
           rotate_left
           ·intro w'
            go_simp
            with_reducible rfl
           rotate_left
           ·simp only [Act.put, z1, z2, z3, i64_w, i32_w]
            rfl
           refine pure_ (i := 16) (N := some 13) (v := ?_) (a' := ?_) #[true, true, true, true, true, true, true, true, true, true, true, true, true, true, true, true, true] rfl rfl (any_of HT_.1 (by kernel_rfl)) (fun _ _ _ h => h) (Or.inl ⟨by rfl, ?_⟩) ?_ ?_
           rotate_left
           ·intro w'
            go_simp
            with_reducible rfl
           rotate_left
           ·simp only [Act.put, z1, z2, z3, i64_w, i32_w]
            rfl
           refine done_ (done_of HT_.1 (by kernel_rfl)) ?_
           try go_wp2
           have n0_ := zM (Kd.R_drew HO_13.1)
           have n1_ := zM (Kd.R_drew HO368.1)
           have n2_ := zM (zd BK360.1)
           have n3_ := zM (zD HB.1)
           clear HO_13
           clear HO368
           clear BK360
           clear HB
           have HO_13 := n0_
           have HO368 := n1_
           have BK360 := n2_
           have HB := n3_
           clear n0_ n1_ n2_ n3_
           have p369 : 0 ≤ (x14_2 : Int) := zo (by first | (with_reducible assumption) | assumption)
           have q369 : x14_2 < (l0.length : Int) := zo (by first | (with_reducible assumption) | assumption)
           obtain ⟨ad369, e369, hx369_0, hx369_1, hx369_2, hx369_3⟩ := at_T37 HR0.1 x14_2 p369 q369
           have hw369_3 := hx369_3
           have hw369_2 := hx369_2
           have hw369_1 := hx369_1
           have hw369_0 := hx369_0
           obtain rfl : ad355 = ad369 := (by injection e369)
           replace hx369_0 := (HB.1.cell (zL w _ hx369_0)).trans hx369_0
           replace hx369_1 := (HB.1.cell (zL w _ hx369_1)).trans hx369_1
           replace hx369_2 := (HB.1.cell (zL w _ hx369_2)).trans hx369_2
           replace hx369_3 := (HB.1.cell (zL w _ hx369_3)).trans hx369_3
           replace p369 := eq_true p369
           replace q369 := eq_true q369
           have p370 : 0 ≤ (x14_2 : Int) := zo (by first | (with_reducible assumption) | assumption)
           have q370 : x14_2 < (l0.length : Int) := zo (by first | (with_reducible assumption) | assumption)
           obtain ⟨ad370, e370, hx370_0, hx370_1, hx370_2, hx370_3⟩ := at_T37 HR0.1 x14_2 p370 q370
           have hw370_3 := hx370_3
           have hw370_2 := hx370_2
           have hw370_1 := hx370_1
           have hw370_0 := hx370_0
           obtain rfl : ad355 = ad370 := (by injection e370)
           replace hx370_0 := (HB.1.cell (zL w _ hx370_0)).trans hx370_0
           replace hx370_1 := (HB.1.cell (zL w _ hx370_1)).trans hx370_1
           replace hx370_2 := (HB.1.cell (zL w _ hx370_2)).trans hx370_2
           replace hx370_3 := (HB.1.cell (zL w _ hx370_3)).trans hx370_3
           replace p370 := eq_true p370
           replace q370 := eq_true q370
           refine start_ (n := 16) (S := fun w' => w'.cell? (ad355.add ((x14_2).toNat * 4)) = some (.int .i64 ((rd_T37 l0 x14_2).f0)) ∧ w'.cell? ⟨(ad355.add ((x14_2).toNat * 4)).block, (ad355.add ((x14_2).toNat * 4)).off + 1, none⟩ = some (.int .i64 ((rd_T37 l0 x14_2).f1)) ∧ w'.cell? ⟨(ad355.add ((x14_2).toNat * 4)).block, (ad355.add ((x14_2).toNat * 4)).off + 2, none⟩ = some (.int .i64 ((rd_T37 l0 x14_2).f2)) ∧ w'.cell? ⟨(ad355.add ((x14_2).toNat * 4)).block, (ad355.add ((x14_2).toNat * 4)).off + 3, none⟩ = some (.int .i64 ((rd_T37 l0 x14_2).f3)) ∧ w'.cell? (ad355.add ((x14_2).toNat * 4)) = some (.int .i64 ((rd_T37 l0 x14_2).f0)) ∧ w'.cell? ⟨(ad355.add ((x14_2).toNat * 4)).block, (ad355.add ((x14_2).toNat * 4)).off + 1, none⟩ = some (.int .i64 ((rd_T37 l0 x14_2).f1)) ∧ w'.cell? ⟨(ad355.add ((x14_2).toNat * 4)).block, (ad355.add ((x14_2).toNat * 4)).off + 2, none⟩ = some (.int .i64 ((rd_T37 l0 x14_2).f2)) ∧ w'.cell? ⟨(ad355.add ((x14_2).toNat * 4)).block, (ad355.add ((x14_2).toNat * 4)).off + 3, none⟩ = some (.int .i64 ((rd_T37 l0 x14_2).f3))) (ds := []) #[false, false, false, false, false, false, false, false, false, false, false, false, false, false, false, false] (by kernel_rfl) rfl rfl ⟨((HB.1.cell (zL w _ hw369_0)).trans hw369_0), ((HB.1.cell (zL w _ hw369_1)).trans hw369_1), ((HB.1.cell (zL w _ hw369_2)).trans hw369_2), ((HB.1.cell (zL w _ hw369_3)).trans hw369_3), ((HB.1.cell (zL w _ hw370_0)).trans hw370_0), ((HB.1.cell (zL w _ hw370_1)).trans hw370_1), ((HB.1.cell (zL w _ hw370_2)).trans hw370_2), ((HB.1.cell (zL w _ hw370_3)).trans hw370_3)⟩ (fun hHeld => ?_); refine with_tabW estoversref21_Serve.tab20 estoversref21_Serve.bits20 (fun HT_ HW_ => ?_)
           generalize w29.drew = w30 at HO_13 HO368 BK360 HB hx369_0 hx369_1 hx369_2 hx369_3 hx370_0 hx370_1 hx370_2 hx370_3 hHeld ⊢
           refine pure_ (i := 0) (N := some 81) (v := ?_) (a' := ?_) #[true, false, false, false, false, false, false, false, false, false, false, false, false, false, false, false] rfl rfl (any_of HT_.1 (by kernel_rfl)) (fun _ _ _ h => h) (Or.inl ⟨by rfl, ?_⟩) ?_ ?_
           rotate_left
           ·intro w'
            go_simp
            with_reducible rfl
           rotate_left
           ·simp only [Act.put, z1, z2, z3, i64_w, i32_w]
            rfl
           refine pure_ (i := 1) (N := some 82) (v := ?_) (a' := ?_) #[true, true, false, false, false, false, false, false, false, false, false, false, false, false, false, false] rfl rfl (any_of HT_.1 (by kernel_rfl)) (fun _ _ _ h => h) (Or.inl ⟨by rfl, ?_⟩) ?_ ?_
           rotate_left
           ·intro w'
            go_simp
            with_reducible rfl
           rotate_left
           ·simp only [Act.put, z1, z2, z3, i64_w, i32_w]
            rfl
           refine pure_ (i := 2) (N := some 83) (v := ?_) (a' := ?_) #[true, true, true, false, false, false, false, false, false, false, false, false, false, false, false, false] rfl rfl (any_of HT_.1 (by kernel_rfl)) (fun _ _ _ h => h) (Or.inl ⟨by rfl, ?_⟩) ?_ ?_
           rotate_left
           ·intro w'
            go_simp
            with_reducible rfl
           rotate_left
           ·simp only [Act.put, z1, z2, z3, i64_w, i32_w]
            rfl
           refine pure_ (i := 3) (N := some 84) (v := ?_) (a' := ?_) #[true, true, true, true, false, false, false, false, false, false, false, false, false, false, false, false] rfl rfl (any_of HT_.1 (by kernel_rfl)) (fun _ _ _ h => h) (Or.inl ⟨by rfl, ?_⟩) ?_ ?_
           rotate_left
           ·intro w'
            go_simp
            with_reducible rfl
           rotate_left
           ·simp only [Act.put, z1, z2, z3, i64_w, i32_w]
            rfl
           refine pure_ (i := 4) (N := some 85) (v := ?_) (a' := ?_) #[true, true, true, true, true, false, false, false, false, false, false, false, false, false, false, false] rfl rfl (any_of HT_.1 (by kernel_rfl)) (fun _ _ _ h => h) (Or.inl ⟨by rfl, ?_⟩) ?_ ?_
           rotate_left
           ·intro w'
            go_simp
            with_reducible rfl
           rotate_left
           ·simp only [Act.put, z1, z2, z3, i64_w, i32_w]
            rfl
           refine pure_ (i := 7) (N := some 88) (v := ?_) (a' := ?_) #[true, true, true, true, true, false, false, true, false, false, false, false, false, false, false, false] rfl rfl (any_of HT_.1 (by kernel_rfl)) (fun _ _ _ h => h) (Or.inl ⟨by rfl, ?_⟩) ?_ ?_
           rotate_left
           ·intro w'
            go_simp
            with_reducible rfl
           rotate_left
           ·simp only [Act.put, z1, z2, z3, i64_w, i32_w]
            rfl
           refine pure_ (i := 8) (N := some 89) (v := ?_) (a' := ?_) #[true, true, true, true, true, false, false, true, true, false, false, false, false, false, false, false] rfl rfl (any_of HT_.1 (by kernel_rfl)) (fun _ _ _ h => h) (Or.inl ⟨by rfl, ?_⟩) ?_ ?_
           rotate_left
           ·intro w'
            go_simp
            with_reducible rfl
           rotate_left
           ·simp only [Act.put, z1, z2, z3, i64_w, i32_w]
            rfl
           refine pure_ (i := 9) (N := some 90) (v := ?_) (a' := ?_) #[true, true, true, true, true, false, false, true, true, true, false, false, false, false, false, false] rfl rfl (any_of HT_.1 (by kernel_rfl)) (fun _ _ _ h => h) (Or.inl ⟨by rfl, ?_⟩) ?_ ?_
           rotate_left
           ·intro w'
            go_simp
            with_reducible rfl
           rotate_left
           ·simp only [Act.put, z1, z2, z3, i64_w, i32_w]
            rfl
           refine pure_ (i := 10) (N := some 91) (v := ?_) (a' := ?_) #[true, true, true, true, true, false, false, true, true, true, true, false, false, false, false, false] rfl rfl (any_of HT_.1 (by kernel_rfl)) (fun _ _ _ h => h) (Or.inl ⟨by rfl, ?_⟩) ?_ ?_
           rotate_left
           ·intro w'
            go_simp
            with_reducible rfl
           rotate_left
           ·simp only [Act.put, z1, z2, z3, i64_w, i32_w]
            rfl
           refine take_ (i := 5) (N := some 86) (v := ?_) (a' := ?_) #[true, true, true, true, true, true, false, true, true, true, true, false, false, false, false, false] rfl rfl (take_ofW HT_.1 HW_.1 (by kernel_rfl)) (fun _ _ _ h => h) (Or.inl ⟨by rfl, ?_⟩) hHeld ?_ ?_
           rotate_left
           ·rintro w' ⟨s0, s1, s2, s3, s4, s5, s6, s7⟩
            go_simp
            with_reducible rfl
           rotate_left
           ·simp only [Act.put, z1, z2, z3, i64_w, i32_w]
            rfl
           refine pure_ (i := 6) (N := some 87) (v := ?_) (a' := ?_) #[true, true, true, true, true, true, true, true, true, true, true, false, false, false, false, false] rfl rfl (any_of HT_.1 (by kernel_rfl)) (fun _ _ _ h => h) (Or.inl ⟨by rfl, ?_⟩) ?_ ?_
           rotate_left
           ·intro w'
            go_simp
            with_reducible rfl
           rotate_left
           ·simp only [Act.put, z1, z2, z3, i64_w, i32_w]
            rfl
           refine take_ (i := 11) (N := some 92) (v := ?_) (a' := ?_) #[true, true, true, true, true, true, true, true, true, true, true, true, false, false, false, false] rfl rfl (take_ofW HT_.1 HW_.1 (by kernel_rfl)) (fun _ _ _ h => h) (Or.inl ⟨by rfl, ?_⟩) hHeld ?_ ?_
           rotate_left
           ·rintro w' ⟨s0, s1, s2, s3, s4, s5, s6, s7⟩
            go_simp
            with_reducible rfl
           rotate_left
           ·simp only [Act.put, z1, z2, z3, i64_w, i32_w]
            rfl
           refine one_ (i := 12) (N := some 93) #[true, true, true, true, true, true, true, true, true, true, true, true, true, false, false, false] rfl rfl (one_of HT_.1 (by kernel_rfl)) (by decide) (fun K hK => ?_)
           refine goes_ Try.func41 (by kernel_rfl) rfl #[.agg #[.int .i64 ((rd_T37 l0 x14_2).f0), .int .i64 ((rd_T37 l0 x14_2).f1), .int .i64 ((rd_T37 l0 x14_2).f2), .int .i64 ((rd_T37 l0 x14_2).f3)]] (by rfl) rfl rfl (by (try simp only [List.map_toArray, List.map_cons, List.map_nil]); first | done | rfl | (simp only [List.length_drop, List.length_take]; rfl)) ?_
           with_reducible refine (estoversref21_Total.calls ((rd_T37 l0 x14_2).f0) ((rd_T37 l0 x14_2).f1) ((rd_T37 l0 x14_2).f2) ((rd_T37 l0 x14_2).f3) t371 _ A21.1).mono ?_
           rintro e w31 ⟨rfl, hb⟩
           refine ⟨_, rfl, ?_⟩
           have n0_ := zM (Kd.R_below (by (with_reducible repeat (first | apply Kd.R_alloc | apply Kd.R_drewN | apply Kd.R_drew)); exact HO_13.1) hb)
           have n1_ := zM (Kd.R_below (by (with_reducible repeat (first | apply Kd.R_alloc | apply Kd.R_drewN | apply Kd.R_drew)); exact HO368.1) hb)
           have n2_ := zM (blk_below (g := gb360) (o := .cells #[.int .i64 t356, .int .i64 t357, .bool t358] 43 (0, 0)) (by (with_reducible repeat (first | refine zn ?_ _ | refine zd ?_ | refine za ?_ _)); exact BK360.1) hb)
           have n3_ := zM (zT (by repeat (first | (with_reducible first | exact HB.1 | apply zA | apply zN | apply zD | refine zS ?_ GE360.1) | exact HB.1)) hb)
           clear HO_13
           clear HO368
           clear BK360
           clear HB
           have HO_13 := n0_
           have HO368 := n1_
           have BK360 := n2_
           have HB := n3_
           clear n0_ n1_ n2_ n3_
           (try clear hb)
           (try clear hb2)
           (try clear hk)
           (try clear hi)
           refine hK.out _ _ ⟨((HB.1.cell (zL w _ hw369_0)).trans hw369_0), ((HB.1.cell (zL w _ hw369_1)).trans hw369_1), ((HB.1.cell (zL w _ hw369_2)).trans hw369_2), ((HB.1.cell (zL w _ hw369_3)).trans hw369_3), ((HB.1.cell (zL w _ hw370_0)).trans hw370_0), ((HB.1.cell (zL w _ hw370_1)).trans hw370_1), ((HB.1.cell (zL w _ hw370_2)).trans hw370_2), ((HB.1.cell (zL w _ hw370_3)).trans hw370_3)⟩ (fun hHeld => ?_)
           clear hK K
           refine norm_ (a' := ?_) ?_ ?_
           rotate_left
           ·show Act.put _ (some 93) _ = _
            simp only [Act.put, z1, z2, z3, i64_w, i32_w]
            rfl
           refine pure_ (i := 13) (N := some 94) (v := ?_) (a' := ?_) #[true, true, true, true, true, true, true, true, true, true, true, true, true, true, false, false] rfl rfl (any_of HT_.1 (by kernel_rfl)) (fun _ _ _ h => h) (Or.inl ⟨by rfl, ?_⟩) ?_ ?_
           rotate_left
           ·intro w'
            go_simp
            with_reducible rfl
           rotate_left
           ·simp only [Act.put, z1, z2, z3, i64_w, i32_w]
            rfl
           refine pure_ (i := 14) (N := some 2) (v := ?_) (a' := ?_) #[true, true, true, true, true, true, true, true, true, true, true, true, true, true, true, false] rfl rfl (any_of HT_.1 (by kernel_rfl)) (fun _ _ _ h => h) (Or.inl ⟨by rfl, ?_⟩) ?_ ?_
           rotate_left
           ·intro w'
            go_simp
            with_reducible rfl
           rotate_left
           ·simp only [Act.put, z1, z2, z3, i64_w, i32_w]
            rfl
           refine pure_ (i := 15) (N := some 3) (v := ?_) (a' := ?_) #[true, true, true, true, true, true, true, true, true, true, true, true, true, true, true, true] rfl rfl (any_of HT_.1 (by kernel_rfl)) (fun _ _ _ h => h) (Or.inl ⟨by rfl, ?_⟩) ?_ ?_
           rotate_left
           ·intro w'
            go_simp
            with_reducible rfl
           rotate_left
           ·simp only [Act.put, z1, z2, z3, i64_w, i32_w]
            rfl
           refine done_ (done_of HT_.1 (by kernel_rfl)) ?_
           try go_wp2
           go_roundg k2
           case measure => have := HK1.1; have := HK2.1; omega
           case rel => exact ⟨(wrap64 (x2_2 - ((rd_T37 l0 x14_2).f2))), (wrap64 (x3_2 - t371)), (t364), (wrap64 (x14_2 + 1)), (by first | rfl | (simp; done) | (simp [*]; done)), (by first | rfl | (simp; done) | (simp [*]; done)), (by first | rfl | (simp; done) | (simp [*]; done)), H', ⟨by have := HK1.1; have := HK2.1; omega⟩, ⟨by (with_reducible repeat (first | apply Kd.R_alloc | apply Kd.R_drewN | apply Kd.R_drew)); exact Kd.R_mono HO368.1 (fun _ hk => trivial)⟩, ⟨by repeat (first | (with_reducible first | exact HB.1 | apply zA | apply zN | apply zD | refine zS ?_ GE360.1) | exact HB.1)⟩⟩
          ·rw [if_neg c18] at H
           have c18b0 : (t356 == 0) = false := beq_eq_false_iff_ne.mpr c18
           have c18b1 : (t356 != 0) = true := bne_iff_ne.mpr c18
           simp only [Option.some.injEq, Prod.mk.injEq] at H
           obtain ⟨rfl, rfl, rfl⟩ := H
           have p355 : 0 ≤ (x14_2 : Int) := zo (by first | (with_reducible assumption) | assumption)
           have q355 : x14_2 < (l0.length : Int) := zo (by first | (with_reducible assumption) | assumption)
           obtain ⟨ad355, e355, hx355_0, hx355_1, hx355_2, hx355_3⟩ := at_T37 HR0.1 x14_2 p355 q355
           cases e355
           replace hx355_0 := (HB.1.cell (zL w _ hx355_0)).trans hx355_0
           replace hx355_1 := (HB.1.cell (zL w _ hx355_1)).trans hx355_1
           replace hx355_2 := (HB.1.cell (zL w _ hx355_2)).trans hx355_2
           replace hx355_3 := (HB.1.cell (zL w _ hx355_3)).trans hx355_3
           replace p355 := eq_true p355
           replace q355 := eq_true q355
           obtain ⟨Ao32, co32, eo32⟩ := Kd.R_slice HO_13.1
           subst eo32
           go_wp2_with (first | ((with_reducible refine gate_callee (f := 17) rfl ?_); refine goesL_ (some 57) rfl rfl Try.func17 (by kernel_rfl) rfl #[.agg #[.int .i64 ((rd_T37 l0 x14_2).f0), .int .i64 ((rd_T37 l0 x14_2).f1), .int .i64 ((rd_T37 l0 x14_2).f2), .int .i64 ((rd_T37 l0 x14_2).f3)], .slice Ao32 x13_2.length co32, .int .i64 x2_2, .int .i64 x3_2] rfl (by (try simp only [List.map_toArray, List.map_cons, List.map_nil]); first | done | rfl | (simp only [List.length_drop, List.length_take]; rfl)) ?_; (with_reducible refine (estoversref21_Short.calls k2 ((rd_T37 l0 x14_2).f0) ((rd_T37 l0 x14_2).f1) ((rd_T37 l0 x14_2).f2) ((rd_T37 l0 x14_2).f3) _ _ x13_2 x2_2 x3_2 t356 t357 t358 t359 _ ?side1 ?side2 A17.1).mono ?_); (case side1 => repeat (first | exact (Kd.R_reads' HO_13.1).2.2 | (with_reducible refine Kd.C_alloc ?_ _) | (with_reducible refine Kd.C_drewN ?_ _) | (with_reducible refine Kd.C_drew ?_))); (case side2 => exact (Kd.R_reads' HO_13.1).2.1); rintro e w33 ⟨rfl, hb⟩; refine ⟨_, rfl, ?_⟩; have n0_ := zM (Kd.R_below (by (with_reducible repeat (first | apply Kd.R_alloc | apply Kd.R_drewN | apply Kd.R_drew)); exact HO_13.1) hb); have n1_ := zM (zT (by repeat (first | (with_reducible first | exact HB.1 | apply zA | apply zN | apply zD) | exact HB.1)) hb); clear HO_13; clear HB; have HO_13 := n0_; have HB := n1_; clear n0_ n1_; (try clear hb); (try clear hb2); (try clear hk); (try clear hi)) | ((with_reducible refine gate_dst (N := 15) rfl ?_); refine box_event ?hg (N := 15) ?hd (cs := #[.int .i64 0, .int .i64 0, .bool false]) (t := 43) ?hr ?_; (case hd => rfl); (case hg => rfl); (case hr => first | (go_simp; done) | (go_simp; rfl)); intro gb360 hg w34 hbox hb; have n0_ := zM (Kd.R_below (by (with_reducible repeat (first | apply Kd.R_alloc | apply Kd.R_drewN | apply Kd.R_drew)); exact HO_13.1) hb); have n1_ := zM (zT (by repeat (first | (with_reducible first | exact HB.1 | apply zA | apply zN | apply zD) | exact HB.1)) hb); have n2_ := zM (hbox); have n3_ := zM ((by rw [hg]; exact (zz (by repeat (first | (with_reducible first | exact HB.1 | apply zA | apply zN | apply zD) | exact HB.1))) : w.heap.size ≤ gb360)); have n4_ := zM ((by rw [hg]; exact (zz (by repeat (first | (with_reducible first | exact HB.1 | apply zA | apply zN | apply zD) | exact HB.1))) : w.heap.size ≤ gb360)); clear HO_13; clear HB; have HO_13 := n0_; have HB := n1_; have BK360 := n2_; have GW360 := n3_; have GE360 := n4_; clear n0_ n1_ n2_ n3_ n4_; clear hb hbox hg; have hcz35_0 : w34.cell? ⟨gb360, 0, none⟩ = some (.int .i64 0) := (zc BK360.1 0).trans rfl; have hcz35_1 : w34.cell? ⟨gb360, 1, none⟩ = some (.int .i64 0) := (zc BK360.1 1).trans rfl; have hcz35_2 : w34.cell? ⟨gb360, 2, none⟩ = some (.bool false) := (zc BK360.1 2).trans rfl; have hfz35_0 := zf BK360.1 0; have hfz35_1 := zf BK360.1 1; have hfz35_2 := zf BK360.1 2))
           go_ret3
           exact ⟨_, by first | rfl | (simp [errW_none, errW_some] <;> rfl) | (simp [*, errW_none, errW_some] <;> rfl), by (with_reducible repeat (first | apply Kd.R_alloc | apply Kd.R_drewN | apply Kd.R_drew)); exact Kd.R_mono (Kd.R_far (p := ⟨gb360, 2, none⟩) (Kd.R_far (p := ⟨gb360, 1, none⟩) (Kd.R_far (p := ⟨gb360, 0, none⟩) (Kd.R_types HO_13.1 BK360.1 (by decide)) (fun _ hk => hk.2) (.int .i64 t356)) (fun _ hk => hk.2) (.int .i64 t357)) (fun _ hk => hk.2) (.bool t358)) (fun _ hk => trivial), by repeat (first | (with_reducible first | exact HB.1 | apply zA | apply zN | apply zD | refine zS ?_ GE360.1) | exact HB.1)⟩
         ·rw [if_neg c16] at H
          exact absurd H (by simp)
        ·rw [if_neg c15] at H
         have c15b0 : decide (x14_2 < (l0.length : Int)) = false := decide_eq_false c15
         clear c15
         simp only [Option.some.injEq, Prod.mk.injEq] at H
         obtain ⟨rfl, rfl, rfl⟩ := H
         go_wp2
         go_ret3
         exact ⟨_, by first | rfl | (simp [errW_none, errW_some] <;> rfl) | (simp [*, errW_none, errW_some] <;> rfl), by (with_reducible repeat (first | apply Kd.R_alloc | apply Kd.R_drewN | apply Kd.R_drew)); exact HO_13.1, by repeat (first | (with_reducible first | exact HB.1 | apply zA | apply zN | apply zD) | exact HB.1)⟩
  ·rw [if_neg c8] at H
   have c8b0 : (t350 == 0) = false := beq_eq_false_iff_ne.mpr c8
   have c8b1 : (t350 != 0) = true := bne_iff_ne.mpr c8
   simp only [Option.some.injEq, Prod.mk.injEq] at H
   obtain ⟨rfl, rfl, rfl⟩ := H
   go_enter Try.func21, Try.ntmps21
   go_wp2_with (first | ((with_reducible refine gate_callee (f := 28) rfl ?_); refine goesL_ (some 18) rfl rfl Try.func28 (by kernel_rfl) rfl #[.slice A0 l0.length c0] rfl (by (try simp only [List.map_toArray, List.map_cons, List.map_nil]); first | done | rfl | (simp only [List.length_drop, List.length_take]; rfl)) ?_; (with_reducible refine (estoversref21_Check.calls k _ _ l0 t349 _ ?side1 ?side2 A5.1).mono ?_); (case side1 => repeat (first | exact HR0.1 | (with_reducible refine Kd.C_alloc ?_ _) | (with_reducible refine Kd.C_drewN ?_ _) | (with_reducible refine Kd.C_drew ?_))); (case side2 => exact HC0.1); rintro e w36 ⟨rfl, hb⟩; refine ⟨_, rfl, ?_⟩; have n0_ := zM (zT (by repeat (first | (with_reducible first | exact HB.1 | apply zA | apply zN | apply zD) | exact HB.1)) hb); clear HB; have HB := n0_; clear n0_; (try clear hb); (try clear hb2); (try clear hk); (try clear hi)) | ((with_reducible refine gate_callee (f := 39) rfl ?_); refine goesL_ (some 23) rfl rfl Try.func39 (by kernel_rfl) rfl #[.slice A1 l1.length c1] rfl (by (try simp only [List.map_toArray, List.map_cons, List.map_nil]); first | done | rfl | (simp only [List.length_drop, List.length_take]; rfl)) ?_; (with_reducible refine (estoversref19_Check.calls k _ _ l1 t350 _ ?side1 ?side2 A7.1).mono ?_); (case side1 => repeat (first | exact (Kd.C_below HR1.1 HB.1) | (with_reducible refine Kd.C_alloc ?_ _) | (with_reducible refine Kd.C_drewN ?_ _) | (with_reducible refine Kd.C_drew ?_))); (case side2 => exact HC1.1); rintro e w' ⟨rfl, ⟨nd, rfl⟩⟩; refine ⟨_, rfl, ?_⟩))
   go_ret3
   exact ⟨_, by first | rfl | (simp [errW_none, errW_some] <;> rfl) | (simp [*, errW_none, errW_some] <;> rfl), by first | exact Kd.R_nil _ _ _ _ _ | exact Kd.N_nil _ _ _ _ _ | exact Kd.V_nil _ _ _ _ _ | exact Kd.Q_nil _ _ _ _ _ | exact Kd.S_nil _ _ _ _ _, by repeat (first | (with_reducible first | exact HB.1 | apply zA | apply zN | apply zD) | exact HB.1)⟩
 ·rw [if_neg c6] at H
  have c6b0 : (t349 == 0) = false := beq_eq_false_iff_ne.mpr c6
  have c6b1 : (t349 != 0) = true := bne_iff_ne.mpr c6
  simp only [Option.some.injEq, Prod.mk.injEq] at H
  obtain ⟨rfl, rfl, rfl⟩ := H
  go_enter Try.func21, Try.ntmps21
  go_wp2_with (first | ((with_reducible refine gate_callee (f := 28) rfl ?_); refine goesL_ (some 18) rfl rfl Try.func28 (by kernel_rfl) rfl #[.slice A0 l0.length c0] rfl (by (try simp only [List.map_toArray, List.map_cons, List.map_nil]); first | done | rfl | (simp only [List.length_drop, List.length_take]; rfl)) ?_; (with_reducible refine (estoversref21_Check.calls k _ _ l0 t349 _ ?side1 ?side2 A5.1).mono ?_); (case side1 => repeat (first | exact HR0.1 | (with_reducible refine Kd.C_alloc ?_ _) | (with_reducible refine Kd.C_drewN ?_ _) | (with_reducible refine Kd.C_drew ?_))); (case side2 => exact HC0.1); rintro e w37 ⟨rfl, hb⟩; refine ⟨_, rfl, ?_⟩; have n0_ := zM (zT (by repeat (first | (with_reducible first | exact HB.1 | apply zA | apply zN | apply zD) | exact HB.1)) hb); clear HB; have HB := n0_; clear n0_; (try clear hb); (try clear hb2); (try clear hk); (try clear hi)))
  go_ret3
  exact ⟨_, by first | rfl | (simp [errW_none, errW_some] <;> rfl) | (simp [*, errW_none, errW_some] <;> rfl), by first | exact Kd.R_nil _ _ _ _ _ | exact Kd.N_nil _ _ _ _ _ | exact Kd.V_nil _ _ _ _ _ | exact Kd.Q_nil _ _ _ _ _ | exact Kd.S_nil _ _ _ _ _, by repeat (first | (with_reducible first | exact HB.1 | apply zA | apply zN | apply zD) | exact HB.1)⟩
end Go.Proofs.Ytimlodcdfekbhaa.PGrantServes
