-- Printed by a copy of the kit's printer that this session has patched (wip/tools/patch_print.py): the session's own text. Lean checks it.
import Derived.Test.YtimlodcdfekbhaaPGrantServesx0
import Derived.Test.YtimlodcdfekbhaaPGrantServesx9
namespace Go.Proofs.Ytimlodcdfekbhaa.PGrantServes
open Go.RowKit Go.Proofs.YtimlodcdfekbhaaW.PrintWords Go.Proofs.YtimlodcdfekbhaaW.PrintLast Go.Proofs.YtimlodcdfekbhaaW.PrintMore
attribute [local go_sem] max2_int min2_int max_two min_two max_three min_three max_four min_four   -- for this text's walks alone
set_option linter.unusedVariables false
set_option linter.unusedSimpArgs false
def estoversref19_has.f (k : Nat) (l0 : List (S59)) (a1 : Int) : Option (Bool) := (estoversref19_Check.f k l0).bind fun t293 => (if t293 = 0 then (if a1 ≥ 0 then (some (decide (a1 < (l0.length : Int)))) else (some false)) else (some false))
theorem estoversref19_has.mono : ∀ a0 a1 k, LeO (estoversref19_has.f k a0 a1) (estoversref19_has.f (k + 1) a0 a1) := by
 intro a0 a1 k
 unfold estoversref19_has.f
 repeat' first
   | (with_reducible exact estoversref19_Check.mono _ _)
   | (with_reducible exact LeO.refl _)
   | (with_reducible exact LeO.none _)
   | (with_reducible refine LeO.ite ?_ ?_)
   | (with_reducible refine LeO.bind ?_ (fun _ => ?_))
   | exact estoversref19_Check.mono _ _
   | exact LeO.none _
   | refine LeO.ite ?_ ?_
   | refine LeO.bind ?_ (fun _ => ?_)
set_option maxHeartbeats 8000000 in
set_option maxRecDepth 100000 in
theorem estoversref19_has.calls (k : Nat) (A0 : Option Addr) (c0 : Nat) (l0 : List (S59)) (a1 : Int) (r : Bool) (w : World) (hr0 : Kd.C k59 w A0 l0.length l0) (hc0 : l0.length ≤ c0) (h : estoversref19_has.f k l0 a1 = some r) :
  Calls Try.prog 65 #[.slice A0 l0.length c0, .int .i64 a1] w fun e w' => e = .returned (.bool r) ∧ Drawn0 w w' := by
 have HR0 := zM hr0
 have HC0 := zM hc0
 clear hr0 hc0
 have H : ((estoversref19_Check.f k l0).bind fun t293 => (if t293 = 0 then (if a1 ≥ 0 then (some (decide (a1 < (l0.length : Int)))) else (some false)) else (some false))) = some r := h
 clear h
 replace H := Option.bind_eq_some_iff.mp H
 obtain ⟨t293, A30, H⟩ := H
 replace H : (if t293 = 0 then (if a1 ≥ 0 then (some (decide (a1 < (l0.length : Int)))) else (some false)) else (some false)) = some r := H
 have A3 := zM A30
 clear A30
 by_cases c4 : t293 = 0
 ·rw [if_pos c4] at H
  have c4b0 : (t293 == 0) = true := beq_iff_eq.mpr c4
  have c4b1 : (t293 != 0) = false := bne_eq_false_iff_eq.mpr c4
  clear c4
  by_cases c5 : a1 ≥ 0
  ·rw [if_pos c5] at H
   have c5b0 : decide (0 ≤ a1) = true := decide_eq_true c5
   clear c5
   obtain rfl := Option.some.inj H
   go_enter Try.func65, Try.ntmps65
   go_wp2_with (first | ((with_reducible refine gate_callee (f := 39) rfl ?_); refine goesL_ (some 6) rfl rfl Try.func39 (by kernel_rfl) rfl #[.slice A0 l0.length c0] rfl (by (try simp only [List.map_toArray, List.map_cons, List.map_nil]); first | done | rfl | (simp only [List.length_drop, List.length_take]; rfl)) ?_; (with_reducible refine (estoversref19_Check.calls k _ _ l0 t293 _ ?side1 ?side2 A3.1).mono ?_); (case side1 => repeat (first | exact HR0.1 | (with_reducible refine Kd.C_alloc ?_ _) | (with_reducible refine Kd.C_drewN ?_ _) | (with_reducible refine Kd.C_drew ?_))); (case side2 => exact HC0.1); rintro e w' ⟨rfl, ⟨nd, rfl⟩⟩; refine ⟨_, rfl, ?_⟩))
   go_ret
   exact ⟨by first | rfl | (simp; done) | (simp [*]; done), by repeat (first | exact Drawn0.refl _ | apply Drawn0.step)⟩
  ·rw [if_neg c5] at H
   have c5b0 : decide (0 ≤ a1) = false := decide_eq_false c5
   clear c5
   obtain rfl := Option.some.inj H
   go_enter Try.func65, Try.ntmps65
   go_wp2_with (first | ((with_reducible refine gate_callee (f := 39) rfl ?_); refine goesL_ (some 6) rfl rfl Try.func39 (by kernel_rfl) rfl #[.slice A0 l0.length c0] rfl (by (try simp only [List.map_toArray, List.map_cons, List.map_nil]); first | done | rfl | (simp only [List.length_drop, List.length_take]; rfl)) ?_; (with_reducible refine (estoversref19_Check.calls k _ _ l0 t293 _ ?side1 ?side2 A3.1).mono ?_); (case side1 => repeat (first | exact HR0.1 | (with_reducible refine Kd.C_alloc ?_ _) | (with_reducible refine Kd.C_drewN ?_ _) | (with_reducible refine Kd.C_drew ?_))); (case side2 => exact HC0.1); rintro e w' ⟨rfl, ⟨nd, rfl⟩⟩; refine ⟨_, rfl, ?_⟩))
   go_ret
   exact ⟨by first | rfl | (simp; done) | (simp [*]; done), by repeat (first | exact Drawn0.refl _ | apply Drawn0.step)⟩
 ·rw [if_neg c4] at H
  have c4b0 : (t293 == 0) = false := beq_eq_false_iff_ne.mpr c4
  have c4b1 : (t293 != 0) = true := bne_iff_ne.mpr c4
  obtain rfl := Option.some.inj H
  go_enter Try.func65, Try.ntmps65
  go_wp2_with (first | ((with_reducible refine gate_callee (f := 39) rfl ?_); refine goesL_ (some 6) rfl rfl Try.func39 (by kernel_rfl) rfl #[.slice A0 l0.length c0] rfl (by (try simp only [List.map_toArray, List.map_cons, List.map_nil]); first | done | rfl | (simp only [List.length_drop, List.length_take]; rfl)) ?_; (with_reducible refine (estoversref19_Check.calls k _ _ l0 t293 _ ?side1 ?side2 A3.1).mono ?_); (case side1 => repeat (first | exact HR0.1 | (with_reducible refine Kd.C_alloc ?_ _) | (with_reducible refine Kd.C_drewN ?_ _) | (with_reducible refine Kd.C_drew ?_))); (case side2 => exact HC0.1); rintro e w' ⟨rfl, ⟨nd, rfl⟩⟩; refine ⟨_, rfl, ?_⟩))
  go_ret
  exact ⟨by first | rfl | (simp; done) | (simp [*]; done), by repeat (first | exact Drawn0.refl _ | apply Drawn0.step)⟩
def estoversref19_Path.l0 : Nat → List (S59) → Int → List Int → Option (List Int)
 | 0, _, _, _ => none
 | k + 1, x0, x1, x5 => if x1 ≥ 0 then (if x5.length < 17592186044416 then (if 0 ≤ x1 then (if x1 < (x0.length : Int) then (estoversref19_Path.l0 k x0 ((rd_T59 x0 x1).f0) (x5 ++ [x1])) else (none)) else (none)) else (none)) else (some x5)
def estoversref19_Path.f (k : Nat) (l0 : List (S59)) (a1 : Int) : Option (List Int) := (estoversref19_has.f k l0 a1).bind fun t294 => (if t294 = true then (estoversref19_Path.l0 k l0 a1 ([] : List Int)) else (some ([] : List Int)))
theorem estoversref19_Path.mono_l : ∀ k, (∀ y0 y1 y2, LeO (estoversref19_Path.l0 k y0 y1 y2) (estoversref19_Path.l0 (k + 1) y0 y1 y2))
 | 0 => fun _ _ _ r h => by simp [estoversref19_Path.l0] at h
 | k + 1 => by
  have ih0 := estoversref19_Path.mono_l k
  ·intro y0 y1 y2
   unfold estoversref19_Path.l0
   repeat' first
   | (with_reducible exact ih0 _ _ _)
   | (with_reducible exact estoversref19_has.mono _ _ _)
   | (with_reducible exact LeO.refl _)
   | (with_reducible exact LeO.none _)
   | (with_reducible refine LeO.ite ?_ ?_)
   | (with_reducible refine LeO.bind ?_ (fun _ => ?_))
   | exact ih0 _ _ _
   | exact estoversref19_has.mono _ _ _
   | exact LeO.none _
   | refine LeO.ite ?_ ?_
   | refine LeO.bind ?_ (fun _ => ?_)
theorem estoversref19_Path.mono : ∀ a0 a1 k, LeO (estoversref19_Path.f k a0 a1) (estoversref19_Path.f (k + 1) a0 a1) := by
 intro a0 a1 k
 have ih0 := estoversref19_Path.mono_l k
 unfold estoversref19_Path.f
 repeat' first
   | (with_reducible exact ih0 _ _ _)
   | (with_reducible exact estoversref19_has.mono _ _ _)
   | (with_reducible exact LeO.refl _)
   | (with_reducible exact LeO.none _)
   | (with_reducible refine LeO.ite ?_ ?_)
   | (with_reducible refine LeO.bind ?_ (fun _ => ?_))
   | exact ih0 _ _ _
   | exact estoversref19_has.mono _ _ _
   | exact LeO.none _
   | refine LeO.ite ?_ ?_
   | refine LeO.bind ?_ (fun _ => ?_)
set_option maxHeartbeats 8000000 in
set_option maxRecDepth 100000 in
theorem estoversref19_Path.calls (k : Nat) (A0 : Option Addr) (c0 : Nat) (l0 : List (S59)) (a1 : Int) (r : List Int) (w : World) (hr0 : Kd.C k59 w A0 l0.length l0) (hc0 : l0.length ≤ c0) (h : estoversref19_Path.f k l0 a1 = some r) :
  Calls Try.prog 40 #[.slice A0 l0.length c0, .int .i64 a1] w fun e w' => ∃ v0_ : Value, e = .returned (v0_) ∧ Kd.R (Kd.int .i64) 3 w' w.heap.size (fun _ => True) v0_ r ∧ Below w.heap.size w w' := by
 have HR0 := zM hr0
 have HC0 := zM hc0
 clear hr0 hc0
 have HB := zM (Below.refl w.heap.size w)
 have H : ((estoversref19_has.f k l0 a1).bind fun t294 => (if t294 = true then (estoversref19_Path.l0 k l0 a1 ([] : List Int)) else (some ([] : List Int)))) = some r := h
 clear h
 replace H := Option.bind_eq_some_iff.mp H
 obtain ⟨t294, A30, H⟩ := H
 replace H : (if t294 = true then (estoversref19_Path.l0 k l0 a1 ([] : List Int)) else (some ([] : List Int))) = some r := H
 have A3 := zM A30
 clear A30
 by_cases c4 : t294 = true
 ·subst c4
  have H1 : (estoversref19_Path.l0 k l0 a1 ([] : List Int)) = some r := by rw [if_pos rfl] at H; exact H
  clear H
  have H := H1
  clear H1
  have H' := zM H
  clear H
  go_enter Try.func40, Try.ntmps40
  go_wp2_with (first | ((with_reducible refine gate_callee (f := 65) rfl ?_); refine goesL_ (some 8) rfl rfl Try.func65 (by kernel_rfl) rfl #[.slice A0 l0.length c0, .int .i64 a1] rfl (by (try simp only [List.map_toArray, List.map_cons, List.map_nil]); first | done | rfl | (simp only [List.length_drop, List.length_take]; rfl)) ?_; (with_reducible refine (estoversref19_has.calls k _ _ l0 a1 true _ ?side1 ?side2 A3.1).mono ?_); (case side1 => repeat (first | exact HR0.1 | (with_reducible refine Kd.C_alloc ?_ _) | (with_reducible refine Kd.C_drewN ?_ _) | (with_reducible refine Kd.C_drew ?_))); (case side2 => exact HC0.1); rintro e w' ⟨rfl, ⟨nd, rfl⟩⟩; refine ⟨_, rfl, ?_⟩))
  go_loopg [1, 5] k (fun kq v1 v5 w' => ∃ (x1_1 : Int) (x5_1 : List Int), v1 = .int .i64 x1_1 ∧ Aside0 (estoversref19_Path.l0 kq l0 x1_1 x5_1 = some r) ∧ Aside0 (kq ≤ k) ∧ Aside0 (Kd.R (Kd.int .i64) 3 w' w.heap.size (fun _ => True) v5 x5_1) ∧ Aside0 (Below w.heap.size w w'))
  case atStart => exact ⟨(a1), (([] : List Int)), (by first | rfl | (simp; done) | (simp [*]; done)), H', ⟨Nat.le_refl _⟩, ⟨by first | exact Kd.R_nil _ _ _ _ _ | exact Kd.N_nil _ _ _ _ _ | exact Kd.V_nil _ _ _ _ _ | exact Kd.Q_nil _ _ _ _ _ | exact Kd.S_nil _ _ _ _ _⟩, ⟨by repeat (first | (with_reducible first | exact HB.1 | apply zA | apply zN | apply zD) | exact HB.1)⟩⟩
  case round =>
   clear H'
   try clear p2
   try clear c4
   obtain ⟨x1_1, x5_1, rfl, HA, HK1, HO_5, HB⟩ := hrel
   cases gk with
   | zero => exact absurd HA.1 (by simp [estoversref19_Path.l0])
   | succ k1 =>
    have H := HA.1
    clear HA
    simp only [estoversref19_Path.l0] at H
    by_cases c5 : x1_1 ≥ 0
    ·rw [if_pos c5] at H
     have c5b0 : decide (0 ≤ x1_1) = true := decide_eq_true c5
     clear c5
     by_cases c6 : x5_1.length < 17592186044416
     ·rw [if_pos c6] at H
      have LMc6 := zM c6
      clear c6
      obtain ⟨y295, hy295⟩ : ∃ y_ : List Int, y_ = (x5_1 ++ [x1_1]) := ⟨_, rfl⟩
      replace H : (if 0 ≤ x1_1 then (if x1_1 < (l0.length : Int) then (estoversref19_Path.l0 k1 l0 ((rd_T59 l0 x1_1).f0) y295) else (none)) else (none)) = some r := by first | (rw [hy295]; with_reducible exact H) | (have H2_ := (Option.bind_some _ _).symm.trans H; rw [hy295]; with_reducible exact H2_) | (have H2_ := (Option.bind_some _ _).symm.trans H; with_reducible exact H2_) | with_reducible exact H | (rw [hy295]; exact H) | exact H
      have Ny295 := zM hy295
      clear hy295
      by_cases c7 : 0 ≤ x1_1
      ·rw [if_pos c7] at H
       have c7b0 : decide (0 ≤ x1_1) = true := decide_eq_true c7
       clear c7
       by_cases c8 : x1_1 < (l0.length : Int)
       ·rw [if_pos c8] at H
        have c8b0 : decide (x1_1 < (l0.length : Int)) = true := decide_eq_true c8
        clear c8
        have H' := zM H
        clear H
        go_wp2_with (first | ((with_reducible refine gate_builtin (b := .append) (xs := #[.tmp 12, .tmp 14]) rfl ?_); at_builtin; refine Kd.R_append (Kd.int .i64) (w0 := w) w.heap.size rfl (.tmp 12) (.tmp 14) 73 3 (.int .i64 0) 8 rfl Try.underlying73 info3 rfl (by decide) (by omega) u5 x5_1 x1_1 [.int .i64 x1_1] (fun _ => True) (fun _ => False) rfl rfl ?aP (fun _ hk => hk.elim) ?aF ?aO ?aB ?aS ?aL ?_; (case aP => exact rfl); (case aB => exact (by repeat (first | (with_reducible first | exact HB.1 | apply zA | apply zN | apply zD) | exact HB.1))); (case aF => exact (fun _ _ => trivial)); (case aO => exact (by (with_reducible repeat (first | apply Kd.R_alloc | apply Kd.R_drewN | apply Kd.R_drew)); exact HO_5.1)); (case aS => exact (zz (by repeat (first | (with_reducible first | exact HB.1 | apply zA | apply zN | apply zD) | exact HB.1)))); (case aL => have := LMc6.out; omega); intro v296 w9 ho hb hg hat; rw [← Ny295.out] at ho; have n0_ := zM (hb); have n1_ := zM (ho); clear HB; clear HO_5; have HB := n0_; have HO297 := n1_; clear n0_ n1_; clear ho hb hg hat; have p298 : 0 ≤ (x1_1 : Int) := zo (by first | (with_reducible assumption) | assumption); have q298 : x1_1 < (l0.length : Int) := zo (by first | (with_reducible assumption) | assumption); obtain ⟨ad298, e298, hx298_0, hx298_1, hx298_2, hx298_3, hx298_4⟩ := at_T59 HR0.1 x1_1 p298 q298; cases e298; replace hx298_0 := (HB.1.cell (zL w _ hx298_0)).trans hx298_0; replace hx298_1 := (HB.1.cell (zL w _ hx298_1)).trans hx298_1; replace hx298_2 := (HB.1.cell (zL w _ hx298_2)).trans hx298_2; replace hx298_3 := (HB.1.cell (zL w _ hx298_3)).trans hx298_3; replace hx298_4 := (HB.1.cell (zL w _ hx298_4)).trans hx298_4; replace p298 := eq_true p298; replace q298 := eq_true q298))
        go_roundg k1
        case measure => have := HK1.1; omega
        case rel => exact ⟨((rd_T59 l0 x1_1).f0), (y295), (by first | rfl | (simp; done) | (simp [*]; done)), H', ⟨by have := HK1.1; omega⟩, ⟨by (with_reducible repeat (first | apply Kd.R_alloc | apply Kd.R_drewN | apply Kd.R_drew)); exact HO297.1⟩, ⟨by repeat (first | (with_reducible first | exact HB.1 | apply zA | apply zN | apply zD) | exact HB.1)⟩⟩
       ·rw [if_neg c8] at H
        exact absurd H (by simp)
      ·rw [if_neg c7] at H
       exact absurd H (by simp)
     ·rw [if_neg c6] at H
      exact absurd H (by simp)
    ·rw [if_neg c5] at H
     have c5b0 : decide (0 ≤ x1_1) = false := decide_eq_false c5
     clear c5
     obtain rfl := Option.some.inj H
     go_wp2
     go_ret
     exact ⟨_, by first | rfl | (simp [errW_none, errW_some] <;> rfl) | (simp [*, errW_none, errW_some] <;> rfl), by (with_reducible repeat (first | apply Kd.R_alloc | apply Kd.R_drewN | apply Kd.R_drew)); exact HO_5.1, by repeat (first | (with_reducible first | exact HB.1 | apply zA | apply zN | apply zD) | exact HB.1)⟩
 ·replace c4 := Bool.eq_false_iff.mpr c4
  subst c4
  have H1 : (some ([] : List Int)) = some r := by rw [if_neg (show ¬ (false = true) by decide)] at H; exact H
  clear H
  have H := H1
  clear H1
  obtain rfl := Option.some.inj H
  go_enter Try.func40, Try.ntmps40
  go_wp2_with (first | ((with_reducible refine gate_callee (f := 65) rfl ?_); refine goesL_ (some 8) rfl rfl Try.func65 (by kernel_rfl) rfl #[.slice A0 l0.length c0, .int .i64 a1] rfl (by (try simp only [List.map_toArray, List.map_cons, List.map_nil]); first | done | rfl | (simp only [List.length_drop, List.length_take]; rfl)) ?_; (with_reducible refine (estoversref19_has.calls k _ _ l0 a1 false _ ?side1 ?side2 A3.1).mono ?_); (case side1 => repeat (first | exact HR0.1 | (with_reducible refine Kd.C_alloc ?_ _) | (with_reducible refine Kd.C_drewN ?_ _) | (with_reducible refine Kd.C_drew ?_))); (case side2 => exact HC0.1); rintro e w' ⟨rfl, ⟨nd, rfl⟩⟩; refine ⟨_, rfl, ?_⟩))
  go_ret
  exact ⟨_, by first | rfl | (simp [errW_none, errW_some] <;> rfl) | (simp [*, errW_none, errW_some] <;> rfl), by first | exact Kd.R_nil _ _ _ _ _ | exact Kd.N_nil _ _ _ _ _ | exact Kd.V_nil _ _ _ _ _ | exact Kd.Q_nil _ _ _ _ _ | exact Kd.S_nil _ _ _ _ _, by repeat (first | (with_reducible first | exact HB.1 | apply zA | apply zN | apply zD) | exact HB.1)⟩
def estoversref21_Total.f (a0_0 : Int) (a0_1 : Int) (a0_2 : Int) (a0_3 : Int) : Option (Int) := some (wrap64 (a0_2 + a0_3))
set_option maxHeartbeats 8000000 in
set_option maxRecDepth 100000 in
theorem estoversref21_Total.calls (a0_0 : Int) (a0_1 : Int) (a0_2 : Int) (a0_3 : Int) (r : Int) (w : World) (h : estoversref21_Total.f a0_0 a0_1 a0_2 a0_3 = some r) :
  Calls Try.prog 41 #[.agg #[.int .i64 a0_0, .int .i64 a0_1, .int .i64 a0_2, .int .i64 a0_3]] w fun e w' => e = .returned (.int .i64 r) ∧ Below w.heap.size w w' := by
 have hu37 := Try.underlying37
 have HB := zM (Below.refl w.heap.size w)
 have H : (some (wrap64 (a0_2 + a0_3))) = some r := h
 clear h
 obtain rfl := Option.some.inj H
 go_enter Try.func41, Try.ntmps41
 go_wp2_with (first | ((with_reducible refine gate_dst (N := 1) rfl ?_); refine box_event ?hg (N := 1) ?hd (cs := #[.int .i64 a0_0, .int .i64 a0_1, .int .i64 a0_2, .int .i64 a0_3]) (t := 37) ?hr ?_; (case hd => rfl); (case hg => rfl); (case hr => first | (go_simp; done) | (go_simp; rfl)); intro gb299 hg w2 hbox hb; have n0_ := zM (zT (by repeat (first | (with_reducible first | exact HB.1 | apply zA | apply zN | apply zD) | exact HB.1)) hb); have n1_ := zM (hbox); have n2_ := zM ((by rw [hg]; exact (zz (by repeat (first | (with_reducible first | exact HB.1 | apply zA | apply zN | apply zD) | exact HB.1))) : w.heap.size ≤ gb299)); have n3_ := zM ((by rw [hg]; exact (zz (by repeat (first | (with_reducible first | exact HB.1 | apply zA | apply zN | apply zD) | exact HB.1))) : w.heap.size ≤ gb299)); clear HB; have HB := n0_; have BK299 := n1_; have GW299 := n2_; have GE299 := n3_; clear n0_ n1_ n2_ n3_; clear hb hbox hg; have hcz3_0 : w2.cell? ⟨gb299, 0, none⟩ = some (.int .i64 a0_0) := (zc BK299.1 0).trans rfl; have hcz3_1 : w2.cell? ⟨gb299, 1, none⟩ = some (.int .i64 a0_1) := (zc BK299.1 1).trans rfl; have hcz3_2 : w2.cell? ⟨gb299, 2, none⟩ = some (.int .i64 a0_2) := (zc BK299.1 2).trans rfl; have hcz3_3 : w2.cell? ⟨gb299, 3, none⟩ = some (.int .i64 a0_3) := (zc BK299.1 3).trans rfl; have hfz3_0 := zf BK299.1 0; have hfz3_1 := zf BK299.1 1; have hfz3_2 := zf BK299.1 2; have hfz3_3 := zf BK299.1 3))
 go_ret
 exact ⟨by first | rfl | (simp [errW_none, errW_some] <;> rfl) | (simp [*, errW_none, errW_some] <;> rfl), by repeat (first | (with_reducible first | exact HB.1 | apply zA | apply zN | apply zD | refine zS ?_ GE299.1) | exact HB.1)⟩
end Go.Proofs.Ytimlodcdfekbhaa.PGrantServes
