-- Printed by a copy of the kit's printer that this session has patched (wip/tools/patch_print.py): the session's own text. Lean checks it.
import Derived.Test.YtimlodcdfekbhaaPGrantServesx0
import Derived.Test.YtimlodcdfekbhaaPGrantServesx8
import Derived.Test.YtimlodcdfekbhaaPGrantServesx9
import Derived.Test.YtimlodcdfekbhaaPGrantServesx10
import Derived.Test.YtimlodcdfekbhaaPGrantServesx12
namespace Go.Proofs.Ytimlodcdfekbhaa.PGrantServes
open Go.RowKit Go.Proofs.YtimlodcdfekbhaaW.PrintWords Go.Proofs.YtimlodcdfekbhaaW.PrintLast Go.Proofs.YtimlodcdfekbhaaW.PrintMore
attribute [local go_sem] max2_int min2_int max_two min_two max_three min_three max_four min_four   -- for this text's walks alone
set_option linter.unusedVariables false
set_option linter.unusedSimpArgs false
def estoversref19_Charge.l0 : Nat → List (S59) → Int → Int → List Int → Int → Option ((List (S59)) × Int × Int)
 | 0, _, _, _, _, _ => none
 | k + 1, x0, x1, x2, x10, x11 => if x11 < (x10.length : Int) then (if 0 ≤ x11 then (if 0 ≤ (rd x10 x11) then (if (rd x10 x11) < (x0.length : Int) then (if x2 > (wrap64 (((rd_T59 x0 (rd x10 x11)).f4) - ((rd_T59 x0 (rd x10 x11)).f1))) then (some (([] : List (S59)), rd x10 x11, 17)) else (estoversref19_Charge.l0 k x0 x1 x2 x10 (wrap64 (x11 + 1)))) else (none)) else (none)) else (none)) else ((estoversref19_add.f k x0 x1 x2).bind fun t346 => (some (t346, (-1), 0)))
def estoversref19_Charge.f (k : Nat) (l0 : List (S59)) (a1 : Int) (a2 : Int) : Option ((List (S59)) × Int × Int) := (estoversref19_Check.f k l0).bind fun t335 => (if t335 = 0 then ((estoversref19_has.f k l0 a1).bind fun t336 => (if t336 = true then ((estoversref19_in.f a2).bind fun t337 => (if t337 = true then ((estoversref19_Path.f k l0 a1).bind fun t338 => (estoversref19_Charge.l0 k l0 a1 a2 t338 0)) else (some (([] : List (S59)), (-1), 2)))) else (some (([] : List (S59)), (-1), 6)))) else (some (([] : List (S59)), (-1), t335)))
theorem estoversref19_Charge.mono_l : ∀ k, (∀ y0 y1 y2 y3 y4, LeO (estoversref19_Charge.l0 k y0 y1 y2 y3 y4) (estoversref19_Charge.l0 (k + 1) y0 y1 y2 y3 y4))
 | 0 => fun _ _ _ _ _ r h => by simp [estoversref19_Charge.l0] at h
 | k + 1 => by
  have ih0 := estoversref19_Charge.mono_l k
  ·intro y0 y1 y2 y3 y4
   unfold estoversref19_Charge.l0
   repeat' first
   | (with_reducible exact ih0 _ _ _ _ _)
   | (with_reducible exact estoversref19_Check.mono _ _)
   | (with_reducible exact estoversref19_Path.mono _ _ _)
   | (with_reducible exact estoversref19_add.mono _ _ _ _)
   | (with_reducible exact estoversref19_has.mono _ _ _)
   | (with_reducible exact LeO.refl _)
   | (with_reducible exact LeO.none _)
   | (with_reducible refine LeO.ite ?_ ?_)
   | (with_reducible refine LeO.bind ?_ (fun _ => ?_))
   | exact ih0 _ _ _ _ _
   | exact estoversref19_Check.mono _ _
   | exact estoversref19_Path.mono _ _ _
   | exact estoversref19_add.mono _ _ _ _
   | exact estoversref19_has.mono _ _ _
   | exact LeO.none _
   | refine LeO.ite ?_ ?_
   | refine LeO.bind ?_ (fun _ => ?_)
theorem estoversref19_Charge.mono : ∀ a0 a1 a2 k, LeO (estoversref19_Charge.f k a0 a1 a2) (estoversref19_Charge.f (k + 1) a0 a1 a2) := by
 intro a0 a1 a2 k
 have ih0 := estoversref19_Charge.mono_l k
 unfold estoversref19_Charge.f
 repeat' first
   | (with_reducible exact ih0 _ _ _ _ _)
   | (with_reducible exact estoversref19_Check.mono _ _)
   | (with_reducible exact estoversref19_Path.mono _ _ _)
   | (with_reducible exact estoversref19_add.mono _ _ _ _)
   | (with_reducible exact estoversref19_has.mono _ _ _)
   | (with_reducible exact LeO.refl _)
   | (with_reducible exact LeO.none _)
   | (with_reducible refine LeO.ite ?_ ?_)
   | (with_reducible refine LeO.bind ?_ (fun _ => ?_))
   | exact ih0 _ _ _ _ _
   | exact estoversref19_Check.mono _ _
   | exact estoversref19_Path.mono _ _ _
   | exact estoversref19_add.mono _ _ _ _
   | exact estoversref19_has.mono _ _ _
   | exact LeO.none _
   | refine LeO.ite ?_ ?_
   | refine LeO.bind ?_ (fun _ => ?_)
set_option maxHeartbeats 8000000 in
set_option maxRecDepth 100000 in
theorem estoversref19_Charge.calls (k : Nat) (A0 : Option Addr) (c0 : Nat) (l0 : List (S59)) (a1 : Int) (a2 : Int) (r1 : List (S59)) (r2 : Int) (r3 : Int) (w : World) (hr0 : Kd.C k59 w A0 l0.length l0) (hc0 : l0.length ≤ c0) (h : estoversref19_Charge.f k l0 a1 a2 = some (r1, r2, r3)) :
  Calls Try.prog 47 #[.slice A0 l0.length c0, .int .i64 a1, .int .i64 a2] w fun e w' => ∃ v0_ : Value, e = .returned (.tuple #[v0_, .int .i64 r2, .int .i64 r3]) ∧ Kd.R k59 59 w' w.heap.size (fun _ => True) v0_ r1 ∧ Below w.heap.size w w' := by
 have HR0 := zM hr0
 have HC0 := zM hc0
 clear hr0 hc0
 have HB := zM (Below.refl w.heap.size w)
 have H : ((estoversref19_Check.f k l0).bind fun t335 => (if t335 = 0 then ((estoversref19_has.f k l0 a1).bind fun t336 => (if t336 = true then ((estoversref19_in.f a2).bind fun t337 => (if t337 = true then ((estoversref19_Path.f k l0 a1).bind fun t338 => (estoversref19_Charge.l0 k l0 a1 a2 t338 0)) else (some (([] : List (S59)), (-1), 2)))) else (some (([] : List (S59)), (-1), 6)))) else (some (([] : List (S59)), (-1), t335)))) = some (r1, r2, r3) := h
 clear h
 replace H := Option.bind_eq_some_iff.mp H
 obtain ⟨t335, A40, H⟩ := H
 replace H : (if t335 = 0 then ((estoversref19_has.f k l0 a1).bind fun t336 => (if t336 = true then ((estoversref19_in.f a2).bind fun t337 => (if t337 = true then ((estoversref19_Path.f k l0 a1).bind fun t338 => (estoversref19_Charge.l0 k l0 a1 a2 t338 0)) else (some (([] : List (S59)), (-1), 2)))) else (some (([] : List (S59)), (-1), 6)))) else (some (([] : List (S59)), (-1), t335))) = some (r1, r2, r3) := H
 have A4 := zM A40
 clear A40
 by_cases c5 : t335 = 0
 ·rw [if_pos c5] at H
  have c5b0 : (t335 == 0) = true := beq_iff_eq.mpr c5
  have c5b1 : (t335 != 0) = false := bne_eq_false_iff_eq.mpr c5
  clear c5
  replace H := Option.bind_eq_some_iff.mp H
  obtain ⟨t336, A60, H⟩ := H
  replace H : (if t336 = true then ((estoversref19_in.f a2).bind fun t337 => (if t337 = true then ((estoversref19_Path.f k l0 a1).bind fun t338 => (estoversref19_Charge.l0 k l0 a1 a2 t338 0)) else (some (([] : List (S59)), (-1), 2)))) else (some (([] : List (S59)), (-1), 6))) = some (r1, r2, r3) := H
  have A6 := zM A60
  clear A60
  by_cases c7 : t336 = true
  ·subst c7
   have H1 : ((estoversref19_in.f a2).bind fun t337 => (if t337 = true then ((estoversref19_Path.f k l0 a1).bind fun t338 => (estoversref19_Charge.l0 k l0 a1 a2 t338 0)) else (some (([] : List (S59)), (-1), 2)))) = some (r1, r2, r3) := by rw [if_pos rfl] at H; exact H
   clear H
   have H := H1
   clear H1
   replace H := Option.bind_eq_some_iff.mp H
   obtain ⟨t337, A80, H⟩ := H
   replace H : (if t337 = true then ((estoversref19_Path.f k l0 a1).bind fun t338 => (estoversref19_Charge.l0 k l0 a1 a2 t338 0)) else (some (([] : List (S59)), (-1), 2))) = some (r1, r2, r3) := H
   have A8 := zM A80
   clear A80
   by_cases c9 : t337 = true
   ·subst c9
    have H1 : ((estoversref19_Path.f k l0 a1).bind fun t338 => (estoversref19_Charge.l0 k l0 a1 a2 t338 0)) = some (r1, r2, r3) := by rw [if_pos rfl] at H; exact H
    clear H
    have H := H1
    clear H1
    replace H := Option.bind_eq_some_iff.mp H
    obtain ⟨t338, A100, H⟩ := H
    replace H : (estoversref19_Charge.l0 k l0 a1 a2 t338 0) = some (r1, r2, r3) := H
    have A10 := zM A100
    clear A100
    have H' := zM H
    clear H
    go_enter Try.func47, Try.ntmps47
    go_wp2_with (first | (go_at_call 39; (with_reducible refine (estoversref19_Check.calls k _ _ l0 t335 _ ?side1 ?side2 A4.1).mono ?_); (case side1 => repeat (first | exact HR0.1 | (with_reducible refine Kd.C_alloc ?_ _) | (with_reducible refine Kd.C_drewN ?_ _) | (with_reducible refine Kd.C_drew ?_))); (case side2 => exact HC0.1); rintro e w' ⟨rfl, ⟨nd, rfl⟩⟩; (try first | exact ⟨rfl, _, zw _ _ _⟩ | exact ⟨rfl, _, Eq.trans (zw _ _ _) (congrArg (World.drewN _) (Nat.add_assoc _ _ _))⟩)) | (go_at_call 65; (with_reducible refine (estoversref19_has.calls k _ _ l0 a1 true _ ?side1 ?side2 A6.1).mono ?_); (case side1 => repeat (first | exact HR0.1 | (with_reducible refine Kd.C_alloc ?_ _) | (with_reducible refine Kd.C_drewN ?_ _) | (with_reducible refine Kd.C_drew ?_))); (case side2 => exact HC0.1); rintro e w' ⟨rfl, ⟨nd, rfl⟩⟩; (try first | exact ⟨rfl, _, zw _ _ _⟩ | exact ⟨rfl, _, Eq.trans (zw _ _ _) (congrArg (World.drewN _) (Nat.add_assoc _ _ _))⟩)) | (go_at_call 63; (with_reducible refine (estoversref19_in.calls a2 true _ A8.1).mono ?_); rintro e w' ⟨rfl, ⟨nd, rfl⟩⟩; (try first | exact ⟨rfl, _, zw _ _ _⟩ | exact ⟨rfl, _, Eq.trans (zw _ _ _) (congrArg (World.drewN _) (Nat.add_assoc _ _ _))⟩)) | (go_at_call 40; (with_reducible refine (estoversref19_Path.calls k _ _ l0 a1 t338 _ ?side1 ?side2 A10.1).mono ?_); (case side1 => repeat (first | exact HR0.1 | (with_reducible refine Kd.C_alloc ?_ _) | (with_reducible refine Kd.C_drewN ?_ _) | (with_reducible refine Kd.C_drew ?_))); (case side2 => exact HC0.1); rintro e w11 ⟨v339, rfl, ho0, hb⟩; have n0_ := zM (Kd.R_lower ho0 (zz (by repeat (first | (with_reducible first | exact HB.1 | apply zA | apply zN | apply zD) | exact HB.1)))); have n1_ := zM (zT (by repeat (first | (with_reducible first | exact HB.1 | apply zA | apply zN | apply zD) | exact HB.1)) hb); clear HB; have HO340 := n0_; have HB := n1_; clear n0_ n1_; (try clear hb); (try clear hb2); (try clear hk); (try clear hi); (try clear ho0)))
    repeat (go_quiet (first | (go_at_call 39; (with_reducible refine (estoversref19_Check.calls k _ _ l0 t335 _ ?side1 ?side2 A4.1).mono ?_); (case side1 => repeat (first | exact HR0.1 | (with_reducible refine Kd.C_alloc ?_ _) | (with_reducible refine Kd.C_drewN ?_ _) | (with_reducible refine Kd.C_drew ?_))); (case side2 => exact HC0.1); rintro e w' ⟨rfl, ⟨nd, rfl⟩⟩; (try first | exact ⟨rfl, _, zw _ _ _⟩ | exact ⟨rfl, _, Eq.trans (zw _ _ _) (congrArg (World.drewN _) (Nat.add_assoc _ _ _))⟩)) | (go_at_call 65; (with_reducible refine (estoversref19_has.calls k _ _ l0 a1 true _ ?side1 ?side2 A6.1).mono ?_); (case side1 => repeat (first | exact HR0.1 | (with_reducible refine Kd.C_alloc ?_ _) | (with_reducible refine Kd.C_drewN ?_ _) | (with_reducible refine Kd.C_drew ?_))); (case side2 => exact HC0.1); rintro e w' ⟨rfl, ⟨nd, rfl⟩⟩; (try first | exact ⟨rfl, _, zw _ _ _⟩ | exact ⟨rfl, _, Eq.trans (zw _ _ _) (congrArg (World.drewN _) (Nat.add_assoc _ _ _))⟩)) | (go_at_call 63; (with_reducible refine (estoversref19_in.calls a2 true _ A8.1).mono ?_); rintro e w' ⟨rfl, ⟨nd, rfl⟩⟩; (try first | exact ⟨rfl, _, zw _ _ _⟩ | exact ⟨rfl, _, Eq.trans (zw _ _ _) (congrArg (World.drewN _) (Nat.add_assoc _ _ _))⟩)) | (go_at_call 40; (with_reducible refine (estoversref19_Path.calls k _ _ l0 a1 t338 _ ?side1 ?side2 A10.1).mono ?_); (case side1 => repeat (first | exact HR0.1 | (with_reducible refine Kd.C_alloc ?_ _) | (with_reducible refine Kd.C_drewN ?_ _) | (with_reducible refine Kd.C_drew ?_))); (case side2 => exact HC0.1); rintro e w11 ⟨v339, rfl, ho0, hb⟩; have n0_ := zM (Kd.R_lower ho0 (zz (by repeat (first | (with_reducible first | exact HB.1 | apply zA | apply zN | apply zD) | exact HB.1)))); have n1_ := zM (zT (by repeat (first | (with_reducible first | exact HB.1 | apply zA | apply zN | apply zD) | exact HB.1)) hb); clear HB; have HO340 := n0_; have HB := n1_; clear n0_ n1_; (try clear hb); (try clear hb2); (try clear hk); (try clear hi); (try clear ho0))); try go_wp2_with (first | (go_at_call 39; (with_reducible refine (estoversref19_Check.calls k _ _ l0 t335 _ ?side1 ?side2 A4.1).mono ?_); (case side1 => repeat (first | exact HR0.1 | (with_reducible refine Kd.C_alloc ?_ _) | (with_reducible refine Kd.C_drewN ?_ _) | (with_reducible refine Kd.C_drew ?_))); (case side2 => exact HC0.1); rintro e w' ⟨rfl, ⟨nd, rfl⟩⟩; (try first | exact ⟨rfl, _, zw _ _ _⟩ | exact ⟨rfl, _, Eq.trans (zw _ _ _) (congrArg (World.drewN _) (Nat.add_assoc _ _ _))⟩)) | (go_at_call 65; (with_reducible refine (estoversref19_has.calls k _ _ l0 a1 true _ ?side1 ?side2 A6.1).mono ?_); (case side1 => repeat (first | exact HR0.1 | (with_reducible refine Kd.C_alloc ?_ _) | (with_reducible refine Kd.C_drewN ?_ _) | (with_reducible refine Kd.C_drew ?_))); (case side2 => exact HC0.1); rintro e w' ⟨rfl, ⟨nd, rfl⟩⟩; (try first | exact ⟨rfl, _, zw _ _ _⟩ | exact ⟨rfl, _, Eq.trans (zw _ _ _) (congrArg (World.drewN _) (Nat.add_assoc _ _ _))⟩)) | (go_at_call 63; (with_reducible refine (estoversref19_in.calls a2 true _ A8.1).mono ?_); rintro e w' ⟨rfl, ⟨nd, rfl⟩⟩; (try first | exact ⟨rfl, _, zw _ _ _⟩ | exact ⟨rfl, _, Eq.trans (zw _ _ _) (congrArg (World.drewN _) (Nat.add_assoc _ _ _))⟩)) | (go_at_call 40; (with_reducible refine (estoversref19_Path.calls k _ _ l0 a1 t338 _ ?side1 ?side2 A10.1).mono ?_); (case side1 => repeat (first | exact HR0.1 | (with_reducible refine Kd.C_alloc ?_ _) | (with_reducible refine Kd.C_drewN ?_ _) | (with_reducible refine Kd.C_drew ?_))); (case side2 => exact HC0.1); rintro e w11 ⟨v339, rfl, ho0, hb⟩; have n0_ := zM (Kd.R_lower ho0 (zz (by repeat (first | (with_reducible first | exact HB.1 | apply zA | apply zN | apply zD) | exact HB.1)))); have n1_ := zM (zT (by repeat (first | (with_reducible first | exact HB.1 | apply zA | apply zN | apply zD) | exact HB.1)) hb); clear HB; have HO340 := n0_; have HB := n1_; clear n0_ n1_; (try clear hb); (try clear hb2); (try clear hk); (try clear hi); (try clear ho0))))
    go_loopg [11] k (fun kq v11 w' => ∃ (x11_1 : Int), v11 = .int .i64 x11_1 ∧ Aside0 (estoversref19_Charge.l0 kq l0 a1 a2 t338 x11_1 = some (r1, r2, r3)) ∧ Aside0 (kq ≤ k) ∧ Aside0 (Kd.R (Kd.int .i64) 3 w' w.heap.size (fun _ => True) v339 t338) ∧ Aside0 (Below w.heap.size w w'))
    case atStart => exact ⟨(0), (by first | rfl | (simp; done) | (simp [*]; done)), H', ⟨Nat.le_refl _⟩, ⟨by (with_reducible repeat (first | apply Kd.R_alloc | apply Kd.R_drewN | apply Kd.R_drew)); exact HO340.1⟩, ⟨by repeat (first | (with_reducible first | exact HB.1 | apply zA | apply zN | apply zD) | exact HB.1)⟩⟩
    case round =>
     clear H'
     try clear p2
     try clear c4
     try clear c5
     try clear c5b0
     try clear c5b1
     try clear c7
     try clear c9
     obtain ⟨x11_1, rfl, HA, HK1, HO_10, HB⟩ := hrel
     cases gk with
     | zero => exact absurd HA.1 (by simp [estoversref19_Charge.l0])
     | succ k1 =>
      have H := HA.1
      clear HA
      simp only [estoversref19_Charge.l0] at H
      by_cases c12 : x11_1 < (t338.length : Int)
      ·rw [if_pos c12] at H
       have c12b0 : decide (x11_1 < (t338.length : Int)) = true := decide_eq_true c12
       clear c12
       by_cases c13 : 0 ≤ x11_1
       ·rw [if_pos c13] at H
        have c13b0 : decide (0 ≤ x11_1) = true := decide_eq_true c13
        clear c13
        by_cases c14 : 0 ≤ (rd t338 x11_1)
        ·rw [if_pos c14] at H
         have c14b0 : decide (0 ≤ (rd t338 x11_1)) = true := decide_eq_true c14
         clear c14
         by_cases c15 : (rd t338 x11_1) < (l0.length : Int)
         ·rw [if_pos c15] at H
          have c15b0 : decide ((rd t338 x11_1) < (l0.length : Int)) = true := decide_eq_true c15
          clear c15
          by_cases c16 : a2 > (wrap64 (((rd_T59 l0 (rd t338 x11_1)).f4) - ((rd_T59 l0 (rd t338 x11_1)).f1)))
          ·rw [if_pos c16] at H
           have c16b0 : decide ((wrap64 (((rd_T59 l0 (rd t338 x11_1)).f4) - ((rd_T59 l0 (rd t338 x11_1)).f1))) < a2) = true := decide_eq_true c16
           clear c16
           simp only [Option.some.injEq, Prod.mk.injEq] at H
           obtain ⟨rfl, rfl, rfl⟩ := H
           obtain ⟨Ao17, co17, eo17⟩ := Kd.R_slice HO_10.1
           subst eo17
           have p341 : 0 ≤ (x11_1 : Int) := zo (by first | (with_reducible assumption) | assumption)
           have q341 : x11_1 < (t338.length : Int) := zo (by first | (with_reducible assumption) | assumption)
           obtain ⟨ad341, e341, hx341_0⟩ := Kd.at_int (Kd.R_reads' HO_10.1).2.2 x11_1 p341 q341
           cases e341
           replace p341 := eq_true p341
           replace q341 := eq_true q341
           have p342 : 0 ≤ ((rd t338 x11_1) : Int) := zo (by first | (with_reducible assumption) | assumption)
           have q342 : (rd t338 x11_1) < (l0.length : Int) := zo (by first | (with_reducible assumption) | assumption)
           obtain ⟨ad342, e342, hx342_0, hx342_1, hx342_2, hx342_3, hx342_4⟩ := at_T59 HR0.1 (rd t338 x11_1) p342 q342
           cases e342
           replace hx342_0 := (HB.1.cell (zL w _ hx342_0)).trans hx342_0
           replace hx342_1 := (HB.1.cell (zL w _ hx342_1)).trans hx342_1
           replace hx342_2 := (HB.1.cell (zL w _ hx342_2)).trans hx342_2
           replace hx342_3 := (HB.1.cell (zL w _ hx342_3)).trans hx342_3
           replace hx342_4 := (HB.1.cell (zL w _ hx342_4)).trans hx342_4
           replace p342 := eq_true p342
           replace q342 := eq_true q342
           have p343 : 0 ≤ (x11_1 : Int) := zo (by first | (with_reducible assumption) | assumption)
           have q343 : x11_1 < (t338.length : Int) := zo (by first | (with_reducible assumption) | assumption)
           obtain ⟨ad343, e343, hx343_0⟩ := Kd.at_int (Kd.R_reads' HO_10.1).2.2 x11_1 p343 q343
           obtain rfl : ad341 = ad343 := (by injection e343)
           replace p343 := eq_true p343
           replace q343 := eq_true q343
           have p344 : 0 ≤ ((rd t338 x11_1) : Int) := zo (by first | (with_reducible assumption) | assumption)
           have q344 : (rd t338 x11_1) < (l0.length : Int) := zo (by first | (with_reducible assumption) | assumption)
           obtain ⟨ad344, e344, hx344_0, hx344_1, hx344_2, hx344_3, hx344_4⟩ := at_T59 HR0.1 (rd t338 x11_1) p344 q344
           obtain rfl : ad342 = ad344 := (by injection e344)
           replace hx344_0 := (HB.1.cell (zL w _ hx344_0)).trans hx344_0
           replace hx344_1 := (HB.1.cell (zL w _ hx344_1)).trans hx344_1
           replace hx344_2 := (HB.1.cell (zL w _ hx344_2)).trans hx344_2
           replace hx344_3 := (HB.1.cell (zL w _ hx344_3)).trans hx344_3
           replace hx344_4 := (HB.1.cell (zL w _ hx344_4)).trans hx344_4
           replace p344 := eq_true p344
           replace q344 := eq_true q344
           have p345 : 0 ≤ (x11_1 : Int) := zo (by first | (with_reducible assumption) | assumption)
           have q345 : x11_1 < (t338.length : Int) := zo (by first | (with_reducible assumption) | assumption)
           obtain ⟨ad345, e345, hx345_0⟩ := Kd.at_int (Kd.R_reads' HO_10.1).2.2 x11_1 p345 q345
           obtain rfl : ad341 = ad345 := (by injection e345)
           replace p345 := eq_true p345
           replace q345 := eq_true q345
           go_wp2
           repeat (go_quiet (fail); try go_wp2)
           go_ret3
           exact ⟨_, by first | rfl | (simp [errW_none, errW_some] <;> rfl) | (simp [*, errW_none, errW_some] <;> rfl), by first | exact Kd.R_nil _ _ _ _ _ | exact Kd.N_nil _ _ _ _ _ | exact Kd.V_nil _ _ _ _ _ | exact Kd.Q_nil _ _ _ _ _ | exact Kd.S_nil _ _ _ _ _, by repeat (first | (with_reducible first | exact HB.1 | apply zA | apply zN | apply zD) | exact HB.1)⟩
          ·rw [if_neg c16] at H
           have c16b0 : decide ((wrap64 (((rd_T59 l0 (rd t338 x11_1)).f4) - ((rd_T59 l0 (rd t338 x11_1)).f1))) < a2) = false := decide_eq_false c16
           clear c16
           have H' := zM H
           clear H
           obtain ⟨Ao18, co18, eo18⟩ := Kd.R_slice HO_10.1
           subst eo18
           have p341 : 0 ≤ (x11_1 : Int) := zo (by first | (with_reducible assumption) | assumption)
           have q341 : x11_1 < (t338.length : Int) := zo (by first | (with_reducible assumption) | assumption)
           obtain ⟨ad341, e341, hx341_0⟩ := Kd.at_int (Kd.R_reads' HO_10.1).2.2 x11_1 p341 q341
           cases e341
           replace p341 := eq_true p341
           replace q341 := eq_true q341
           have p342 : 0 ≤ ((rd t338 x11_1) : Int) := zo (by first | (with_reducible assumption) | assumption)
           have q342 : (rd t338 x11_1) < (l0.length : Int) := zo (by first | (with_reducible assumption) | assumption)
           obtain ⟨ad342, e342, hx342_0, hx342_1, hx342_2, hx342_3, hx342_4⟩ := at_T59 HR0.1 (rd t338 x11_1) p342 q342
           cases e342
           replace hx342_0 := (HB.1.cell (zL w _ hx342_0)).trans hx342_0
           replace hx342_1 := (HB.1.cell (zL w _ hx342_1)).trans hx342_1
           replace hx342_2 := (HB.1.cell (zL w _ hx342_2)).trans hx342_2
           replace hx342_3 := (HB.1.cell (zL w _ hx342_3)).trans hx342_3
           replace hx342_4 := (HB.1.cell (zL w _ hx342_4)).trans hx342_4
           replace p342 := eq_true p342
           replace q342 := eq_true q342
           have p343 : 0 ≤ (x11_1 : Int) := zo (by first | (with_reducible assumption) | assumption)
           have q343 : x11_1 < (t338.length : Int) := zo (by first | (with_reducible assumption) | assumption)
           obtain ⟨ad343, e343, hx343_0⟩ := Kd.at_int (Kd.R_reads' HO_10.1).2.2 x11_1 p343 q343
           obtain rfl : ad341 = ad343 := (by injection e343)
           replace p343 := eq_true p343
           replace q343 := eq_true q343
           have p344 : 0 ≤ ((rd t338 x11_1) : Int) := zo (by first | (with_reducible assumption) | assumption)
           have q344 : (rd t338 x11_1) < (l0.length : Int) := zo (by first | (with_reducible assumption) | assumption)
           obtain ⟨ad344, e344, hx344_0, hx344_1, hx344_2, hx344_3, hx344_4⟩ := at_T59 HR0.1 (rd t338 x11_1) p344 q344
           obtain rfl : ad342 = ad344 := (by injection e344)
           replace hx344_0 := (HB.1.cell (zL w _ hx344_0)).trans hx344_0
           replace hx344_1 := (HB.1.cell (zL w _ hx344_1)).trans hx344_1
           replace hx344_2 := (HB.1.cell (zL w _ hx344_2)).trans hx344_2
           replace hx344_3 := (HB.1.cell (zL w _ hx344_3)).trans hx344_3
           replace hx344_4 := (HB.1.cell (zL w _ hx344_4)).trans hx344_4
           replace p344 := eq_true p344
           replace q344 := eq_true q344
           go_wp2
           repeat (go_quiet (fail); try go_wp2)
           go_roundg k1
           case measure => have := HK1.1; omega
           case rel => exact ⟨(wrap64 (x11_1 + 1)), (by first | rfl | (simp; done) | (simp [*]; done)), H', ⟨by have := HK1.1; omega⟩, ⟨by (with_reducible repeat (first | apply Kd.R_alloc | apply Kd.R_drewN | apply Kd.R_drew)); exact HO_10.1⟩, ⟨by repeat (first | (with_reducible first | exact HB.1 | apply zA | apply zN | apply zD) | exact HB.1)⟩⟩
         ·rw [if_neg c15] at H
          exact absurd H (by simp)
        ·rw [if_neg c14] at H
         exact absurd H (by simp)
       ·rw [if_neg c13] at H
        exact absurd H (by simp)
      ·rw [if_neg c12] at H
       have c12b0 : decide (x11_1 < (t338.length : Int)) = false := decide_eq_false c12
       clear c12
       replace H := Option.bind_eq_some_iff.mp H
       obtain ⟨t346, A190, H⟩ := H
       replace H : (some (t346, (-1), 0)) = some (r1, r2, r3) := H
       have A19 := zM A190
       clear A190
       simp only [Option.some.injEq, Prod.mk.injEq] at H
       obtain ⟨rfl, rfl, rfl⟩ := H
       obtain ⟨Ao20, co20, eo20⟩ := Kd.R_slice HO_10.1
       subst eo20
       go_wp2_with (first | (go_at_call 67; (with_reducible refine (estoversref19_add.calls k1 _ _ l0 a1 a2 t346 _ ?side1 ?side2 A19.1).mono ?_); (case side1 => repeat (first | exact (Kd.C_below HR0.1 HB.1) | (with_reducible refine Kd.C_alloc ?_ _) | (with_reducible refine Kd.C_drewN ?_ _) | (with_reducible refine Kd.C_drew ?_))); (case side2 => exact HC0.1); rintro e w21 ⟨v347, rfl, ho0, hb⟩; have n0_ := zM (Kd.R_below (by (with_reducible repeat (first | apply Kd.R_alloc | apply Kd.R_drewN | apply Kd.R_drew)); exact HO_10.1) hb); have n1_ := zM (Kd.R_lower ho0 (zz (by repeat (first | (with_reducible first | exact HB.1 | apply zA | apply zN | apply zD) | exact HB.1)))); have n2_ := zM (zT (by repeat (first | (with_reducible first | exact HB.1 | apply zA | apply zN | apply zD) | exact HB.1)) hb); clear HO_10; clear HB; have HO_10 := n0_; have HO348 := n1_; have HB := n2_; clear n0_ n1_ n2_; (try clear hb); (try clear hb2); (try clear hk); (try clear hi); (try clear ho0)))
       repeat (go_quiet (first | (go_at_call 67; (with_reducible refine (estoversref19_add.calls k1 _ _ l0 a1 a2 t346 _ ?side1 ?side2 A19.1).mono ?_); (case side1 => repeat (first | exact (Kd.C_below HR0.1 HB.1) | (with_reducible refine Kd.C_alloc ?_ _) | (with_reducible refine Kd.C_drewN ?_ _) | (with_reducible refine Kd.C_drew ?_))); (case side2 => exact HC0.1); rintro e w21 ⟨v347, rfl, ho0, hb⟩; have n0_ := zM (Kd.R_below (by (with_reducible repeat (first | apply Kd.R_alloc | apply Kd.R_drewN | apply Kd.R_drew)); exact HO_10.1) hb); have n1_ := zM (Kd.R_lower ho0 (zz (by repeat (first | (with_reducible first | exact HB.1 | apply zA | apply zN | apply zD) | exact HB.1)))); have n2_ := zM (zT (by repeat (first | (with_reducible first | exact HB.1 | apply zA | apply zN | apply zD) | exact HB.1)) hb); clear HO_10; clear HB; have HO_10 := n0_; have HO348 := n1_; have HB := n2_; clear n0_ n1_ n2_; (try clear hb); (try clear hb2); (try clear hk); (try clear hi); (try clear ho0))); try go_wp2_with (first | (go_at_call 67; (with_reducible refine (estoversref19_add.calls k1 _ _ l0 a1 a2 t346 _ ?side1 ?side2 A19.1).mono ?_); (case side1 => repeat (first | exact (Kd.C_below HR0.1 HB.1) | (with_reducible refine Kd.C_alloc ?_ _) | (with_reducible refine Kd.C_drewN ?_ _) | (with_reducible refine Kd.C_drew ?_))); (case side2 => exact HC0.1); rintro e w21 ⟨v347, rfl, ho0, hb⟩; have n0_ := zM (Kd.R_below (by (with_reducible repeat (first | apply Kd.R_alloc | apply Kd.R_drewN | apply Kd.R_drew)); exact HO_10.1) hb); have n1_ := zM (Kd.R_lower ho0 (zz (by repeat (first | (with_reducible first | exact HB.1 | apply zA | apply zN | apply zD) | exact HB.1)))); have n2_ := zM (zT (by repeat (first | (with_reducible first | exact HB.1 | apply zA | apply zN | apply zD) | exact HB.1)) hb); clear HO_10; clear HB; have HO_10 := n0_; have HO348 := n1_; have HB := n2_; clear n0_ n1_ n2_; (try clear hb); (try clear hb2); (try clear hk); (try clear hi); (try clear ho0))))
       go_ret3
       exact ⟨_, by first | rfl | (simp [errW_none, errW_some] <;> rfl) | (simp [*, errW_none, errW_some] <;> rfl), by (with_reducible repeat (first | apply Kd.R_alloc | apply Kd.R_drewN | apply Kd.R_drew)); exact HO348.1, by repeat (first | (with_reducible first | exact HB.1 | apply zA | apply zN | apply zD) | exact HB.1)⟩
   ·replace c9 := Bool.eq_false_iff.mpr c9
    subst c9
    have H1 : (some (([] : List (S59)), (-1), 2)) = some (r1, r2, r3) := by rw [if_neg (show ¬ (false = true) by decide)] at H; exact H
    clear H
    have H := H1
    clear H1
    simp only [Option.some.injEq, Prod.mk.injEq] at H
    obtain ⟨rfl, rfl, rfl⟩ := H
    go_enter Try.func47, Try.ntmps47
    go_wp2_with (first | (go_at_call 39; (with_reducible refine (estoversref19_Check.calls k _ _ l0 t335 _ ?side1 ?side2 A4.1).mono ?_); (case side1 => repeat (first | exact HR0.1 | (with_reducible refine Kd.C_alloc ?_ _) | (with_reducible refine Kd.C_drewN ?_ _) | (with_reducible refine Kd.C_drew ?_))); (case side2 => exact HC0.1); rintro e w' ⟨rfl, ⟨nd, rfl⟩⟩; (try first | exact ⟨rfl, _, zw _ _ _⟩ | exact ⟨rfl, _, Eq.trans (zw _ _ _) (congrArg (World.drewN _) (Nat.add_assoc _ _ _))⟩)) | (go_at_call 65; (with_reducible refine (estoversref19_has.calls k _ _ l0 a1 true _ ?side1 ?side2 A6.1).mono ?_); (case side1 => repeat (first | exact HR0.1 | (with_reducible refine Kd.C_alloc ?_ _) | (with_reducible refine Kd.C_drewN ?_ _) | (with_reducible refine Kd.C_drew ?_))); (case side2 => exact HC0.1); rintro e w' ⟨rfl, ⟨nd, rfl⟩⟩; (try first | exact ⟨rfl, _, zw _ _ _⟩ | exact ⟨rfl, _, Eq.trans (zw _ _ _) (congrArg (World.drewN _) (Nat.add_assoc _ _ _))⟩)) | (go_at_call 63; (with_reducible refine (estoversref19_in.calls a2 false _ A8.1).mono ?_); rintro e w' ⟨rfl, ⟨nd, rfl⟩⟩; (try first | exact ⟨rfl, _, zw _ _ _⟩ | exact ⟨rfl, _, Eq.trans (zw _ _ _) (congrArg (World.drewN _) (Nat.add_assoc _ _ _))⟩)))
    repeat (go_quiet (first | (go_at_call 39; (with_reducible refine (estoversref19_Check.calls k _ _ l0 t335 _ ?side1 ?side2 A4.1).mono ?_); (case side1 => repeat (first | exact HR0.1 | (with_reducible refine Kd.C_alloc ?_ _) | (with_reducible refine Kd.C_drewN ?_ _) | (with_reducible refine Kd.C_drew ?_))); (case side2 => exact HC0.1); rintro e w' ⟨rfl, ⟨nd, rfl⟩⟩; (try first | exact ⟨rfl, _, zw _ _ _⟩ | exact ⟨rfl, _, Eq.trans (zw _ _ _) (congrArg (World.drewN _) (Nat.add_assoc _ _ _))⟩)) | (go_at_call 65; (with_reducible refine (estoversref19_has.calls k _ _ l0 a1 true _ ?side1 ?side2 A6.1).mono ?_); (case side1 => repeat (first | exact HR0.1 | (with_reducible refine Kd.C_alloc ?_ _) | (with_reducible refine Kd.C_drewN ?_ _) | (with_reducible refine Kd.C_drew ?_))); (case side2 => exact HC0.1); rintro e w' ⟨rfl, ⟨nd, rfl⟩⟩; (try first | exact ⟨rfl, _, zw _ _ _⟩ | exact ⟨rfl, _, Eq.trans (zw _ _ _) (congrArg (World.drewN _) (Nat.add_assoc _ _ _))⟩)) | (go_at_call 63; (with_reducible refine (estoversref19_in.calls a2 false _ A8.1).mono ?_); rintro e w' ⟨rfl, ⟨nd, rfl⟩⟩; (try first | exact ⟨rfl, _, zw _ _ _⟩ | exact ⟨rfl, _, Eq.trans (zw _ _ _) (congrArg (World.drewN _) (Nat.add_assoc _ _ _))⟩))); try go_wp2_with (first | (go_at_call 39; (with_reducible refine (estoversref19_Check.calls k _ _ l0 t335 _ ?side1 ?side2 A4.1).mono ?_); (case side1 => repeat (first | exact HR0.1 | (with_reducible refine Kd.C_alloc ?_ _) | (with_reducible refine Kd.C_drewN ?_ _) | (with_reducible refine Kd.C_drew ?_))); (case side2 => exact HC0.1); rintro e w' ⟨rfl, ⟨nd, rfl⟩⟩; (try first | exact ⟨rfl, _, zw _ _ _⟩ | exact ⟨rfl, _, Eq.trans (zw _ _ _) (congrArg (World.drewN _) (Nat.add_assoc _ _ _))⟩)) | (go_at_call 65; (with_reducible refine (estoversref19_has.calls k _ _ l0 a1 true _ ?side1 ?side2 A6.1).mono ?_); (case side1 => repeat (first | exact HR0.1 | (with_reducible refine Kd.C_alloc ?_ _) | (with_reducible refine Kd.C_drewN ?_ _) | (with_reducible refine Kd.C_drew ?_))); (case side2 => exact HC0.1); rintro e w' ⟨rfl, ⟨nd, rfl⟩⟩; (try first | exact ⟨rfl, _, zw _ _ _⟩ | exact ⟨rfl, _, Eq.trans (zw _ _ _) (congrArg (World.drewN _) (Nat.add_assoc _ _ _))⟩)) | (go_at_call 63; (with_reducible refine (estoversref19_in.calls a2 false _ A8.1).mono ?_); rintro e w' ⟨rfl, ⟨nd, rfl⟩⟩; (try first | exact ⟨rfl, _, zw _ _ _⟩ | exact ⟨rfl, _, Eq.trans (zw _ _ _) (congrArg (World.drewN _) (Nat.add_assoc _ _ _))⟩))))
    go_ret3
    exact ⟨_, by first | rfl | (simp [errW_none, errW_some] <;> rfl) | (simp [*, errW_none, errW_some] <;> rfl), by first | exact Kd.R_nil _ _ _ _ _ | exact Kd.N_nil _ _ _ _ _ | exact Kd.V_nil _ _ _ _ _ | exact Kd.Q_nil _ _ _ _ _ | exact Kd.S_nil _ _ _ _ _, by repeat (first | (with_reducible first | exact HB.1 | apply zA | apply zN | apply zD) | exact HB.1)⟩
  ·replace c7 := Bool.eq_false_iff.mpr c7
   subst c7
   have H1 : (some (([] : List (S59)), (-1), 6)) = some (r1, r2, r3) := by rw [if_neg (show ¬ (false = true) by decide)] at H; exact H
   clear H
   have H := H1
   clear H1
   simp only [Option.some.injEq, Prod.mk.injEq] at H
   obtain ⟨rfl, rfl, rfl⟩ := H
   go_enter Try.func47, Try.ntmps47
   go_wp2_with (first | (go_at_call 39; (with_reducible refine (estoversref19_Check.calls k _ _ l0 t335 _ ?side1 ?side2 A4.1).mono ?_); (case side1 => repeat (first | exact HR0.1 | (with_reducible refine Kd.C_alloc ?_ _) | (with_reducible refine Kd.C_drewN ?_ _) | (with_reducible refine Kd.C_drew ?_))); (case side2 => exact HC0.1); rintro e w' ⟨rfl, ⟨nd, rfl⟩⟩; (try first | exact ⟨rfl, _, zw _ _ _⟩ | exact ⟨rfl, _, Eq.trans (zw _ _ _) (congrArg (World.drewN _) (Nat.add_assoc _ _ _))⟩)) | (go_at_call 65; (with_reducible refine (estoversref19_has.calls k _ _ l0 a1 false _ ?side1 ?side2 A6.1).mono ?_); (case side1 => repeat (first | exact HR0.1 | (with_reducible refine Kd.C_alloc ?_ _) | (with_reducible refine Kd.C_drewN ?_ _) | (with_reducible refine Kd.C_drew ?_))); (case side2 => exact HC0.1); rintro e w' ⟨rfl, ⟨nd, rfl⟩⟩; (try first | exact ⟨rfl, _, zw _ _ _⟩ | exact ⟨rfl, _, Eq.trans (zw _ _ _) (congrArg (World.drewN _) (Nat.add_assoc _ _ _))⟩)))
   repeat (go_quiet (first | (go_at_call 39; (with_reducible refine (estoversref19_Check.calls k _ _ l0 t335 _ ?side1 ?side2 A4.1).mono ?_); (case side1 => repeat (first | exact HR0.1 | (with_reducible refine Kd.C_alloc ?_ _) | (with_reducible refine Kd.C_drewN ?_ _) | (with_reducible refine Kd.C_drew ?_))); (case side2 => exact HC0.1); rintro e w' ⟨rfl, ⟨nd, rfl⟩⟩; (try first | exact ⟨rfl, _, zw _ _ _⟩ | exact ⟨rfl, _, Eq.trans (zw _ _ _) (congrArg (World.drewN _) (Nat.add_assoc _ _ _))⟩)) | (go_at_call 65; (with_reducible refine (estoversref19_has.calls k _ _ l0 a1 false _ ?side1 ?side2 A6.1).mono ?_); (case side1 => repeat (first | exact HR0.1 | (with_reducible refine Kd.C_alloc ?_ _) | (with_reducible refine Kd.C_drewN ?_ _) | (with_reducible refine Kd.C_drew ?_))); (case side2 => exact HC0.1); rintro e w' ⟨rfl, ⟨nd, rfl⟩⟩; (try first | exact ⟨rfl, _, zw _ _ _⟩ | exact ⟨rfl, _, Eq.trans (zw _ _ _) (congrArg (World.drewN _) (Nat.add_assoc _ _ _))⟩))); try go_wp2_with (first | (go_at_call 39; (with_reducible refine (estoversref19_Check.calls k _ _ l0 t335 _ ?side1 ?side2 A4.1).mono ?_); (case side1 => repeat (first | exact HR0.1 | (with_reducible refine Kd.C_alloc ?_ _) | (with_reducible refine Kd.C_drewN ?_ _) | (with_reducible refine Kd.C_drew ?_))); (case side2 => exact HC0.1); rintro e w' ⟨rfl, ⟨nd, rfl⟩⟩; (try first | exact ⟨rfl, _, zw _ _ _⟩ | exact ⟨rfl, _, Eq.trans (zw _ _ _) (congrArg (World.drewN _) (Nat.add_assoc _ _ _))⟩)) | (go_at_call 65; (with_reducible refine (estoversref19_has.calls k _ _ l0 a1 false _ ?side1 ?side2 A6.1).mono ?_); (case side1 => repeat (first | exact HR0.1 | (with_reducible refine Kd.C_alloc ?_ _) | (with_reducible refine Kd.C_drewN ?_ _) | (with_reducible refine Kd.C_drew ?_))); (case side2 => exact HC0.1); rintro e w' ⟨rfl, ⟨nd, rfl⟩⟩; (try first | exact ⟨rfl, _, zw _ _ _⟩ | exact ⟨rfl, _, Eq.trans (zw _ _ _) (congrArg (World.drewN _) (Nat.add_assoc _ _ _))⟩))))
   go_ret3
   exact ⟨_, by first | rfl | (simp [errW_none, errW_some] <;> rfl) | (simp [*, errW_none, errW_some] <;> rfl), by first | exact Kd.R_nil _ _ _ _ _ | exact Kd.N_nil _ _ _ _ _ | exact Kd.V_nil _ _ _ _ _ | exact Kd.Q_nil _ _ _ _ _ | exact Kd.S_nil _ _ _ _ _, by repeat (first | (with_reducible first | exact HB.1 | apply zA | apply zN | apply zD) | exact HB.1)⟩
 ·rw [if_neg c5] at H
  have c5b0 : (t335 == 0) = false := beq_eq_false_iff_ne.mpr c5
  have c5b1 : (t335 != 0) = true := bne_iff_ne.mpr c5
  simp only [Option.some.injEq, Prod.mk.injEq] at H
  obtain ⟨rfl, rfl, rfl⟩ := H
  go_enter Try.func47, Try.ntmps47
  go_wp2_with (first | (go_at_call 39; (with_reducible refine (estoversref19_Check.calls k _ _ l0 t335 _ ?side1 ?side2 A4.1).mono ?_); (case side1 => repeat (first | exact HR0.1 | (with_reducible refine Kd.C_alloc ?_ _) | (with_reducible refine Kd.C_drewN ?_ _) | (with_reducible refine Kd.C_drew ?_))); (case side2 => exact HC0.1); rintro e w' ⟨rfl, ⟨nd, rfl⟩⟩; (try first | exact ⟨rfl, _, zw _ _ _⟩ | exact ⟨rfl, _, Eq.trans (zw _ _ _) (congrArg (World.drewN _) (Nat.add_assoc _ _ _))⟩)))
  repeat (go_quiet (first | (go_at_call 39; (with_reducible refine (estoversref19_Check.calls k _ _ l0 t335 _ ?side1 ?side2 A4.1).mono ?_); (case side1 => repeat (first | exact HR0.1 | (with_reducible refine Kd.C_alloc ?_ _) | (with_reducible refine Kd.C_drewN ?_ _) | (with_reducible refine Kd.C_drew ?_))); (case side2 => exact HC0.1); rintro e w' ⟨rfl, ⟨nd, rfl⟩⟩; (try first | exact ⟨rfl, _, zw _ _ _⟩ | exact ⟨rfl, _, Eq.trans (zw _ _ _) (congrArg (World.drewN _) (Nat.add_assoc _ _ _))⟩))); try go_wp2_with (first | (go_at_call 39; (with_reducible refine (estoversref19_Check.calls k _ _ l0 t335 _ ?side1 ?side2 A4.1).mono ?_); (case side1 => repeat (first | exact HR0.1 | (with_reducible refine Kd.C_alloc ?_ _) | (with_reducible refine Kd.C_drewN ?_ _) | (with_reducible refine Kd.C_drew ?_))); (case side2 => exact HC0.1); rintro e w' ⟨rfl, ⟨nd, rfl⟩⟩; (try first | exact ⟨rfl, _, zw _ _ _⟩ | exact ⟨rfl, _, Eq.trans (zw _ _ _) (congrArg (World.drewN _) (Nat.add_assoc _ _ _))⟩))))
  go_ret3
  exact ⟨_, by first | rfl | (simp [errW_none, errW_some] <;> rfl) | (simp [*, errW_none, errW_some] <;> rfl), by first | exact Kd.R_nil _ _ _ _ _ | exact Kd.N_nil _ _ _ _ _ | exact Kd.V_nil _ _ _ _ _ | exact Kd.Q_nil _ _ _ _ _ | exact Kd.S_nil _ _ _ _ _, by repeat (first | (with_reducible first | exact HB.1 | apply zA | apply zN | apply zD) | exact HB.1)⟩
end Go.Proofs.Ytimlodcdfekbhaa.PGrantServes
