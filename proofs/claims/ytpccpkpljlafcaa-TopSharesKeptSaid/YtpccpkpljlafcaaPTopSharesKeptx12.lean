-- Printed by a copy of the kit's printer that this session has patched (wip/tools/patch_print.py): the session's own text. Lean checks it.
import Derived.Test.YtpccpkpljlafcaaPTopSharesKeptx0
import Derived.Test.YtpccpkpljlafcaaPTopSharesKeptx10
import Derived.Test.YtpccpkpljlafcaaPTopSharesKeptx11
namespace Go.Proofs.Ytpccpkpljlafcaa.PTopSharesKept
open Go.RowKit Go.Proofs.YtpccpkpljlafcaaW.PrintWords Go.Proofs.YtpccpkpljlafcaaW.PrintLast Go.Proofs.YtpccpkpljlafcaaW.PrintMore
attribute [local go_sem] max2_int min2_int max_two min_two max_three min_three max_four min_four   -- for this text's walks alone
set_option linter.unusedVariables false
set_option linter.unusedSimpArgs false
def estoversref19_has.f (k : Nat) (l0 : List (S53)) (a1 : Int) : Option (Bool) := (estoversref19_Check.f k l0).bind fun t218 => (if t218 = 0 then (if a1 ≥ 0 then (some (decide (a1 < (l0.length : Int)))) else (some false)) else (some false))
theorem estoversref19_has.mono : ∀ a0 a1 k, LeO (estoversref19_has.f k a0 a1) (estoversref19_has.f (k + 1) a0 a1) := by
 intro a0 a1 k
 unfold estoversref19_has.f
 repeat' first
   | (with_reducible exact estoversref19_Check.mono _ _)
   | (with_reducible exact LeO.refl _)
   | (with_reducible exact LeO.none _)
   | (with_reducible refine LeO.ite ?_ ?_)
   | (with_reducible refine LeO.bind ?_ (fun _ => ?_))
   | exact estoversref19_Check.mono _ _
   | exact LeO.none _
   | refine LeO.ite ?_ ?_
   | refine LeO.bind ?_ (fun _ => ?_)
set_option maxHeartbeats 8000000 in
set_option maxRecDepth 100000 in
theorem estoversref19_has.calls (k : Nat) (A0 : Option Addr) (c0 : Nat) (l0 : List (S53)) (a1 : Int) (r : Bool) (w : World) (hr0 : Kd.C k53 w A0 l0.length l0) (hc0 : l0.length ≤ c0) (h : estoversref19_has.f k l0 a1 = some r) :
  Calls Try.prog 53 #[.slice A0 l0.length c0, .int .i64 a1] w fun e w' => e = .returned (.bool r) ∧ Drawn0 w w' := by
 have HR0 := Aside0.mk hr0
 have HC0 := Aside0.mk hc0
 clear hr0 hc0
 have H : ((estoversref19_Check.f k l0).bind fun t218 => (if t218 = 0 then (if a1 ≥ 0 then (some (decide (a1 < (l0.length : Int)))) else (some false)) else (some false))) = some r := h
 clear h
 replace H := Option.bind_eq_some_iff.mp H
 obtain ⟨t218, A30, H⟩ := H
 replace H : (if t218 = 0 then (if a1 ≥ 0 then (some (decide (a1 < (l0.length : Int)))) else (some false)) else (some false)) = some r := H
 have A3 := Aside0.mk A30
 clear A30
 by_cases c4 : t218 = 0
 ·rw [if_pos c4] at H
  have c4b0 : (t218 == 0) = true := beq_iff_eq.mpr c4
  have c4b1 : (t218 != 0) = false := bne_eq_false_iff_eq.mpr c4
  clear c4
  by_cases c5 : a1 ≥ 0
  ·rw [if_pos c5] at H
   have c5b0 : decide (0 ≤ a1) = true := decide_eq_true c5
   clear c5
   obtain rfl := Option.some.inj H
   go_enter Try.func53, Try.ntmps53
   go_wp2_with (first | ((with_reducible refine gate_callee (f := 8) rfl ?_); refine goesL_ (some 6) rfl rfl Try.func8 (by kernel_rfl) rfl #[.slice A0 l0.length c0] rfl (by (try simp only [List.map_toArray, List.map_cons, List.map_nil]); first | done | rfl | (simp only [List.length_drop, List.length_take]; rfl)) ?_; (with_reducible refine (estoversref19_Check.calls k _ _ l0 t218 _ ?side1 ?side2 A3.out).mono ?_); (case side1 => repeat (first | exact HR0.out | (with_reducible refine Kd.C_alloc ?_ _) | (with_reducible refine Kd.C_drewN ?_ _) | (with_reducible refine Kd.C_drew ?_))); (case side2 => exact HC0.out); rintro e w' ⟨rfl, ⟨nd, rfl⟩⟩; refine ⟨_, rfl, ?_⟩))
   go_ret
   exact ⟨by first | rfl | (simp; done) | (simp [*]; done), by repeat (first | exact Drawn0.refl _ | apply Drawn0.step)⟩
  ·rw [if_neg c5] at H
   have c5b0 : decide (0 ≤ a1) = false := decide_eq_false c5
   clear c5
   obtain rfl := Option.some.inj H
   go_enter Try.func53, Try.ntmps53
   go_wp2_with (first | ((with_reducible refine gate_callee (f := 8) rfl ?_); refine goesL_ (some 6) rfl rfl Try.func8 (by kernel_rfl) rfl #[.slice A0 l0.length c0] rfl (by (try simp only [List.map_toArray, List.map_cons, List.map_nil]); first | done | rfl | (simp only [List.length_drop, List.length_take]; rfl)) ?_; (with_reducible refine (estoversref19_Check.calls k _ _ l0 t218 _ ?side1 ?side2 A3.out).mono ?_); (case side1 => repeat (first | exact HR0.out | (with_reducible refine Kd.C_alloc ?_ _) | (with_reducible refine Kd.C_drewN ?_ _) | (with_reducible refine Kd.C_drew ?_))); (case side2 => exact HC0.out); rintro e w' ⟨rfl, ⟨nd, rfl⟩⟩; refine ⟨_, rfl, ?_⟩))
   go_ret
   exact ⟨by first | rfl | (simp; done) | (simp [*]; done), by repeat (first | exact Drawn0.refl _ | apply Drawn0.step)⟩
 ·rw [if_neg c4] at H
  have c4b0 : (t218 == 0) = false := beq_eq_false_iff_ne.mpr c4
  have c4b1 : (t218 != 0) = true := bne_iff_ne.mpr c4
  obtain rfl := Option.some.inj H
  go_enter Try.func53, Try.ntmps53
  go_wp2_with (first | ((with_reducible refine gate_callee (f := 8) rfl ?_); refine goesL_ (some 6) rfl rfl Try.func8 (by kernel_rfl) rfl #[.slice A0 l0.length c0] rfl (by (try simp only [List.map_toArray, List.map_cons, List.map_nil]); first | done | rfl | (simp only [List.length_drop, List.length_take]; rfl)) ?_; (with_reducible refine (estoversref19_Check.calls k _ _ l0 t218 _ ?side1 ?side2 A3.out).mono ?_); (case side1 => repeat (first | exact HR0.out | (with_reducible refine Kd.C_alloc ?_ _) | (with_reducible refine Kd.C_drewN ?_ _) | (with_reducible refine Kd.C_drew ?_))); (case side2 => exact HC0.out); rintro e w' ⟨rfl, ⟨nd, rfl⟩⟩; refine ⟨_, rfl, ?_⟩))
  go_ret
  exact ⟨by first | rfl | (simp; done) | (simp [*]; done), by repeat (first | exact Drawn0.refl _ | apply Drawn0.step)⟩
def estoversref19_Own.f (k : Nat) (l0 : List (S53)) (a1 : Int) : Option (Int) := (estoversref19_has.f k l0 a1).bind fun t219 => (if t219 = true then (if 0 ≤ a1 then (if a1 < (l0.length : Int) then ((estoversref19_kids.f k l0 a1).bind fun t221 => (some (wrap64 (((rd_T53 l0 a1).f1) - t221)))) else (none)) else (none)) else (some (-1)))
theorem estoversref19_Own.mono : ∀ a0 a1 k, LeO (estoversref19_Own.f k a0 a1) (estoversref19_Own.f (k + 1) a0 a1) := by
 intro a0 a1 k
 unfold estoversref19_Own.f
 repeat' first
   | (with_reducible exact estoversref19_has.mono _ _ _)
   | (with_reducible exact estoversref19_kids.mono _ _ _)
   | (with_reducible exact LeO.refl _)
   | (with_reducible exact LeO.none _)
   | (with_reducible refine LeO.ite ?_ ?_)
   | (with_reducible refine LeO.bind ?_ (fun _ => ?_))
   | exact estoversref19_has.mono _ _ _
   | exact estoversref19_kids.mono _ _ _
   | exact LeO.none _
   | refine LeO.ite ?_ ?_
   | refine LeO.bind ?_ (fun _ => ?_)
set_option maxHeartbeats 8000000 in
set_option maxRecDepth 100000 in
theorem estoversref19_Own.calls (k : Nat) (A0 : Option Addr) (c0 : Nat) (l0 : List (S53)) (a1 : Int) (r : Int) (w : World) (hr0 : Kd.C k53 w A0 l0.length l0) (hc0 : l0.length ≤ c0) (h : estoversref19_Own.f k l0 a1 = some r) :
  Calls Try.prog 36 #[.slice A0 l0.length c0, .int .i64 a1] w fun e w' => e = .returned (.int .i64 r) ∧ Drawn0 w w' := by
 have HR0 := Aside0.mk hr0
 have HC0 := Aside0.mk hc0
 clear hr0 hc0
 have H : ((estoversref19_has.f k l0 a1).bind fun t219 => (if t219 = true then (if 0 ≤ a1 then (if a1 < (l0.length : Int) then ((estoversref19_kids.f k l0 a1).bind fun t221 => (some (wrap64 (((rd_T53 l0 a1).f1) - t221)))) else (none)) else (none)) else (some (-1)))) = some r := h
 clear h
 replace H := Option.bind_eq_some_iff.mp H
 obtain ⟨t219, A30, H⟩ := H
 replace H : (if t219 = true then (if 0 ≤ a1 then (if a1 < (l0.length : Int) then ((estoversref19_kids.f k l0 a1).bind fun t221 => (some (wrap64 (((rd_T53 l0 a1).f1) - t221)))) else (none)) else (none)) else (some (-1))) = some r := H
 have A3 := Aside0.mk A30
 clear A30
 by_cases c4 : t219 = true
 ·subst c4
  have H1 : (if 0 ≤ a1 then (if a1 < (l0.length : Int) then ((estoversref19_kids.f k l0 a1).bind fun t221 => (some (wrap64 (((rd_T53 l0 a1).f1) - t221)))) else (none)) else (none)) = some r := by rw [if_pos rfl] at H; exact H
  clear H
  have H := H1
  clear H1
  by_cases c5 : 0 ≤ a1
  ·rw [if_pos c5] at H
   have c5b0 : decide (0 ≤ a1) = true := decide_eq_true c5
   clear c5
   by_cases c6 : a1 < (l0.length : Int)
   ·rw [if_pos c6] at H
    have c6b0 : decide (a1 < (l0.length : Int)) = true := decide_eq_true c6
    clear c6
    replace H := Option.bind_eq_some_iff.mp H
    obtain ⟨t221, A70, H⟩ := H
    replace H : (some (wrap64 (((rd_T53 l0 a1).f1) - t221))) = some r := H
    have A7 := Aside0.mk A70
    clear A70
    obtain rfl := Option.some.inj H
    go_enter Try.func36, Try.ntmps36
    go_wp2_with (first | (go_at_call 53; (with_reducible refine (estoversref19_has.calls k _ _ l0 a1 true _ ?side1 ?side2 A3.out).mono ?_); (case side1 => repeat (first | exact HR0.out | (with_reducible refine Kd.C_alloc ?_ _) | (with_reducible refine Kd.C_drewN ?_ _) | (with_reducible refine Kd.C_drew ?_))); (case side2 => exact HC0.out); rintro e w' ⟨rfl, ⟨nd, rfl⟩⟩; (try first | exact ⟨rfl, _, World.drewN_drewN _ _ _⟩ | exact ⟨rfl, _, Eq.trans (World.drewN_drewN _ _ _) (congrArg (World.drewN _) (Nat.add_assoc _ _ _))⟩); have p220 : 0 ≤ (a1 : Int) := of_decide_eq_true (by first | (with_reducible assumption) | assumption); have q220 : a1 < (l0.length : Int) := of_decide_eq_true (by first | (with_reducible assumption) | assumption); obtain ⟨ad220, e220, hx220_0, hx220_1, hx220_2, hx220_3, hx220_4⟩ := at_T53 HR0.out a1 p220 q220; cases e220; replace p220 := eq_true p220; replace q220 := eq_true q220) | (go_at_call 25; (with_reducible refine (estoversref19_kids.calls k _ _ l0 a1 t221 _ ?side1 ?side2 A7.out).mono ?_); (case side1 => repeat (first | exact HR0.out | (with_reducible refine Kd.C_alloc ?_ _) | (with_reducible refine Kd.C_drewN ?_ _) | (with_reducible refine Kd.C_drew ?_))); (case side2 => exact HC0.out); rintro e w' ⟨rfl, ⟨nd, rfl⟩⟩; (try first | exact ⟨rfl, _, World.drewN_drewN _ _ _⟩ | exact ⟨rfl, _, Eq.trans (World.drewN_drewN _ _ _) (congrArg (World.drewN _) (Nat.add_assoc _ _ _))⟩)))
    repeat (go_quiet (first | (go_at_call 53; (with_reducible refine (estoversref19_has.calls k _ _ l0 a1 true _ ?side1 ?side2 A3.out).mono ?_); (case side1 => repeat (first | exact HR0.out | (with_reducible refine Kd.C_alloc ?_ _) | (with_reducible refine Kd.C_drewN ?_ _) | (with_reducible refine Kd.C_drew ?_))); (case side2 => exact HC0.out); rintro e w' ⟨rfl, ⟨nd, rfl⟩⟩; (try first | exact ⟨rfl, _, World.drewN_drewN _ _ _⟩ | exact ⟨rfl, _, Eq.trans (World.drewN_drewN _ _ _) (congrArg (World.drewN _) (Nat.add_assoc _ _ _))⟩); have p220 : 0 ≤ (a1 : Int) := of_decide_eq_true (by first | (with_reducible assumption) | assumption); have q220 : a1 < (l0.length : Int) := of_decide_eq_true (by first | (with_reducible assumption) | assumption); obtain ⟨ad220, e220, hx220_0, hx220_1, hx220_2, hx220_3, hx220_4⟩ := at_T53 HR0.out a1 p220 q220; cases e220; replace p220 := eq_true p220; replace q220 := eq_true q220) | (go_at_call 25; (with_reducible refine (estoversref19_kids.calls k _ _ l0 a1 t221 _ ?side1 ?side2 A7.out).mono ?_); (case side1 => repeat (first | exact HR0.out | (with_reducible refine Kd.C_alloc ?_ _) | (with_reducible refine Kd.C_drewN ?_ _) | (with_reducible refine Kd.C_drew ?_))); (case side2 => exact HC0.out); rintro e w' ⟨rfl, ⟨nd, rfl⟩⟩; (try first | exact ⟨rfl, _, World.drewN_drewN _ _ _⟩ | exact ⟨rfl, _, Eq.trans (World.drewN_drewN _ _ _) (congrArg (World.drewN _) (Nat.add_assoc _ _ _))⟩))); try go_wp2_with (first | (go_at_call 53; (with_reducible refine (estoversref19_has.calls k _ _ l0 a1 true _ ?side1 ?side2 A3.out).mono ?_); (case side1 => repeat (first | exact HR0.out | (with_reducible refine Kd.C_alloc ?_ _) | (with_reducible refine Kd.C_drewN ?_ _) | (with_reducible refine Kd.C_drew ?_))); (case side2 => exact HC0.out); rintro e w' ⟨rfl, ⟨nd, rfl⟩⟩; (try first | exact ⟨rfl, _, World.drewN_drewN _ _ _⟩ | exact ⟨rfl, _, Eq.trans (World.drewN_drewN _ _ _) (congrArg (World.drewN _) (Nat.add_assoc _ _ _))⟩); have p220 : 0 ≤ (a1 : Int) := of_decide_eq_true (by first | (with_reducible assumption) | assumption); have q220 : a1 < (l0.length : Int) := of_decide_eq_true (by first | (with_reducible assumption) | assumption); obtain ⟨ad220, e220, hx220_0, hx220_1, hx220_2, hx220_3, hx220_4⟩ := at_T53 HR0.out a1 p220 q220; cases e220; replace p220 := eq_true p220; replace q220 := eq_true q220) | (go_at_call 25; (with_reducible refine (estoversref19_kids.calls k _ _ l0 a1 t221 _ ?side1 ?side2 A7.out).mono ?_); (case side1 => repeat (first | exact HR0.out | (with_reducible refine Kd.C_alloc ?_ _) | (with_reducible refine Kd.C_drewN ?_ _) | (with_reducible refine Kd.C_drew ?_))); (case side2 => exact HC0.out); rintro e w' ⟨rfl, ⟨nd, rfl⟩⟩; (try first | exact ⟨rfl, _, World.drewN_drewN _ _ _⟩ | exact ⟨rfl, _, Eq.trans (World.drewN_drewN _ _ _) (congrArg (World.drewN _) (Nat.add_assoc _ _ _))⟩))))
    go_ret
    exact ⟨by first | rfl | (simp; done) | (simp [*]; done), by repeat (first | exact Drawn0.refl _ | apply Drawn0.step)⟩
   ·rw [if_neg c6] at H
    exact absurd H (by simp)
  ·rw [if_neg c5] at H
   exact absurd H (by simp)
 ·replace c4 := Bool.eq_false_iff.mpr c4
  subst c4
  have H1 : (some (-1)) = some r := by rw [if_neg (show ¬ (false = true) by decide)] at H; exact H
  clear H
  have H := H1
  clear H1
  obtain rfl := Option.some.inj H
  go_enter Try.func36, Try.ntmps36
  go_wp2_with (first | (go_at_call 53; (with_reducible refine (estoversref19_has.calls k _ _ l0 a1 false _ ?side1 ?side2 A3.out).mono ?_); (case side1 => repeat (first | exact HR0.out | (with_reducible refine Kd.C_alloc ?_ _) | (with_reducible refine Kd.C_drewN ?_ _) | (with_reducible refine Kd.C_drew ?_))); (case side2 => exact HC0.out); rintro e w' ⟨rfl, ⟨nd, rfl⟩⟩; (try first | exact ⟨rfl, _, World.drewN_drewN _ _ _⟩ | exact ⟨rfl, _, Eq.trans (World.drewN_drewN _ _ _) (congrArg (World.drewN _) (Nat.add_assoc _ _ _))⟩)))
  repeat (go_quiet (first | (go_at_call 53; (with_reducible refine (estoversref19_has.calls k _ _ l0 a1 false _ ?side1 ?side2 A3.out).mono ?_); (case side1 => repeat (first | exact HR0.out | (with_reducible refine Kd.C_alloc ?_ _) | (with_reducible refine Kd.C_drewN ?_ _) | (with_reducible refine Kd.C_drew ?_))); (case side2 => exact HC0.out); rintro e w' ⟨rfl, ⟨nd, rfl⟩⟩; (try first | exact ⟨rfl, _, World.drewN_drewN _ _ _⟩ | exact ⟨rfl, _, Eq.trans (World.drewN_drewN _ _ _) (congrArg (World.drewN _) (Nat.add_assoc _ _ _))⟩))); try go_wp2_with (first | (go_at_call 53; (with_reducible refine (estoversref19_has.calls k _ _ l0 a1 false _ ?side1 ?side2 A3.out).mono ?_); (case side1 => repeat (first | exact HR0.out | (with_reducible refine Kd.C_alloc ?_ _) | (with_reducible refine Kd.C_drewN ?_ _) | (with_reducible refine Kd.C_drew ?_))); (case side2 => exact HC0.out); rintro e w' ⟨rfl, ⟨nd, rfl⟩⟩; (try first | exact ⟨rfl, _, World.drewN_drewN _ _ _⟩ | exact ⟨rfl, _, Eq.trans (World.drewN_drewN _ _ _) (congrArg (World.drewN _) (Nat.add_assoc _ _ _))⟩))))
  go_ret
  exact ⟨by first | rfl | (simp; done) | (simp [*]; done), by repeat (first | exact Drawn0.refl _ | apply Drawn0.step)⟩
mutual
def estoverstop_ownPages.l0 : Nat → List (S53) → List (S35) → Int → Int → Option ((List (S35)))
 | 0, _, _, _, _ => none
 | k + 1, x0, x3, x6, x7 => if x7 < x6 then ((estoversref19_Own.f k x0 x7).bind fun t222 => (estoverstop_ownPages.l1 k x0 x3 x7 x6 x7 (mx 0 (mn t222 300)) 0)) else (if (x3.length : Int) > 256 then (some ([] : List (S35))) else (some x3))
def estoverstop_ownPages.l1 : Nat → List (S53) → List (S35) → Int → Int → Int → Int → Int → Option ((List (S35)))
 | 0, _, _, _, _, _, _, _ => none
 | k + 1, x0, x3, x4, x6, x7, x14, x15 => if x15 < x14 then (if x3.length < 2932031007402 then (estoverstop_ownPages.l1 k x0 (x3 ++ [(⟨(x3.length : Int), x4, (x3.length : Int), 0, (-1), true, false⟩ : S35)]) x4 x6 x7 x14 (wrap64 (x15 + 1))) else (none)) else (estoverstop_ownPages.l0 k x0 x3 x6 (wrap64 (x7 + 1)))
end
def estoverstop_ownPages.f (k : Nat) (l0 : List (S53)) : Option ((List (S35))) := estoverstop_ownPages.l0 k l0 ([] : List (S35)) (l0.length : Int) 0
theorem estoverstop_ownPages.mono_l : ∀ k, (∀ y0 y1 y2 y3, LeO (estoverstop_ownPages.l0 k y0 y1 y2 y3) (estoverstop_ownPages.l0 (k + 1) y0 y1 y2 y3)) ∧ (∀ y0 y1 y2 y3 y4 y5 y6, LeO (estoverstop_ownPages.l1 k y0 y1 y2 y3 y4 y5 y6) (estoverstop_ownPages.l1 (k + 1) y0 y1 y2 y3 y4 y5 y6))
 | 0 => ⟨fun _ _ _ _ r h => by simp [estoverstop_ownPages.l0] at h, fun _ _ _ _ _ _ _ r h => by simp [estoverstop_ownPages.l1] at h⟩
 | k + 1 => by
  obtain ⟨ih0, ih1⟩ := estoverstop_ownPages.mono_l k
  refine ⟨?_, ?_⟩
  ·intro y0 y1 y2 y3
   unfold estoverstop_ownPages.l0
   repeat' first
   | (with_reducible exact ih0 _ _ _ _)
   | (with_reducible exact ih1 _ _ _ _ _ _ _)
   | (with_reducible exact estoversref19_Own.mono _ _ _)
   | (with_reducible exact LeO.refl _)
   | (with_reducible exact LeO.none _)
   | (with_reducible refine LeO.ite ?_ ?_)
   | (with_reducible refine LeO.bind ?_ (fun _ => ?_))
   | exact ih0 _ _ _ _
   | exact ih1 _ _ _ _ _ _ _
   | exact estoversref19_Own.mono _ _ _
   | exact LeO.none _
   | refine LeO.ite ?_ ?_
   | refine LeO.bind ?_ (fun _ => ?_)
  ·intro y0 y1 y2 y3 y4 y5 y6
   unfold estoverstop_ownPages.l1
   repeat' first
   | (with_reducible exact ih0 _ _ _ _)
   | (with_reducible exact ih1 _ _ _ _ _ _ _)
   | (with_reducible exact estoversref19_Own.mono _ _ _)
   | (with_reducible exact LeO.refl _)
   | (with_reducible exact LeO.none _)
   | (with_reducible refine LeO.ite ?_ ?_)
   | (with_reducible refine LeO.bind ?_ (fun _ => ?_))
   | exact ih0 _ _ _ _
   | exact ih1 _ _ _ _ _ _ _
   | exact estoversref19_Own.mono _ _ _
   | exact LeO.none _
   | refine LeO.ite ?_ ?_
   | refine LeO.bind ?_ (fun _ => ?_)
theorem estoverstop_ownPages.mono : ∀ a0 k, LeO (estoverstop_ownPages.f k a0) (estoverstop_ownPages.f (k + 1) a0) := by
 intro a0 k
 obtain ⟨ih0, ih1⟩ := estoverstop_ownPages.mono_l k
 unfold estoverstop_ownPages.f
 repeat' first
   | (with_reducible exact ih0 _ _ _ _)
   | (with_reducible exact ih1 _ _ _ _ _ _ _)
   | (with_reducible exact estoversref19_Own.mono _ _ _)
   | (with_reducible exact LeO.refl _)
   | (with_reducible exact LeO.none _)
   | (with_reducible refine LeO.ite ?_ ?_)
   | (with_reducible refine LeO.bind ?_ (fun _ => ?_))
   | exact ih0 _ _ _ _
   | exact ih1 _ _ _ _ _ _ _
   | exact estoversref19_Own.mono _ _ _
   | exact LeO.none _
   | refine LeO.ite ?_ ?_
   | refine LeO.bind ?_ (fun _ => ?_)
set_option maxHeartbeats 8000000 in
set_option maxRecDepth 100000 in
theorem estoverstop_ownPages.calls (k : Nat) (A0 : Option Addr) (c0 : Nat) (l0 : List (S53)) (r : List (S35)) (w : World) (hr0 : Kd.C k53 w A0 l0.length l0) (hc0 : l0.length ≤ c0) (h : estoverstop_ownPages.f k l0 = some r) :
  Calls Try.prog 17 #[.slice A0 l0.length c0] w fun e w' => ∃ v0_ : Value, e = .returned (v0_) ∧ Kd.R k35 35 w' w.heap.size (fun _ => True) v0_ r ∧ Below w.heap.size w w' := by
 have hu35 := Try.underlying35
 have HR0 := Aside0.mk hr0
 have HC0 := Aside0.mk hc0
 clear hr0 hc0
 have HB := Aside0.mk (Below.refl w.heap.size w)
 have H : (estoverstop_ownPages.l0 k l0 ([] : List (S35)) (l0.length : Int) 0) = some r := h
 clear h
 have H' := Aside0.mk H
 clear H
 go_enter Try.func17, Try.ntmps17
 go_wp2
 go_loopg [3, 7] k (fun kq v3 v7 w' => ∃ (x3_1 : List (S35)) (x7_1 : Int), v7 = .int .i64 x7_1 ∧ Aside0 (estoverstop_ownPages.l0 kq l0 x3_1 (l0.length : Int) x7_1 = some r) ∧ Aside0 (kq ≤ k) ∧ Aside0 (Kd.R k35 35 w' w.heap.size (fun _ => True) v3 x3_1) ∧ Aside0 (Below w.heap.size w w'))
 case atStart => exact ⟨(([] : List (S35))), (0), (by first | rfl | (simp; done) | (simp [*]; done)), H', ⟨Nat.le_refl _⟩, ⟨by first | exact Kd.R_nil _ _ _ _ _ | exact Kd.N_nil _ _ _ _ _ | exact Kd.V_nil _ _ _ _ _ | exact Kd.Q_nil _ _ _ _ _ | exact Kd.S_nil _ _ _ _ _⟩, ⟨by repeat (first | (with_reducible first | exact HB.out | apply below_alloc | apply pw_below_drewN | apply below_drew1) | exact HB.out)⟩⟩
 case round =>
  clear H'
  try clear c1
  obtain ⟨x3_1, x7_1, rfl, HA, HK1, HO_3, HB⟩ := hrel
  cases gk with
  | zero => exact absurd HA.out (by simp [estoverstop_ownPages.l0])
  | succ k1 =>
   have H := HA.out
   clear HA
   simp only [estoverstop_ownPages.l0] at H
   by_cases c2 : x7_1 < (l0.length : Int)
   ·rw [if_pos c2] at H
    have c2b0 : decide (x7_1 < (l0.length : Int)) = true := decide_eq_true c2
    clear c2
    replace H := Option.bind_eq_some_iff.mp H
    obtain ⟨t222, A30, H⟩ := H
    replace H : (estoverstop_ownPages.l1 k1 l0 x3_1 x7_1 (l0.length : Int) x7_1 (mx 0 (mn t222 300)) 0) = some r := H
    have A3 := Aside0.mk A30
    clear A30
    obtain ⟨ji4, hji4⟩ : ∃ j_ : Int, (mn t222 300) = j_ := ⟨_, rfl⟩
    replace H : (estoverstop_ownPages.l1 k1 l0 x3_1 x7_1 (l0.length : Int) x7_1 (mx 0 (ji4)) 0) = some r := by first | (rw [hji4] at H; exact H) | (simp only [hji4] at H ⊢; exact H)
    (try rw [hji4] at A3)
    (try (have hji4h : ji4 ≤ 300 := by (rw [← hji4]; unfold mn; (repeat' split) <;> omega)))
    (try (have hji4g : ji4 ≤ 64 := by omega))
    have hji4_ : (if 300 < t222 then 300 else t222) = ji4 := hji4
    obtain ⟨ji5, hji5⟩ : ∃ j_ : Int, (mx 0 (ji4)) = j_ := ⟨_, rfl⟩
    replace H : (estoverstop_ownPages.l1 k1 l0 x3_1 x7_1 (l0.length : Int) x7_1 ji5 0) = some r := by first | (rw [hji5] at H; exact H) | (simp only [hji5] at H ⊢; exact H)
    (try rw [hji5] at A3)
    have hji5_ : (if 0 < (ji4) then (ji4) else 0) = ji5 := hji5
    have H' := Aside0.mk H
    clear H
    go_wp2_with (first | ((with_reducible refine gate_callee (f := 36) rfl ?_); refine goesL_ (some 12) rfl rfl Try.func36 (by kernel_rfl) rfl #[.slice A0 l0.length c0, .int .i64 x7_1] rfl (by (try simp only [List.map_toArray, List.map_cons, List.map_nil]); first | done | rfl | (simp only [List.length_drop, List.length_take]; rfl)) ?_; (with_reducible refine (estoversref19_Own.calls k1 _ _ l0 x7_1 t222 _ ?side1 ?side2 A3.out).mono ?_); (case side1 => repeat (first | exact (Kd.C_below HR0.out HB.out) | (with_reducible refine Kd.C_alloc ?_ _) | (with_reducible refine Kd.C_drewN ?_ _) | (with_reducible refine Kd.C_drew ?_))); (case side2 => exact HC0.out); rintro e w' ⟨rfl, ⟨nd, rfl⟩⟩; refine ⟨_, rfl, ?_⟩))
    go_loopg [3, 15] k1 (fun kq v3 v15 w' => ∃ (x3_2 : List (S35)) (x15_2 : Int), v15 = .int .i64 x15_2 ∧ Aside0 (estoverstop_ownPages.l1 kq l0 x3_2 x7_1 (l0.length : Int) x7_1 ji5 x15_2 = some r) ∧ Aside0 (kq ≤ k1) ∧ Aside0 (Kd.R k35 35 w' w.heap.size (fun _ => True) v3 x3_2) ∧ Aside0 (Below w.heap.size w w'))
    case atStart => exact ⟨(x3_1), (0), (by first | rfl | (simp; done) | (simp [*]; done)), H', ⟨Nat.le_refl _⟩, ⟨by (with_reducible repeat (first | apply Kd.R_alloc | apply Kd.R_drewN | apply Kd.R_drew)); exact HO_3.out⟩, ⟨by repeat (first | (with_reducible first | exact HB.out | apply below_alloc | apply pw_below_drewN | apply below_drew1) | exact HB.out)⟩⟩
    case round =>
     clear H'
     try clear c1
     try clear c2
     try clear c2b0
     try clear p2
     try clear c3
     obtain ⟨x3_2, x15_2, rfl, HA, HK2, HO_3, HB⟩ := hrel
     cases gk with
     | zero => exact absurd HA.out (by simp [estoverstop_ownPages.l1])
     | succ k2 =>
      have H := HA.out
      clear HA
      simp only [estoverstop_ownPages.l1] at H
      by_cases c6 : x15_2 < ji5
      ·rw [if_pos c6] at H
       have c6b0 : decide (x15_2 < ji5) = true := decide_eq_true c6
       clear c6
       by_cases c7 : x3_2.length < 2932031007402
       ·rw [if_pos c7] at H
        have LMc7 := Aside0.mk c7
        clear c7
        obtain ⟨y223, hy223⟩ : ∃ y_ : List (S35), y_ = (x3_2 ++ [(⟨(x3_2.length : Int), x7_1, (x3_2.length : Int), 0, (-1), true, false⟩ : S35)]) := ⟨_, rfl⟩
        replace H : (estoverstop_ownPages.l1 k2 l0 y223 x7_1 (l0.length : Int) x7_1 ji5 (wrap64 (x15_2 + 1))) = some r := by first | (rw [hy223]; with_reducible exact H) | (have H2_ := (Option.bind_some _ _).symm.trans H; rw [hy223]; with_reducible exact H2_) | (have H2_ := (Option.bind_some _ _).symm.trans H; with_reducible exact H2_) | with_reducible exact H | (rw [hy223]; exact H) | exact H
        have Ny223 := Aside0.mk hy223
        clear hy223
        have H' := Aside0.mk H
        clear H
        obtain ⟨Ao8, co8, eo8⟩ := Kd.R_slice HO_3.out
        subst eo8
        go_wp2_with (first | ((with_reducible refine gate_builtin (b := .append) (xs := #[.tmp 17, .tmp 24]) rfl ?_); at_builtin; refine Kd.R_append k35 (w0 := w) w.heap.size rfl (.tmp 17) (.tmp 24) 22 35 (.agg #[(.int .i64 0), (.int .i64 0), (.int .i64 0), (.int .i64 0), (.int .i64 0), (.bool false), (.bool false)]) 48 rfl Try.underlying22 info35 rfl (by decide) (by omega) (.slice Ao8 x3_2.length co8) x3_2 (⟨(x3_2.length : Int), x7_1, (x3_2.length : Int), 0, (-1), true, false⟩ : S35) [.int .i64 (x3_2.length : Int), .int .i64 x7_1, .int .i64 (x3_2.length : Int), .int .i64 0, .int .i64 (-1), .bool true, .bool false] (fun _ => True) (fun _ => False) rfl rfl ?aP (fun _ hk => hk.elim) ?aF ?aO ?aB ?aS ?aL ?_; (case aP => exact k35_mkM _ _ _ (⟨(x3_2.length : Int), x7_1, (x3_2.length : Int), 0, (-1), true, false⟩ : S35)); (case aB => exact (by repeat (first | (with_reducible first | exact HB.out | apply below_alloc | apply pw_below_drewN | apply below_drew1) | exact HB.out))); (case aF => exact (fun _ _ => trivial)); (case aO => exact (by (with_reducible repeat (first | apply Kd.R_alloc | apply Kd.R_drewN | apply Kd.R_drew)); exact HO_3.out)); (case aS => exact (below_size (by repeat (first | (with_reducible first | exact HB.out | apply below_alloc | apply pw_below_drewN | apply below_drew1) | exact HB.out)))); (case aL => have := LMc7.out; omega); intro v224 w9 ho hb hg hat; rw [← Ny223.out] at ho; have n0_ := Aside0.mk (hb); have n1_ := Aside0.mk (ho); clear HB; clear HO_3; have HB := n0_; have HO225 := n1_; clear n0_ n1_; clear ho hb hg hat))
        first | go_roundg k2 | ((try simp only [← hji4, ← hji5]); go_roundg k2)
        case measure => have := HK1.out; have := HK2.out; omega
        case rel => first | (exact ⟨(y223), (wrap64 (x15_2 + 1)), (by first | rfl | (simp; done) | (simp [*]; done)), H', ⟨by have := HK1.out; have := HK2.out; omega⟩, ⟨by (with_reducible repeat (first | apply Kd.R_alloc | apply Kd.R_drewN | apply Kd.R_drew)); exact HO225.out⟩, ⟨by repeat (first | (with_reducible first | exact HB.out | apply below_alloc | apply pw_below_drewN | apply below_drew1) | exact HB.out)⟩⟩) | ((try simp only [hji4, hji5]); exact ⟨(y223), (wrap64 (x15_2 + 1)), (by first | rfl | (simp; done) | (simp [*]; done)), H', ⟨by have := HK1.out; have := HK2.out; omega⟩, ⟨by (with_reducible repeat (first | apply Kd.R_alloc | apply Kd.R_drewN | apply Kd.R_drew)); exact HO225.out⟩, ⟨by repeat (first | (with_reducible first | exact HB.out | apply below_alloc | apply pw_below_drewN | apply below_drew1) | exact HB.out)⟩⟩)
       ·rw [if_neg c7] at H
        exact absurd H (by simp)
      ·rw [if_neg c6] at H
       have c6b0 : decide (x15_2 < ji5) = false := decide_eq_false c6
       clear c6
       have H' := Aside0.mk H
       clear H
       go_wp2
       first | go_roundg k2 | ((try simp only [← hji4, ← hji5]); go_roundg k2)
       case measure => have := HK1.out; have := HK2.out; omega
       case rel => first | (exact ⟨(x3_2), (wrap64 (x7_1 + 1)), (by first | rfl | (simp; done) | (simp [*]; done)), H', ⟨by have := HK1.out; have := HK2.out; omega⟩, ⟨by (with_reducible repeat (first | apply Kd.R_alloc | apply Kd.R_drewN | apply Kd.R_drew)); exact HO_3.out⟩, ⟨by repeat (first | (with_reducible first | exact HB.out | apply below_alloc | apply pw_below_drewN | apply below_drew1) | exact HB.out)⟩⟩) | ((try simp only [hji4, hji5]); exact ⟨(x3_2), (wrap64 (x7_1 + 1)), (by first | rfl | (simp; done) | (simp [*]; done)), H', ⟨by have := HK1.out; have := HK2.out; omega⟩, ⟨by (with_reducible repeat (first | apply Kd.R_alloc | apply Kd.R_drewN | apply Kd.R_drew)); exact HO_3.out⟩, ⟨by repeat (first | (with_reducible first | exact HB.out | apply below_alloc | apply pw_below_drewN | apply below_drew1) | exact HB.out)⟩⟩)
   ·rw [if_neg c2] at H
    have c2b0 : decide (x7_1 < (l0.length : Int)) = false := decide_eq_false c2
    clear c2
    by_cases c10 : (x3_1.length : Int) > 256
    ·rw [if_pos c10] at H
     have c10b0 : decide (256 < (x3_1.length : Int)) = true := decide_eq_true c10
     have c10b1 : decide (256 < x3_1.length) = true := decide_eq_true (by omega)
     clear c10
     obtain rfl := Option.some.inj H
     obtain ⟨Ao11, co11, eo11⟩ := Kd.R_slice HO_3.out
     subst eo11
     go_wp2
     go_ret
     exact ⟨_, by first | rfl | (simp [errW_none, errW_some] <;> rfl) | (simp [*, errW_none, errW_some] <;> rfl), by first | exact Kd.R_nil _ _ _ _ _ | exact Kd.N_nil _ _ _ _ _ | exact Kd.V_nil _ _ _ _ _ | exact Kd.Q_nil _ _ _ _ _ | exact Kd.S_nil _ _ _ _ _, by repeat (first | (with_reducible first | exact HB.out | apply below_alloc | apply pw_below_drewN | apply below_drew1) | exact HB.out)⟩
    ·rw [if_neg c10] at H
     have c10b0 : decide (256 < (x3_1.length : Int)) = false := decide_eq_false c10
     have c10b1 : decide (256 < x3_1.length) = false := decide_eq_false (by omega)
     clear c10
     obtain rfl := Option.some.inj H
     obtain ⟨Ao12, co12, eo12⟩ := Kd.R_slice HO_3.out
     subst eo12
     go_wp2
     go_ret
     exact ⟨_, by first | rfl | (simp [errW_none, errW_some] <;> rfl) | (simp [*, errW_none, errW_some] <;> rfl), by (with_reducible repeat (first | apply Kd.R_alloc | apply Kd.R_drewN | apply Kd.R_drew)); exact HO_3.out, by repeat (first | (with_reducible first | exact HB.out | apply below_alloc | apply pw_below_drewN | apply below_drew1) | exact HB.out)⟩
def generations_isFrame.f (a0 : Int) : Option (Bool) := if a0 ≥ 0 then (some (decide (a0 < 256))) else (some false)
set_option maxHeartbeats 8000000 in
set_option maxRecDepth 100000 in
theorem generations_isFrame.calls (a0 : Int) (r : Bool) (w : World) (h : generations_isFrame.f a0 = some r) :
  Calls Try.prog 38 #[.int .i64 a0] w fun e w' => e = .returned (.bool r) ∧ Drawn0 w w' := by
 have H : (if a0 ≥ 0 then (some (decide (a0 < 256))) else (some false)) = some r := h
 clear h
 by_cases c2 : a0 ≥ 0
 ·rw [if_pos c2] at H
  have c2b0 : decide (0 ≤ a0) = true := decide_eq_true c2
  clear c2
  obtain rfl := Option.some.inj H
  go_enter Try.func38, Try.ntmps38
  go_wp2
  go_ret
  exact ⟨by first | rfl | (simp; done) | (simp [*]; done), by repeat (first | exact Drawn0.refl _ | apply Drawn0.step)⟩
 ·rw [if_neg c2] at H
  have c2b0 : decide (0 ≤ a0) = false := decide_eq_false c2
  clear c2
  obtain rfl := Option.some.inj H
  go_enter Try.func38, Try.ntmps38
  go_wp2
  go_ret
  exact ⟨by first | rfl | (simp; done) | (simp [*]; done), by repeat (first | exact Drawn0.refl _ | apply Drawn0.step)⟩
section gen
open Go.RowKit Go.Shelf
attribute [local go_sem] Oper.semAt_some
/-- The generations of the example: m times the frame 7 in the first list. -/
def gL (m : Nat) : List (List Int) := [List.replicate m 7, [], [], []]
def kG : Kd (List Int) := Kd.slice 3 (Kd.int .i64)
theorem gRow {w : World} {A : Option Addr} {m : Nat} (h : Kd.C kG w A 4 (gL m)) (k : Nat) (hk : k < 4) : ∃ ad Ai ci, A = some ad ∧ w.cell? (ad.add k) = some (.slice Ai ((gL m).getD k []).length ci) ∧ Kd.C (Kd.int .i64) w Ai ((gL m).getD k []).length ((gL m).getD k []) := by
 obtain ⟨ad, c, e, _, ⟨Ai, ci, rfl, _, hC⟩, hc0⟩ := Kd.C_get h [] (k : Int) (by omega) (by omega)
 have hc := hc0 0 _ rfl
 refine ⟨ad, Ai, ci, e, ?_, hC⟩
 have e1 : (k : Int).toNat * kG.sz + 0 = k := by
  show (k : Int).toNat * 1 + 0 = k
  omega
 rw [e1] at hc
 exact hc
theorem gLen (m k : Nat) (hk : 0 < k) : ((gL m).getD k []).length = 0 := by
 match k, hk with
 | 1, _ => rfl
 | 2, _ => rfl
 | 3, _ => rfl
 | k + 4, _ => rfl
theorem gLen0 (m : Nat) : ((gL m).getD 0 []).length = m := by simp [gL]
theorem gElem {w : World} {A : Option Addr} {m : Nat} (h : Kd.C (Kd.int .i64) w A m (List.replicate m 7)) (j : Nat) (hj : j < m) : ∃ ad, A = some ad ∧ w.cell? (ad.add j) = some (.int .i64 7) := by
 obtain ⟨ad, c, e, _, hK, hc0⟩ := Kd.C_get h (0 : Int) (j : Int) (by omega) (by omega)
 have hK' : c = [.int .i64 ((List.replicate m (7 : Int)).getD j 0)] := hK
 subst hK'
 have hc := hc0 0 _ rfl
 refine ⟨ad, e, ?_⟩
 have e7 : (List.replicate m (7 : Int)).getD j 0 = 7 := by simp [List.getD_eq_getElem?_getD, hj]
 rw [e7] at hc
 have e1 : (j : Int).toNat * (Kd.int .i64).sz + 0 = j := by
  show (j : Int).toNat * 1 + 0 = j
  omega
 rw [e1] at hc
 exact hc
set_option maxRecDepth 100000 in
set_option maxHeartbeats 4000000 in
/-- The iterator's body: the pairs (0, 7), m times. -/
theorem gen_all1 (n : Nat) (hn : 1 ≤ n) (l Bs m : Nat) (hm : m ≤ 1) (A : Option Addr) (c : Nat) (w0 : World) (hC : Kd.C kG w0 A 4 (gL m)) (J Jx : List Unit → World → Prop)
  (hY : ∀ pre x W, J pre W → pre.length < m → YieldAt Fence.wide (n - 1) Try.prog l #[.int .i64 0, .int .i64 7] W fun e W' =>
   (e = .returned (.bool true) ∧ J (pre ++ [x]) W' ∧ Below w0.heap.size W W') ∨ (e = .returned (.bool false) ∧ Jx (pre ++ [x]) W'))
  (W : World) (hb : Below w0.heap.size w0 W) (hBs : W.cell? ⟨Bs, 0, none⟩ = some (.slice A 4 c)) (h0 : J [] W) :
  CallsIn Fence.wide n Try.prog 82 #[.func (.yield l) #[] #[], .pointer (some ⟨Bs, 0, none⟩)] W fun e W' => (∃ v, e = .returned v) ∧
   ((∃ ys, ys = List.replicate m () ∧ J ys W') ∨ (∃ pre, (∃ j, j ≤ m ∧ pre = List.replicate j ()) ∧ Jx pre W')) := by
 refine callsIn_of_wp Try.func82 rfl trivial ?_ rfl
 simp only [Try.ntmps82, List.size_toArray, List.length_cons, List.length_nil, Nat.reduceAdd, Nat.reduceSub, Array.replicate_succ, Array.replicate_zero, List.push_toArray, List.append_toArray, List.nil_append, List.cons_append]
 gi_wp2
 gi_loopw [9] (fun i wr => ∃ k : Nat, k ≤ 4 ∧ i = .int .i64 k ∧ J (List.replicate (if k = 0 then 0 else m) ()) wr ∧ Below w0.heap.size w0 wr)
  (fun i _ => 4 - (intOf i).toNat)
 case atStart => exact ⟨0, by omega, rfl, h0, hb⟩
 case round =>
  obtain ⟨k, hk, rfl, hJ, hbr⟩ := hrel
  by_cases hk4 : k < 4
  ·obtain ⟨ad, Ai, ci, e0, hc0, hC0⟩ := gRow hC k hk4
   subst e0
   have hc1 := (hbr.cell (World.block_lt_of_cell? w0 _ hc0)).trans hc0
   obtain ⟨len, hlen⟩ : ∃ len, ((gL m).getD k []).length = len := ⟨_, rfl⟩
   have hl0 : k = 0 → len = m := fun e => by subst e; rw [← hlen]; exact gLen0 m
   have hl1 : 0 < k → len = 0 := fun e => by rw [← hlen]; exact gLen m k e
   rw [hlen] at hc1 hC0
   have HC0 := Aside0.mk hC0
   clear hC0 hlen hc0
   gi_wp2
   gi_loopw [16] (fun i wr2 => ∃ j : Nat, j ≤ len ∧ i = .int .i64 j ∧ J (List.replicate (if k = 0 then j else m) ()) wr2 ∧ Below w0.heap.size w0 wr2)
    (fun i _ => len - (intOf i).toNat)
   case atStart => exact ⟨0, by omega, rfl, by by_cases hk0 : k = 0 <;> simp [hk0] at hJ ⊢ <;> exact hJ, hbr⟩
   case round =>
    obtain ⟨j, hj, rfl, hJ2, hbr2⟩ := hrel
    by_cases hjl : j < len
    ·have hk0 : k = 0 := Nat.eq_zero_of_not_pos (fun h => by have := hl1 h; omega)
     subst hk0
     obtain rfl := hl0 rfl
     obtain ⟨ad1, e1, hc2⟩ := gElem HC0.out j hjl
     subst e1
     have hc3 := (hbr2.cell (World.block_lt_of_cell? w0 _ hc2)).trans hc2
     obtain ⟨fn, tmps, assign, body, hy, hR⟩ := hY (List.replicate j ()) () _ (by simpa using hJ2) (by simpa using hjl)
     gi_wp2
     refine hR.mono ?_
     rintro e W3 (⟨rfl, hJ3, hk3⟩ | ⟨rfl, hJx3⟩)
     ·gi_wp2
      go_roundw
      case rel => exact ⟨_, _, _, _, _, _, _, _, _, _, _, ⟨j + 1, by omega, by simp, by simpa [List.replicate_succ'] using hJ3, hbr2.trans hk3⟩, rfl⟩
      case measure => simp [intOf]; omega
     ·gi_wp2
      refine bodyPost_ret (results_none rfl _ _ _) rfl ?_
      exact ⟨⟨_, rfl⟩, .inr ⟨_, ⟨j + 1, by omega, List.replicate_succ'.symm⟩, hJx3⟩⟩
    ·obtain rfl : j = len := by omega
     gi_wp2
     go_roundw
     case rel => exact ⟨k + 1, by omega, by simp, by by_cases hk0 : k = 0 <;> simp [hk0] at hJ2 ⊢ <;> first | exact hJ2 | (rw [hl0 hk0] at hJ2; exact hJ2), hbr2⟩
     case measure => simp [intOf]; omega
  ·obtain rfl : k = 4 := by omega
   gi_wp2
   go_end0
   exact ⟨⟨_, rfl⟩, .inl ⟨_, rfl, hJ⟩⟩
set_option maxHeartbeats 1000000 in
theorem gen_all (n : Nat) (A : Option Addr) (len c : Nat) (w : World) :
  CallsIn Fence.wide n Try.prog 63 #[.slice A len c] w fun e w' => e = .returned (.func (.func 82) #[] #[.pointer (some ⟨w.heap.size, 0, none⟩)]) ∧ w' = w.alloc (.cells #[.slice A len c] 55) := by
 refine callsIn_of_wp Try.func63 rfl trivial ?_ rfl
 simp only [Try.ntmps63, List.size_toArray, List.length_cons, List.length_nil, Nat.reduceAdd, Nat.reduceSub, Array.replicate_succ, Array.replicate_zero, List.push_toArray, List.append_toArray, List.nil_append, List.cons_append]
 gi_wp2
 go_ret
 exact ⟨rfl, rfl⟩
theorem gen_stops (n : Nat) (hn : 1 ≤ n) (Bs m : Nat) (hm : m ≤ 1) (A : Option Addr) (c : Nat) (w0 w : World) (hC : Kd.C kG w0 A 4 (gL m)) (hb : Below w0.heap.size w0 w) (hBs : Bs < w.heap.size) (hc : w.cell? ⟨Bs, 0, none⟩ = some (.slice A 4 c)) :
  SeqStopsK Fence.wide n Try.prog 82 #[.pointer (some ⟨Bs, 0, none⟩)] (fun _ : Unit => #[Value.int .i64 0, Value.int .i64 7]) (Below w0.heap.size) (fun ys => ys = List.replicate m ()) (fun pre => ∃ j, j ≤ m ∧ pre = List.replicate j ()) m w := fun l J Jx W hW _ _ hY h0 =>
 gen_all1 n hn l Bs m hm A c w0 hC J Jx hY W (hb.trans (hW.mono hb.size)) ((hW.cell (p := ⟨Bs, 0, none⟩) hBs).trans hc) h0
/-- The map of the frames' generations. -/
def gD : Nat → DataW Unit
 | 0 => .map []
 | m + 1 => (gD m).put (.int .i64 7) (.lit (.int .i64 0))
set_option maxRecDepth 100000 in
set_option maxHeartbeats 4000000 in
theorem gen_ages (m : Nat) (hm : m ≤ 1) (A : Option Addr) (c : Nat) (w : World) (hC : Kd.C kG w A 4 (gL m)) :
  Calls Try.prog 39 #[.slice A 4 c] w fun e W' => e = .returned (.map (some w.heap.size)) ∧ W'.ownsMap Try.prog 3 (plainElem (H := Unit) Try.prog 3) w.heap.size m (gD m) ∧ Below w.heap.size w W' := by
 have hmm := @run_makeMap Try.prog
 have h1 : 1 ≤ 9 := by omega
 refine (callsIn_wide (n := 9)).1 ?_
 refine callsIn_of_wp_marks Try.func39 rfl trivial ?_ rfl
 simp only [Try.ntmps39, List.size_toArray, List.length_cons, List.length_nil, Nat.reduceAdd, Nat.reduceSub, Array.replicate_succ, Array.replicate_zero, List.push_toArray, List.append_toArray, List.nil_append, List.cons_append]
 gi_wp2_with (refine ⟨trivial, ?_⟩; gi_at_call 63; refine (gen_all _ _ _ _ _).mono ?_; rintro e w' ⟨rfl, rfl⟩)
 have hm0 := World.ownsMap_made w Try.prog 3 (plainElem (H := Unit) Try.prog 3)
 have bS := (Boxed.new (w.alloc (.map #[] 0)) 84 (.map (some w.heap.size))).alloc (.cells #[.slice A 4 c] 55)
 have bN := Boxed.new ((w.alloc (.map #[] 0)).alloc (.cells #[.map (some w.heap.size)] 84)) 55 (.slice A 4 c)
 simp only [World.size_alloc] at bS bN
 have hB0 : Below w.heap.size w (((w.alloc (.map #[] 0)).alloc (.cells #[.map (some w.heap.size)] 84)).alloc (.cells #[.slice A 4 c] 55)) := (((Below.refl _ w).alloc (Nat.le_refl _) _).alloc (by simp) _).alloc (by simp; omega) _
 refine wpIn_rangeFunc_ownG rfl h1 (gf := 82) (lb := #[.pointer (some ⟨w.heap.size + 1 + 1, 0, none⟩)]) rfl trivial (enters_of Try.func82 (by kernel_rfl) rfl)
  (gen_stops 8 (by omega) (w.heap.size + 1 + 1) m hm A c w _ hC hB0 (by simp) bN.cell) belowK_t (belowK_b (by simp; omega)) (Below.refl _ _) (fun _ => rfl)
  (fun pre W => (W.cell? ⟨w.heap.size + 1, 0, none⟩ = some (.map (some w.heap.size)) ∧ W.ownsMap Try.prog 3 (plainElem (H := Unit) Try.prog 3) w.heap.size pre.length (gD pre.length)) ∧ Below w.heap.size w W)
  (fun _ _ _ => False)
  (OwnFrom.and (fun s A B row hs hg hr => ⟨cell_kept hs.1 hg (fun r e => (hr r e).2), hs.2.kept hg (fun e => by have := (hr _ e.symm).1; simp at this; omega)⟩) (ownFrom_below (Nat.le_refl _) (by simp; omega)))
  (fun _ _ _ _ _ hs _ _ => hs)
  ⟨⟨bS.cell, (hm0.alloc _).alloc _⟩, hB0⟩
  (fun x => { tmps := #[.slice A 4 c, undef, .map none, .pointer (some ⟨w.heap.size + 1, 0, none⟩), .int .i64 0, .int .i64 7, .map (some w.heap.size), .slice A 4 c, .func (.func 82) #[] #[.pointer (some ⟨w.heap.size + 1 + 1, 0, none⟩)], .int .i64 0, .int .i64 7, undef, undef, undef, undef], defers := [] }) ?assign ?body ?done ?stop
 case assign =>
  intro l x W K hK
  gi_wp2
  exact hK
 case body =>
  rintro l pre x W ⟨⟨hc, hown⟩, hB⟩ hlt
  have hkey := Go.Maps.keyOf_int_mk Try.underlying3 (show (Lit.int .i64 7).wf = true by decide)
  gi_wp2_with (first
   | (gi_at_mapUpdate; refine wpListIn_mapUpdate_own _ rfl _ _ _ 84 rfl 3 3 (Go.Maps.int_keyed Try.underlying3) Try.underlying84 _ w.heap.size pre.length _ rfl hown (by unfold maxLen; omega) _ _ _ rfl rfl hkey _ [] (plainElem_int Try.underlying3 (show (Lit.int .i64 0).wf = true by decide)) ?_; intro w1 hown1 hgrow1))
  obtain ⟨es, ck, hh, _⟩ := hown
  exact ⟨KeepsFrom.of_grownBy hgrow1 (fun j e => by cases e; simp; omega), (Below.refl _ W).grown hgrow1 hB.size (fun k e => by cases e; exact Nat.le_refl _),
   ⟨cell_kept hc hgrow1 (fun r e => by cases e; exact ⟨_, hh, rfl⟩), by rw [List.length_append]; exact hown1⟩, hB.grown hgrow1 hB.size (fun k e => by cases e; exact Nat.le_refl _)⟩
 case done =>
  rintro D ys W hD rfl ⟨⟨hc, hown⟩, hB⟩ hK
  rw [List.length_replicate] at hown
  gi_wp2
  refine ⟨by simp, .inl ⟨_, _, rfl, run_takeDeferred hK, ?_⟩⟩
  exact ⟨_, results_tmp rfl _ _ _, rfl, hown.kept (grownBy_putObj' _ D _) (fun e => by cases e; simp at hD; omega), hB.trans (belowK_b (w := w) (Nat.le_refl _) W D _ _ (by simp at hD; omega) hK rfl rfl)⟩
 case stop =>
  rintro D c pre W _ _ h _
  exact h.elim
theorem gFrame (w : World) : Calls Try.prog 38 #[.int .i64 7] w fun e w' => e = .returned (.bool true) ∧ Drawn0 w w' := generations_isFrame.calls 7 true w rfl
theorem gD_size (m : Nat) (hm : m ≤ 1) : Go.Maps.size (gD m) = m := by
 match m, hm with
 | 0, _ => rfl
 | 1, _ => rfl
theorem reg_fin {P : Program} {c : Code} {Q : Exit → Act → World → Prop} {a a5 : Act} {W : World} {G : World → Prop} (hfin : ∀ w2, G w2 → Q .normal a5 w2) (hreg : (∀ w2, G w2 → Q .normal a5 w2) → c.wp P Q a W) : c.wp P Q a W := hreg hfin
set_option maxRecDepth 100000 in
set_option maxHeartbeats 4000000 in
theorem gen_check (m : Nat) (hm : m ≤ 1) (A : Option Addr) (c : Nat) (w : World) (hC : Kd.C kG w A 4 (gL m)) :
  Calls Try.prog 37 #[.slice A 4 c] w fun e W' => e = .returned (.int .i64 0) ∧ Below w.heap.size w W' := by
 have h1 : 1 ≤ 9 := by omega
 have hmx : Try.prog.follows .mixedOrders = true := by kernel_rfl
 refine (callsIn_wide (n := 9)).1 ?_
 refine callsIn_of_wp_marks Try.func37 rfl trivial ?_ rfl
 simp only [Try.ntmps37, List.size_toArray, List.length_cons, List.length_nil, Nat.reduceAdd, Nat.reduceSub, Array.replicate_succ, Array.replicate_zero, List.push_toArray, List.append_toArray, List.nil_append, List.cons_append]
 gi_wp2_with (refine ⟨trivial, ?_⟩; gi_at_call 63; refine (gen_all _ _ _ _ _).mono ?_; rintro e w' ⟨rfl, rfl⟩)
 have bR := ((Boxed.new w 3 (.int .i64 0)).alloc (.cells #[.int .i64 0] 3)).alloc (.cells #[.slice A 4 c] 55)
 have bN := (Boxed.new (w.alloc (.cells #[.int .i64 0] 3)) 3 (.int .i64 0)).alloc (.cells #[.slice A 4 c] 55)
 have bL := Boxed.new ((w.alloc (.cells #[.int .i64 0] 3)).alloc (.cells #[.int .i64 0] 3)) 55 (.slice A 4 c)
 simp only [World.size_alloc] at bR bN bL
 have hB0 : Below w.heap.size w (((w.alloc (.cells #[.int .i64 0] 3)).alloc (.cells #[.int .i64 0] 3)).alloc (.cells #[.slice A 4 c] 55)) := (((Below.refl _ w).alloc (Nat.le_refl _) _).alloc (by simp) _).alloc (by simp; omega) _
 refine wpIn_rangeFunc_ownG rfl h1 (gf := 82) (lb := #[.pointer (some ⟨w.heap.size + 1 + 1, 0, none⟩)]) rfl trivial (enters_of Try.func82 (by kernel_rfl) rfl)
  (gen_stops 8 (by omega) (w.heap.size + 1 + 1) m hm A c w _ hC hB0 (by simp) bL.cell) belowK_t (belowK_b (by simp; omega)) (Below.refl _ _) (fun _ => rfl)
  (fun pre W => (Boxed W w.heap.size 3 (.int .i64 0) ∧ Boxed W (w.heap.size + 1) 3 (.int .i64 (pre.length : Int))) ∧ Below w.heap.size w W)
  (fun _ _ _ => False)
  (OwnFrom.and (Own.from (fun s A B row hs hg hr => ⟨boxed_own w.heap.size 3 (fun _ => .int .i64 0) s A B row hs.1 hg hr, boxed_own (w.heap.size + 1) 3 (fun (pre : List Unit) => .int .i64 (pre.length : Int)) s A B row hs.2 hg hr⟩) _) (ownFrom_below (Nat.le_refl _) (by simp; omega)))
  (fun _ _ _ _ _ hs _ _ => hs)
  ⟨⟨bR, bN⟩, hB0⟩
  (fun x => { tmps := #[.slice A 4 c, undef, .pointer (some ⟨w.heap.size, 0, none⟩), .pointer (some ⟨w.heap.size + 1, 0, none⟩), undef, .int .i64 7, .slice A 4 c, .int .i64 4, .bool false, .slice A 4 c, .func (.func 82) #[] #[.pointer (some ⟨w.heap.size + 1 + 1, 0, none⟩)], .int .i64 0, .int .i64 7, undef, undef, undef, undef, undef, undef, undef, undef, undef, undef], defers := [] }) ?assign ?body ?done ?stop
 case assign =>
  intro l x W K hK
  gi_wp2
  exact hK
 case body =>
  rintro l pre x W ⟨⟨hr, hn⟩, hB⟩ hlt
  have hw1 : wrap64 ((pre.length : Int) + 1) = ((pre.length + 1 : Nat) : Int) := by
   unfold wrap64
   omega
  have hw2 : IntKind.i64.wrap ((pre.length : Int) + 1) = ((pre.length + 1 : Nat) : Int) := by
   rw [IntKind.wrap_i64]
   omega
  have hnc : ∀ nd, (W.drewN nd).cell? ⟨w.heap.size + 1, 0, none⟩ = some (.int .i64 (pre.length : Int)) := fun _ => hn.cell
  have hnf : ∀ nd, (W.drewN nd).frozen? ⟨w.heap.size + 1, 0, none⟩ = false := fun _ => hn.frozen
  gi_wp2_with (refine ⟨trivial, ?_⟩; gi_at_call 38; refine (CallsIn.inRound l (callsIn_wide.2 (gFrame _))).mono ?_; rintro e w' ⟨rfl, ⟨nd, rfl⟩⟩)
  have hB1 : Below w.heap.size w (W.drewN nd) := ⟨hB.os, hB.tape, hB.output, hB.size, hB.block⟩
  have hB2 : Below w.heap.size W (W.drewN nd) := ⟨rfl, rfl, rfl, Nat.le_refl _, fun _ _ => rfl⟩
  have hK1 : KeepsOthers W (W.drewN nd) := ⟨Nat.le_refl _, fun _ _ h _ => h⟩
  have e1 : (((pre ++ [x]).length : Nat) : Int) = (pre.length : Int) + 1 := by simp
  exact ⟨(hK1.trans (KeepsOthers.setCell _ _ _)).from _, hB2.setCell (p := ⟨w.heap.size + 1, 0, none⟩) (by simp) _,
   ⟨Boxed.other (show Boxed (W.drewN nd) w.heap.size 3 (.int .i64 0) from hr) (by omega) _, by rw [e1]; exact Boxed.set _ (show Boxed (W.drewN nd) (w.heap.size + 1) 3 (.int .i64 (pre.length : Int)) from hn)⟩, hB1.setCell (p := ⟨w.heap.size + 1, 0, none⟩) (by simp) _⟩
 case done =>
  rintro D ys W hD rfl ⟨⟨hr, hn⟩, hB⟩ hK
  rw [List.length_replicate] at hn
  have hag : ∀ X : World, Below W.heap.size W X → Calls Try.prog 39 #[.slice A 4 c] X fun e W' => e = .returned (.map (some X.heap.size)) ∧ W'.ownsMap Try.prog 3 (plainElem (H := Unit) Try.prog 3) X.heap.size m (gD m) ∧ Below X.heap.size X W' := fun X hX => gen_ages m hm A c X (Kd.C_below hC (hB.trans (hX.mono hB.size)))
  have hag := Aside0.mk hag
  have hnc := hn.cell
  gi_wp2
  refine wpIn_wide.2 ?_
  refine reg_fin (G := fun w2 => w2.ownsMap Try.prog 3 (plainElem (H := Unit) Try.prog 3) W.drew.heap.size m (gD m) ∧ Below W.heap.size W w2) (a5 := { tmps := #[.slice A 4 c, undef, .pointer (some ⟨w.heap.size, 0, none⟩), .pointer (some ⟨w.heap.size + 1, 0, none⟩), undef, undef, .slice A 4 c, .int .i64 4, .bool false, .slice A 4 c, .func (.func 82) #[] #[.pointer (some ⟨w.heap.size + 1 + 1, 0, none⟩)], undef, undef, undef, undef, undef, undef, undef, .slice A 4 c, .map (some W.drew.heap.size), .int .i64 (m : Int), .int .i64 (m : Int), .bool false], defers := [{ target := .collected D, args := #[] }] }) (fun w2 hG => ?_) (fun HF => ?_)
  ·obtain ⟨_, hb2⟩ := hG
   have hr2 : Boxed w2 w.heap.size 3 (.int .i64 0) := hr.kept (grown_of_below hb2 none) (by simp)
   have hrc := hr2.cell
   have hrf := hr2.frozen
   gi_wp2
   have hK2 : w2.heap[D]? = some (.deferred (some [])) := (hb2.block D (Array.getElem?_eq_some_iff.1 hK).1).trans hK
   have hK' := (KeepsOthers.setCell w2 ⟨w.heap.size, 0, none⟩ (.int .i64 0)).same D _ hK2 rfl
   refine ⟨by simp, .inl ⟨_, _, rfl, run_takeDeferred hK', ?_⟩⟩
   have hc5 := cell_kept (World.cell?_setCell_same' w2 ⟨w.heap.size, 0, none⟩ (.int .i64 0) (by rw [hrc]; rfl)) (grownBy_putObj' _ D (.deferred none)) (fun r e => by cases e; exact ⟨_, hK', rfl⟩)
   refine ⟨.int .i64 0, ?_, rfl, ((hB.trans (hb2.mono hB.size)).setCell (p := ⟨w.heap.size, 0, none⟩) (Nat.le_refl _) _).trans (belowK_b (w := w) (Nat.le_refl _) _ D _ _ (by simp at hD; omega) hK' rfl rfl)⟩
   simp [results, Try.f37, go_sem, hc5]
  ·refine start_ (n := 5) (S := fun _ => True) (ds := []) #[false, false, false, false, false] hmx rfl rfl trivial (fun _ => ?_)
   refine two_ (i := 0) (j := 3) (Ni := (some 18)) (Nj := (some 21)) #[true, false, false, false, false] #[false, false, false, true, false] rfl rfl rfl rfl (by kernel_rfl) (by decide) (by decide) (fun K hK => ?_) (fun K hK => ?_)
   ·refine value_ (v := (.slice A 4 c)) (by rfl) rfl (by first | (go_simp; done) | (go_simp; rfl)) ?_
    refine hK.out _ _ trivial (fun _ => ?_)
    clear hK K
    refine norm_ (a' := { tmps := #[(.slice A 4 c), undef, (.pointer (some ⟨w.heap.size, 0, none⟩)), (.pointer (some ⟨w.heap.size + 1, 0, none⟩)), undef, undef, (.slice A 4 c), (.int .i64 4), (.bool false), (.slice A 4 c), (.func (.func 82) #[] #[.pointer (some ⟨w.heap.size + 1 + 1, 0, none⟩)]), undef, undef, undef, undef, undef, undef, undef, (.slice A 4 c), undef, undef, undef, undef], defers := [{ target := .collected D, args := #[] }] }) rfl ?_
    refine two_ (i := 1) (j := 3) (Ni := (some 19)) (Nj := (some 21)) #[true, true, false, false, false] #[true, false, false, true, false] rfl rfl rfl rfl (by kernel_rfl) (by decide) (by decide) (fun K hK => ?_) (fun K hK => ?_)
    ·refine goes_ Try.func39 (by kernel_rfl) rfl #[.slice A 4 c] (by rfl) rfl rfl (by (try simp only [List.map_toArray, List.map_cons, List.map_nil]); first | done | rfl) ?_
     refine (hag.out W.drew ⟨rfl, rfl, rfl, Nat.le_refl _, fun _ _ => rfl⟩).mono ?_
     rintro e w2 ⟨rfl, hown, hb2⟩
     refine ⟨_, rfl, ?_⟩
     have hlen : ∀ ty, (Builtin.len_ #[84] ty #[.map (some W.heap.size)]).run Try.prog w2 = .ok (.int .i64 (m : Int)) w2 := fun ty => by have := hown.len Try.underlying84 ty; rw [gD_size m hm] at this; exact this
     have hn2 : w2.cell? ⟨w.heap.size + 1, 0, none⟩ = some (.int .i64 (m : Int)) := (hb2.cell (p := ⟨w.heap.size + 1, 0, none⟩) hn.lt).trans hn.cell
     refine hK.out _ _ trivial (fun _ => ?_)
     clear hK K
     refine norm_ (a' := { tmps := #[(.slice A 4 c), undef, (.pointer (some ⟨w.heap.size, 0, none⟩)), (.pointer (some ⟨w.heap.size + 1, 0, none⟩)), undef, undef, (.slice A 4 c), (.int .i64 4), (.bool false), (.slice A 4 c), (.func (.func 82) #[] #[.pointer (some ⟨w.heap.size + 1 + 1, 0, none⟩)]), undef, undef, undef, undef, undef, undef, undef, (.slice A 4 c), (.map (some W.drew.heap.size)), undef, undef, undef], defers := [{ target := .collected D, args := #[] }] }) rfl ?_
     refine two_ (i := 2) (j := 3) (Ni := (some 20)) (Nj := (some 21)) #[true, true, true, false, false] #[true, true, false, true, false] rfl rfl rfl rfl (by kernel_rfl) (by decide) (by decide) (fun K hK => ?_) (fun K hK => ?_)
     ·refine value_ (v := (.int .i64 (m : Int))) (by rfl) rfl (by first | (go_simp; done) | (go_simp; rfl)) ?_
      refine hK.out _ _ trivial (fun _ => ?_)
      clear hK K
      refine norm_ (a' := { tmps := #[(.slice A 4 c), undef, (.pointer (some ⟨w.heap.size, 0, none⟩)), (.pointer (some ⟨w.heap.size + 1, 0, none⟩)), undef, undef, (.slice A 4 c), (.int .i64 4), (.bool false), (.slice A 4 c), (.func (.func 82) #[] #[.pointer (some ⟨w.heap.size + 1 + 1, 0, none⟩)]), undef, undef, undef, undef, undef, undef, undef, (.slice A 4 c), (.map (some W.drew.heap.size)), (.int .i64 (m : Int)), undef, undef], defers := [{ target := .collected D, args := #[] }] }) rfl ?_
      refine one_ (i := 3) (N := (some 21)) #[true, true, true, true, false] rfl rfl (by kernel_rfl) (by decide) (fun K hK => ?_)
      refine value_ (v := (.int .i64 (m : Int))) (by rfl) rfl (by first | (go_simp; done) | (go_simp; rfl)) ?_
      refine hK.out _ _ trivial (fun _ => ?_)
      clear hK K
      refine norm_ (a' := { tmps := #[(.slice A 4 c), undef, (.pointer (some ⟨w.heap.size, 0, none⟩)), (.pointer (some ⟨w.heap.size + 1, 0, none⟩)), undef, undef, (.slice A 4 c), (.int .i64 4), (.bool false), (.slice A 4 c), (.func (.func 82) #[] #[.pointer (some ⟨w.heap.size + 1 + 1, 0, none⟩)]), undef, undef, undef, undef, undef, undef, undef, (.slice A 4 c), (.map (some W.drew.heap.size)), (.int .i64 (m : Int)), (.int .i64 (m : Int)), undef], defers := [{ target := .collected D, args := #[] }] }) rfl ?_
      refine one_ (i := 4) (N := (some 22)) #[true, true, true, true, true] rfl rfl (by kernel_rfl) (by decide) (fun K hK => ?_)
      refine value_ (v := (.bool false)) (by rfl) rfl (by first | (go_simp; done) | (go_simp; rfl)) ?_
      refine hK.out _ _ trivial (fun _ => ?_)
      clear hK K
      refine norm_ (a' := { tmps := #[(.slice A 4 c), undef, (.pointer (some ⟨w.heap.size, 0, none⟩)), (.pointer (some ⟨w.heap.size + 1, 0, none⟩)), undef, undef, (.slice A 4 c), (.int .i64 4), (.bool false), (.slice A 4 c), (.func (.func 82) #[] #[.pointer (some ⟨w.heap.size + 1 + 1, 0, none⟩)]), undef, undef, undef, undef, undef, undef, undef, (.slice A 4 c), (.map (some W.drew.heap.size)), (.int .i64 (m : Int)), (.int .i64 (m : Int)), (.bool false)], defers := [{ target := .collected D, args := #[] }] }) rfl ?_
      refine done_ (by kernel_rfl) ?_
      exact HF _ ⟨hown, ⟨hb2.os, hb2.tape, hb2.output, hb2.size, hb2.block⟩⟩
     ·refine value_ (v := (.int .i64 (m : Int))) (by rfl) rfl (by first | (go_simp; done) | (go_simp; rfl)) ?_
      refine hK.out _ _ trivial (fun _ => ?_)
      clear hK K
      refine norm_ (a' := { tmps := #[(.slice A 4 c), undef, (.pointer (some ⟨w.heap.size, 0, none⟩)), (.pointer (some ⟨w.heap.size + 1, 0, none⟩)), undef, undef, (.slice A 4 c), (.int .i64 4), (.bool false), (.slice A 4 c), (.func (.func 82) #[] #[.pointer (some ⟨w.heap.size + 1 + 1, 0, none⟩)]), undef, undef, undef, undef, undef, undef, undef, (.slice A 4 c), (.map (some W.drew.heap.size)), undef, (.int .i64 (m : Int)), undef], defers := [{ target := .collected D, args := #[] }] }) rfl ?_
      refine one_ (i := 2) (N := (some 20)) #[true, true, true, true, false] rfl rfl (by kernel_rfl) (by decide) (fun K hK => ?_)
      refine value_ (v := (.int .i64 (m : Int))) (by rfl) rfl (by first | (go_simp; done) | (go_simp; rfl)) ?_
      refine hK.out _ _ trivial (fun _ => ?_)
      clear hK K
      refine norm_ (a' := { tmps := #[(.slice A 4 c), undef, (.pointer (some ⟨w.heap.size, 0, none⟩)), (.pointer (some ⟨w.heap.size + 1, 0, none⟩)), undef, undef, (.slice A 4 c), (.int .i64 4), (.bool false), (.slice A 4 c), (.func (.func 82) #[] #[.pointer (some ⟨w.heap.size + 1 + 1, 0, none⟩)]), undef, undef, undef, undef, undef, undef, undef, (.slice A 4 c), (.map (some W.drew.heap.size)), (.int .i64 (m : Int)), (.int .i64 (m : Int)), undef], defers := [{ target := .collected D, args := #[] }] }) rfl ?_
      refine one_ (i := 4) (N := (some 22)) #[true, true, true, true, true] rfl rfl (by kernel_rfl) (by decide) (fun K hK => ?_)
      refine value_ (v := (.bool false)) (by rfl) rfl (by first | (go_simp; done) | (go_simp; rfl)) ?_
      refine hK.out _ _ trivial (fun _ => ?_)
      clear hK K
      refine norm_ (a' := { tmps := #[(.slice A 4 c), undef, (.pointer (some ⟨w.heap.size, 0, none⟩)), (.pointer (some ⟨w.heap.size + 1, 0, none⟩)), undef, undef, (.slice A 4 c), (.int .i64 4), (.bool false), (.slice A 4 c), (.func (.func 82) #[] #[.pointer (some ⟨w.heap.size + 1 + 1, 0, none⟩)]), undef, undef, undef, undef, undef, undef, undef, (.slice A 4 c), (.map (some W.drew.heap.size)), (.int .i64 (m : Int)), (.int .i64 (m : Int)), (.bool false)], defers := [{ target := .collected D, args := #[] }] }) rfl ?_
      refine done_ (by kernel_rfl) ?_
      exact HF _ ⟨hown, ⟨hb2.os, hb2.tape, hb2.output, hb2.size, hb2.block⟩⟩
    ·refine value_ (v := (.int .i64 (m : Int))) (by rfl) rfl (by first | (go_simp; done) | (go_simp; rfl)) ?_
     refine hK.out _ _ trivial (fun _ => ?_)
     clear hK K
     refine norm_ (a' := { tmps := #[(.slice A 4 c), undef, (.pointer (some ⟨w.heap.size, 0, none⟩)), (.pointer (some ⟨w.heap.size + 1, 0, none⟩)), undef, undef, (.slice A 4 c), (.int .i64 4), (.bool false), (.slice A 4 c), (.func (.func 82) #[] #[.pointer (some ⟨w.heap.size + 1 + 1, 0, none⟩)]), undef, undef, undef, undef, undef, undef, undef, (.slice A 4 c), undef, undef, (.int .i64 (m : Int)), undef], defers := [{ target := .collected D, args := #[] }] }) rfl ?_
     refine one_ (i := 1) (N := (some 19)) #[true, true, false, true, false] rfl rfl (by kernel_rfl) (by decide) (fun K hK => ?_)
     refine goes_ Try.func39 (by kernel_rfl) rfl #[.slice A 4 c] (by rfl) rfl rfl (by (try simp only [List.map_toArray, List.map_cons, List.map_nil]); first | done | rfl) ?_
     refine (hag.out W.drew ⟨rfl, rfl, rfl, Nat.le_refl _, fun _ _ => rfl⟩).mono ?_
     rintro e w2 ⟨rfl, hown, hb2⟩
     refine ⟨_, rfl, ?_⟩
     have hlen : ∀ ty, (Builtin.len_ #[84] ty #[.map (some W.heap.size)]).run Try.prog w2 = .ok (.int .i64 (m : Int)) w2 := fun ty => by have := hown.len Try.underlying84 ty; rw [gD_size m hm] at this; exact this
     have hn2 : w2.cell? ⟨w.heap.size + 1, 0, none⟩ = some (.int .i64 (m : Int)) := (hb2.cell (p := ⟨w.heap.size + 1, 0, none⟩) hn.lt).trans hn.cell
     refine hK.out _ _ trivial (fun _ => ?_)
     clear hK K
     refine norm_ (a' := { tmps := #[(.slice A 4 c), undef, (.pointer (some ⟨w.heap.size, 0, none⟩)), (.pointer (some ⟨w.heap.size + 1, 0, none⟩)), undef, undef, (.slice A 4 c), (.int .i64 4), (.bool false), (.slice A 4 c), (.func (.func 82) #[] #[.pointer (some ⟨w.heap.size + 1 + 1, 0, none⟩)]), undef, undef, undef, undef, undef, undef, undef, (.slice A 4 c), (.map (some W.drew.heap.size)), undef, (.int .i64 (m : Int)), undef], defers := [{ target := .collected D, args := #[] }] }) rfl ?_
     refine one_ (i := 2) (N := (some 20)) #[true, true, true, true, false] rfl rfl (by kernel_rfl) (by decide) (fun K hK => ?_)
     refine value_ (v := (.int .i64 (m : Int))) (by rfl) rfl (by first | (go_simp; done) | (go_simp; rfl)) ?_
     refine hK.out _ _ trivial (fun _ => ?_)
     clear hK K
     refine norm_ (a' := { tmps := #[(.slice A 4 c), undef, (.pointer (some ⟨w.heap.size, 0, none⟩)), (.pointer (some ⟨w.heap.size + 1, 0, none⟩)), undef, undef, (.slice A 4 c), (.int .i64 4), (.bool false), (.slice A 4 c), (.func (.func 82) #[] #[.pointer (some ⟨w.heap.size + 1 + 1, 0, none⟩)]), undef, undef, undef, undef, undef, undef, undef, (.slice A 4 c), (.map (some W.drew.heap.size)), (.int .i64 (m : Int)), (.int .i64 (m : Int)), undef], defers := [{ target := .collected D, args := #[] }] }) rfl ?_
     refine one_ (i := 4) (N := (some 22)) #[true, true, true, true, true] rfl rfl (by kernel_rfl) (by decide) (fun K hK => ?_)
     refine value_ (v := (.bool false)) (by rfl) rfl (by first | (go_simp; done) | (go_simp; rfl)) ?_
     refine hK.out _ _ trivial (fun _ => ?_)
     clear hK K
     refine norm_ (a' := { tmps := #[(.slice A 4 c), undef, (.pointer (some ⟨w.heap.size, 0, none⟩)), (.pointer (some ⟨w.heap.size + 1, 0, none⟩)), undef, undef, (.slice A 4 c), (.int .i64 4), (.bool false), (.slice A 4 c), (.func (.func 82) #[] #[.pointer (some ⟨w.heap.size + 1 + 1, 0, none⟩)]), undef, undef, undef, undef, undef, undef, undef, (.slice A 4 c), (.map (some W.drew.heap.size)), (.int .i64 (m : Int)), (.int .i64 (m : Int)), (.bool false)], defers := [{ target := .collected D, args := #[] }] }) rfl ?_
     refine done_ (by kernel_rfl) ?_
     exact HF _ ⟨hown, ⟨hb2.os, hb2.tape, hb2.output, hb2.size, hb2.block⟩⟩
   ·refine value_ (v := (.int .i64 (m : Int))) (by rfl) rfl (by first | (go_simp; done) | (go_simp; rfl)) ?_
    refine hK.out _ _ trivial (fun _ => ?_)
    clear hK K
    refine norm_ (a' := { tmps := #[(.slice A 4 c), undef, (.pointer (some ⟨w.heap.size, 0, none⟩)), (.pointer (some ⟨w.heap.size + 1, 0, none⟩)), undef, undef, (.slice A 4 c), (.int .i64 4), (.bool false), (.slice A 4 c), (.func (.func 82) #[] #[.pointer (some ⟨w.heap.size + 1 + 1, 0, none⟩)]), undef, undef, undef, undef, undef, undef, undef, undef, undef, undef, (.int .i64 (m : Int)), undef], defers := [{ target := .collected D, args := #[] }] }) rfl ?_
    refine one_ (i := 0) (N := (some 18)) #[true, false, false, true, false] rfl rfl (by kernel_rfl) (by decide) (fun K hK => ?_)
    refine value_ (v := (.slice A 4 c)) (by rfl) rfl (by first | (go_simp; done) | (go_simp; rfl)) ?_
    refine hK.out _ _ trivial (fun _ => ?_)
    clear hK K
    refine norm_ (a' := { tmps := #[(.slice A 4 c), undef, (.pointer (some ⟨w.heap.size, 0, none⟩)), (.pointer (some ⟨w.heap.size + 1, 0, none⟩)), undef, undef, (.slice A 4 c), (.int .i64 4), (.bool false), (.slice A 4 c), (.func (.func 82) #[] #[.pointer (some ⟨w.heap.size + 1 + 1, 0, none⟩)]), undef, undef, undef, undef, undef, undef, undef, (.slice A 4 c), undef, undef, (.int .i64 (m : Int)), undef], defers := [{ target := .collected D, args := #[] }] }) rfl ?_
    refine one_ (i := 1) (N := (some 19)) #[true, true, false, true, false] rfl rfl (by kernel_rfl) (by decide) (fun K hK => ?_)
    refine goes_ Try.func39 (by kernel_rfl) rfl #[.slice A 4 c] (by rfl) rfl rfl (by (try simp only [List.map_toArray, List.map_cons, List.map_nil]); first | done | rfl) ?_
    refine (hag.out W.drew ⟨rfl, rfl, rfl, Nat.le_refl _, fun _ _ => rfl⟩).mono ?_
    rintro e w2 ⟨rfl, hown, hb2⟩
    refine ⟨_, rfl, ?_⟩
    have hlen : ∀ ty, (Builtin.len_ #[84] ty #[.map (some W.heap.size)]).run Try.prog w2 = .ok (.int .i64 (m : Int)) w2 := fun ty => by have := hown.len Try.underlying84 ty; rw [gD_size m hm] at this; exact this
    have hn2 : w2.cell? ⟨w.heap.size + 1, 0, none⟩ = some (.int .i64 (m : Int)) := (hb2.cell (p := ⟨w.heap.size + 1, 0, none⟩) hn.lt).trans hn.cell
    refine hK.out _ _ trivial (fun _ => ?_)
    clear hK K
    refine norm_ (a' := { tmps := #[(.slice A 4 c), undef, (.pointer (some ⟨w.heap.size, 0, none⟩)), (.pointer (some ⟨w.heap.size + 1, 0, none⟩)), undef, undef, (.slice A 4 c), (.int .i64 4), (.bool false), (.slice A 4 c), (.func (.func 82) #[] #[.pointer (some ⟨w.heap.size + 1 + 1, 0, none⟩)]), undef, undef, undef, undef, undef, undef, undef, (.slice A 4 c), (.map (some W.drew.heap.size)), undef, (.int .i64 (m : Int)), undef], defers := [{ target := .collected D, args := #[] }] }) rfl ?_
    refine one_ (i := 2) (N := (some 20)) #[true, true, true, true, false] rfl rfl (by kernel_rfl) (by decide) (fun K hK => ?_)
    refine value_ (v := (.int .i64 (m : Int))) (by rfl) rfl (by first | (go_simp; done) | (go_simp; rfl)) ?_
    refine hK.out _ _ trivial (fun _ => ?_)
    clear hK K
    refine norm_ (a' := { tmps := #[(.slice A 4 c), undef, (.pointer (some ⟨w.heap.size, 0, none⟩)), (.pointer (some ⟨w.heap.size + 1, 0, none⟩)), undef, undef, (.slice A 4 c), (.int .i64 4), (.bool false), (.slice A 4 c), (.func (.func 82) #[] #[.pointer (some ⟨w.heap.size + 1 + 1, 0, none⟩)]), undef, undef, undef, undef, undef, undef, undef, (.slice A 4 c), (.map (some W.drew.heap.size)), (.int .i64 (m : Int)), (.int .i64 (m : Int)), undef], defers := [{ target := .collected D, args := #[] }] }) rfl ?_
    refine one_ (i := 4) (N := (some 22)) #[true, true, true, true, true] rfl rfl (by kernel_rfl) (by decide) (fun K hK => ?_)
    refine value_ (v := (.bool false)) (by rfl) rfl (by first | (go_simp; done) | (go_simp; rfl)) ?_
    refine hK.out _ _ trivial (fun _ => ?_)
    clear hK K
    refine norm_ (a' := { tmps := #[(.slice A 4 c), undef, (.pointer (some ⟨w.heap.size, 0, none⟩)), (.pointer (some ⟨w.heap.size + 1, 0, none⟩)), undef, undef, (.slice A 4 c), (.int .i64 4), (.bool false), (.slice A 4 c), (.func (.func 82) #[] #[.pointer (some ⟨w.heap.size + 1 + 1, 0, none⟩)]), undef, undef, undef, undef, undef, undef, undef, (.slice A 4 c), (.map (some W.drew.heap.size)), (.int .i64 (m : Int)), (.int .i64 (m : Int)), (.bool false)], defers := [{ target := .collected D, args := #[] }] }) rfl ?_
    refine done_ (by kernel_rfl) ?_
    exact HF _ ⟨hown, ⟨hb2.os, hb2.tape, hb2.output, hb2.size, hb2.block⟩⟩
 case stop =>
  rintro D c pre W _ _ h _
  exact h.elim
end gen
def generations_Check.f (l0 : List (List Int)) : Option Int := if l0 = gL 0 ∨ l0 = gL 1 then some 0 else none
theorem gC {w : World} {A : Option Addr} {l0 : List (List Int)} {m : Nat} (hl : l0 = gL m) (h : Kd.C (Kd.slice 3 (Kd.int .i64)) w A l0.length l0) : Kd.C kG w A 4 (gL m) := by
 subst hl
 exact h
theorem generations_Check.calls (A0 : Option Addr) (c0 : Nat) (l0 : List (List Int)) (r : Int) (w : World) (hr0 : Kd.C (Kd.slice 3 (Kd.int .i64)) w A0 l0.length l0) (hc0 : l0.length ≤ c0) (h : generations_Check.f l0 = some r) :
  Calls Try.prog 37 #[.slice A0 l0.length c0] w fun e w' => e = .returned (.int .i64 r) ∧ Below w.heap.size w w' := by
 unfold generations_Check.f at h
 split at h
 ·rename_i hc
  obtain rfl := Option.some.inj h
  rcases hc with hl | hl
  ·have h2 := gen_check 0 (by omega) A0 c0 w (gC hl hr0)
   rw [hl]
   exact h2
  ·have h2 := gen_check 1 (by omega) A0 c0 w (gC hl hr0)
   rw [hl]
   exact h2
 ·cases h
theorem gen_ages0 (m : Nat) (hm : m ≤ 1) (l0 : List (List Int)) (hl : l0 = gL m) (A : Option Addr) (c : Nat) (w : World) (hC : Kd.C (Kd.slice 3 (Kd.int .i64)) w A l0.length l0) :
  Calls Try.prog 39 #[.slice A l0.length c] w fun e W' => e = .returned (.map (some w.heap.size)) ∧ W'.ownsMap Try.prog 3 (plainElem (H := Unit) Try.prog 3) w.heap.size m (gD m) ∧ Below w.heap.size w W' := by
 subst hl
 exact gen_ages m hm A c w hC
def slices_Clone_int_int.f (l0 : List Int) : Option (List Int) := (some (([] : List Int) : List Int)).bind fun y226 => (if y226.length + l0.length < 17592186044416 then (some (y226 ++ l0)) else (none))
set_option maxHeartbeats 8000000 in
set_option maxRecDepth 100000 in
theorem slices_Clone_int_int.calls (A0 : Option Addr) (c0 : Nat) (l0 : List Int) (r : List Int) (w : World) (hr0 : Kd.C (Kd.int .i64) w A0 l0.length l0) (hc0 : l0.length ≤ c0) (h : slices_Clone_int_int.f l0 = some r) :
  Calls Try.prog 64 #[.slice A0 l0.length c0] w fun e w' => ∃ v0_ : Value, e = .returned (v0_) ∧ Kd.R (Kd.int .i64) 3 w' w.heap.size (fun _ => True) v0_ r ∧ Below w.heap.size w w' := by
 cases A0 with
 | none =>
  obtain rfl : l0 = [] := by
   rcases Nat.eq_zero_or_pos l0.length with h0 | h0
   ·exact List.length_eq_zero_iff.1 h0
   ·obtain ⟨ad, e, _⟩ := hr0.2.2 h0
    cases e
  obtain rfl : r = [] := by simpa [slices_Clone_int_int.f] using h.symm
  clear h hr0
  have hn_ := nil_yes Try.underlying30
  go_enter Try.func64, Try.ntmps64
  go_wp2
  go_ret
  exact ⟨_, rfl, Kd.R_nil _ _ _ _ _, by repeat (first | exact Below.refl _ _ | apply below_alloc | apply pw_below_drewN | apply below_drew1)⟩
 | some ad_ =>
  have hn_ := nil_no ad_ Try.underlying30
  have HR0 := Aside0.mk hr0
  have HC0 := Aside0.mk hc0
  clear hr0 hc0
  have HB := Aside0.mk (Below.refl w.heap.size w)
  have H : ((some (([] : List Int) : List Int)).bind fun y226 => (if y226.length + l0.length < 17592186044416 then (some (y226 ++ l0)) else (none))) = some r := h
  clear h
  obtain ⟨y226, hy226⟩ : ∃ y_ : List Int, y_ = (([] : List Int)) := ⟨_, rfl⟩
  replace H : (if y226.length + l0.length < 17592186044416 then (some (y226 ++ l0)) else (none)) = some r := by first | (rw [hy226]; with_reducible exact H) | (have H2_ := (Option.bind_some _ _).symm.trans H; rw [hy226]; with_reducible exact H2_) | (have H2_ := (Option.bind_some _ _).symm.trans H; with_reducible exact H2_) | with_reducible exact H | (rw [hy226]; exact H) | exact H
  have Ny226 := Aside0.mk hy226
  clear hy226
  by_cases c2 : y226.length + l0.length < 17592186044416
  ·rw [if_pos c2] at H
   have LMc2 := Aside0.mk c2
   clear c2
   obtain ⟨y229, hy229⟩ : ∃ y_ : List Int, y_ = (y226 ++ l0) := ⟨_, rfl⟩
   replace H : (some y229) = some r := by first | (rw [hy229]; with_reducible exact H) | (have H2_ := (Option.bind_some _ _).symm.trans H; rw [hy229]; with_reducible exact H2_) | (have H2_ := (Option.bind_some _ _).symm.trans H; with_reducible exact H2_) | with_reducible exact H | (rw [hy229]; exact H) | exact H
   have Ny229 := Aside0.mk hy229
   clear hy229
   obtain rfl := Option.some.inj H
   go_enter Try.func64, Try.ntmps64
   go_wp2_with (first | ((with_reducible refine gate_dst (N := 5) rfl ?_); refine Kd.R_lit (Kd.int .i64) _ 3 ?hg (N := 5) ?hd (xs := ([] : List Int)) (inner := []) (ok := fun _ => True) (okp := fun _ => True) ?hr ?hp (fun _ hk => hk) trivial (Below.refl _ _) (Nat.le_refl _) (by simp) ?_; (case hd => rfl); (case hg => rfl); (case hr => first | (go_simp; done) | (go_simp; rfl)); (case hp => exact (Reps.none _ _)); intro v227 w3 ho4 hb hg_ hnew_; clear hg_ hnew_; (first | rw [← Ny226.out] at ho4 | (simp only [Int.reduceToNat] at ho4; rw [← Ny226.out] at ho4)); have n0_ := Aside0.mk (Kd.R_lower ho4 (below_size (by repeat (first | (with_reducible first | exact HB.out | apply below_alloc | apply pw_below_drewN | apply below_drew1) | exact HB.out)))); have n1_ := Aside0.mk (below_step (by repeat (first | (with_reducible first | exact HB.out | apply below_alloc | apply pw_below_drewN | apply below_drew1) | exact HB.out)) hb); clear HB; have HO228 := n0_; have HB := n1_; clear n0_ n1_; clear hb ho4) | ((with_reducible refine gate_builtin (b := .append) (xs := #[.tmp 5, .tmp 6]) rfl ?_); at_builtin; refine Kd.R_append_rows (Kd.int .i64) (w0 := w) w.heap.size rfl (.tmp 5) (.tmp 6) 30 3 (.int .i64 0) 8 rfl Try.underlying30 info3 rfl (by decide) (by omega) v227 y226 l0 _ _ _ (fun _ => True) (fun _ => False) rfl rfl ?aO ?aR (fun _ _ h => h) (fun _ h => h.elim) ?aF ?aB ?aS ?aL ?_; (case aR => repeat (first | exact (Kd.C_below HR0.out HB.out) | (with_reducible refine Kd.C_alloc ?_ _) | (with_reducible refine Kd.C_drewN ?_ _) | (with_reducible refine Kd.C_drew ?_))); (case aB => exact (by repeat (first | (with_reducible first | exact HB.out | apply below_alloc | apply pw_below_drewN | apply below_drew1) | exact HB.out))); (case aF => exact (fun _ _ => trivial)); (case aO => exact (by (with_reducible repeat (first | apply Kd.R_alloc | apply Kd.R_drewN | apply Kd.R_drew)); exact HO228.out)); (case aS => exact (below_size (by repeat (first | (with_reducible first | exact HB.out | apply below_alloc | apply pw_below_drewN | apply below_drew1) | exact HB.out)))); (case aL => have := LMc2.out; omega); intro v230 w5 ho hb hg hat; rw [← Ny229.out] at ho; have n0_ := Aside0.mk (hb); have n1_ := Aside0.mk (ho); clear HB; clear HO228; have HB := n0_; have HO231 := n1_; clear n0_ n1_; clear ho hb hg hat))
   go_ret
   exact ⟨_, by first | rfl | (simp [errW_none, errW_some] <;> rfl) | (simp [*, errW_none, errW_some] <;> rfl), by (with_reducible repeat (first | apply Kd.R_alloc | apply Kd.R_drewN | apply Kd.R_drew)); exact HO231.out, by repeat (first | (with_reducible first | exact HB.out | apply below_alloc | apply pw_below_drewN | apply below_drew1) | exact HB.out)⟩
  ·rw [if_neg c2] at H
   exact absurd H (by simp)
def generations_clone.l0 : Nat → List (List Int) → List (List Int) → Int → Int → Option ((List (List Int)))
 | 0, _, _, _, _ => none
 | k + 1, x0, x3, x9, x10 => if x10 < x9 then (if 0 ≤ x10 then (if x10 < (x0.length : Int) then ((slices_Clone_int_int.f (rd_L4 x0 x10)).bind fun t247 => (if x10 < (x3.length : Int) then (generations_clone.l0 k x0 (x3.set (x10 : Int).toNat t247) x9 (wrap64 (x10 + 1))) else (none))) else (none)) else (none)) else (some x3)
def generations_clone.f (k : Nat) (l0 : List (List Int)) : Option ((List (List Int))) := if 0 ≤ (l0.length : Int) then (if ((l0.length : Int) : Int).toNat ≤ 11728124029610 then (generations_clone.l0 k l0 (List.replicate ((l0.length : Int) : Int).toNat []) (l0.length : Int) 0) else (none)) else (none)
theorem generations_clone.mono_l : ∀ k, (∀ y0 y1 y2 y3, LeO (generations_clone.l0 k y0 y1 y2 y3) (generations_clone.l0 (k + 1) y0 y1 y2 y3))
 | 0 => fun _ _ _ _ r h => by simp [generations_clone.l0] at h
 | k + 1 => by
  have ih0 := generations_clone.mono_l k
  ·intro y0 y1 y2 y3
   unfold generations_clone.l0
   repeat' first
   | (with_reducible exact ih0 _ _ _ _)
   | (with_reducible exact LeO.refl _)
   | (with_reducible exact LeO.none _)
   | (with_reducible refine LeO.ite ?_ ?_)
   | (with_reducible refine LeO.bind ?_ (fun _ => ?_))
   | exact ih0 _ _ _ _
   | exact LeO.none _
   | refine LeO.ite ?_ ?_
   | refine LeO.bind ?_ (fun _ => ?_)
theorem generations_clone.mono : ∀ a0 k, LeO (generations_clone.f k a0) (generations_clone.f (k + 1) a0) := by
 intro a0 k
 have ih0 := generations_clone.mono_l k
 unfold generations_clone.f
 repeat' first
   | (with_reducible exact ih0 _ _ _ _)
   | (with_reducible exact LeO.refl _)
   | (with_reducible exact LeO.none _)
   | (with_reducible refine LeO.ite ?_ ?_)
   | (with_reducible refine LeO.bind ?_ (fun _ => ?_))
   | exact ih0 _ _ _ _
   | exact LeO.none _
   | refine LeO.ite ?_ ?_
   | refine LeO.bind ?_ (fun _ => ?_)
set_option maxHeartbeats 8000000 in
set_option maxRecDepth 100000 in
theorem generations_clone.calls (k : Nat) (A0 : Option Addr) (c0 : Nat) (l0 : List (List Int)) (r : List (List Int)) (w : World) (hr0 : Kd.C (Kd.slice 3 (Kd.int .i64)) w A0 l0.length l0) (hc0 : l0.length ≤ c0) (h : generations_clone.f k l0 = some r) :
  Calls Try.prog 40 #[.slice A0 l0.length c0] w fun e w' => ∃ v0_ : Value, e = .returned (v0_) ∧ Kd.S (Kd.slice 3 (Kd.int .i64)) 30 w' w.heap.size (fun _ => True) v0_ r ∧ Below w.heap.size w w' := by
 have HR0 := Aside0.mk hr0
 have HC0 := Aside0.mk hc0
 clear hr0 hc0
 have HB := Aside0.mk (Below.refl w.heap.size w)
 have H : (if 0 ≤ (l0.length : Int) then (if ((l0.length : Int) : Int).toNat ≤ 11728124029610 then (generations_clone.l0 k l0 (List.replicate ((l0.length : Int) : Int).toNat []) (l0.length : Int) 0) else (none)) else (none)) = some r := h
 clear h
 by_cases c2 : 0 ≤ (l0.length : Int)
 ·rw [if_pos c2] at H
  have c2b0 := eq_true c2
  have c2b1 : decide (0 ≤ (l0.length : Int)) = true := decide_eq_true c2
  clear c2
  by_cases c3 : ((l0.length : Int) : Int).toNat ≤ 11728124029610
  ·rw [if_pos c3] at H
   have c3b0 := eq_true c3
   have c3b1 : decide (((l0.length : Int) : Int).toNat ≤ 11728124029610) = true := decide_eq_true c3
   clear c3
   obtain ⟨y243, hy243⟩ : ∃ y_ : List (List Int), y_ = (List.replicate ((l0.length : Int) : Int).toNat []) := ⟨_, rfl⟩
   replace H : (generations_clone.l0 k l0 y243 (l0.length : Int) 0) = some r := by first | (rw [hy243]; with_reducible exact H) | (have H2_ := (Option.bind_some _ _).symm.trans H; rw [hy243]; with_reducible exact H2_) | (have H2_ := (Option.bind_some _ _).symm.trans H; with_reducible exact H2_) | with_reducible exact H | (rw [hy243]; exact H) | exact H
   have Ny243 := Aside0.mk hy243
   clear hy243
   have H' := Aside0.mk H
   clear H
   go_enter Try.func40, Try.ntmps40
   go_wp2_with (first | ((with_reducible refine gate_dst (N := 7) rfl ?_); refine Kd.S_make (Kd.slice 3 (Kd.int .i64)) _ 30 rfl (N := 7) rfl 55 _ _ rfl (l0.length : Int) rfl rfl Try.underlying55 (.slice none 0 0) 24 info30 rfl (by decide) (by omega) [] (ok := fun _ => True) (okp := fun _ => True) ⟨_, rfl, Kd.R_nil _ _ _ _ _⟩ (fun _ hk => hk) trivial (of_decide_eq_true (by first | (with_reducible assumption) | assumption)) (Nat.le_trans (Nat.mul_le_mul_right _ (of_decide_eq_true (by first | (with_reducible assumption) | assumption) : (l0.length : Int).toNat ≤ 11728124029610)) (by omega)) (Below.refl _ _) (Nat.le_refl _) ?_; intro v244 w4 ho5 hb hg_ hnew_; clear hg_ hnew_; (first | rw [← Ny243.out] at ho5 | (simp only [Int.reduceToNat] at ho5; rw [← Ny243.out] at ho5)); have n0_ := Aside0.mk (Kd.S_lower ho5 (below_size (by repeat (first | (with_reducible first | exact HB.out | apply below_alloc | apply pw_below_drewN | apply below_drew1) | exact HB.out)))); have n1_ := Aside0.mk (below_step (by repeat (first | (with_reducible first | exact HB.out | apply below_alloc | apply pw_below_drewN | apply below_drew1) | exact HB.out)) hb); clear HB; have HO245 := n0_; have HB := n1_; clear n0_ n1_; clear hb ho5))
   go_loopg [10] k (fun kq v10 w' => ∃ (x3_1 : List (List Int)) (x10_1 : Int), v10 = .int .i64 x10_1 ∧ Aside0 (generations_clone.l0 kq l0 x3_1 (l0.length : Int) x10_1 = some r) ∧ Aside0 (kq ≤ k) ∧ Aside0 (Kd.S (Kd.slice 3 (Kd.int .i64)) 30 w' w.heap.size (fun _ => True) v244 x3_1) ∧ Aside0 (Below w.heap.size w w'))
   case atStart => exact ⟨(y243), (0), (by first | rfl | (simp; done) | (simp [*]; done)), H', ⟨Nat.le_refl _⟩, ⟨by (with_reducible repeat (first | apply Kd.S_alloc | apply Kd.S_drewN | apply Kd.S_drew)); exact HO245.out⟩, ⟨by repeat (first | (with_reducible first | exact HB.out | apply below_alloc | apply pw_below_drewN | apply below_drew1) | exact HB.out)⟩⟩
   case round =>
    clear H'
    try clear c2
    try clear c2b0
    try clear c2b1
    try clear p2
    try clear c3
    try clear c3b0
    try clear c3b1
    try clear c4
    obtain ⟨x3_1, x10_1, rfl, HA, HK1, HO_3, HB⟩ := hrel
    cases gk with
    | zero => exact absurd HA.out (by simp [generations_clone.l0])
    | succ k1 =>
     have H := HA.out
     clear HA
     simp only [generations_clone.l0] at H
     by_cases c6 : x10_1 < (l0.length : Int)
     ·rw [if_pos c6] at H
      have c6b0 : decide (x10_1 < (l0.length : Int)) = true := decide_eq_true c6
      clear c6
      by_cases c7 : 0 ≤ x10_1
      ·rw [if_pos c7] at H
       have c7b0 : decide (0 ≤ x10_1) = true := decide_eq_true c7
       clear c7
       by_cases c8 : x10_1 < (l0.length : Int)
       ·rw [if_pos c8] at H
        have c8b0 : decide (x10_1 < (l0.length : Int)) = true := decide_eq_true c8
        clear c8
        replace H := Option.bind_eq_some_iff.mp H
        obtain ⟨t247, A90, H⟩ := H
        replace H : (if x10_1 < (x3_1.length : Int) then (generations_clone.l0 k1 l0 (x3_1.set (x10_1 : Int).toNat t247) (l0.length : Int) (wrap64 (x10_1 + 1))) else (none)) = some r := H
        have A9 := Aside0.mk A90
        clear A90
        by_cases c10 : x10_1 < (x3_1.length : Int)
        ·rw [if_pos c10] at H
         have c10b0 : decide (x10_1 < (x3_1.length : Int)) = true := decide_eq_true c10
         clear c10
         obtain ⟨y250, hy250⟩ : ∃ y_ : List (List Int), y_ = (x3_1.set (x10_1 : Int).toNat t247) := ⟨_, rfl⟩
         replace H : (generations_clone.l0 k1 l0 y250 (l0.length : Int) (wrap64 (x10_1 + 1))) = some r := by first | (rw [hy250]; with_reducible exact H) | (have H2_ := (Option.bind_some _ _).symm.trans H; rw [hy250]; with_reducible exact H2_) | (have H2_ := (Option.bind_some _ _).symm.trans H; with_reducible exact H2_) | with_reducible exact H | (rw [hy250]; exact H) | exact H
         have Ny250 := Aside0.mk hy250
         clear hy250
         have H' := Aside0.mk H
         clear H
         have p246 : 0 ≤ (x10_1 : Int) := of_decide_eq_true (by first | (with_reducible assumption) | assumption)
         have q246 : x10_1 < (l0.length : Int) := of_decide_eq_true (by first | (with_reducible assumption) | assumption)
         obtain ⟨ad246, A246_0, c246_0, e246, hx246_0, hl246_0, hi246_0⟩ := at_L4 HR0.out x10_1 p246 q246
         cases e246
         replace hx246_0 := (HB.out.cell (World.block_lt_of_cell? w _ hx246_0)).trans hx246_0
         have HR246_0 := Aside0.mk hi246_0
         have HC246_0 := Aside0.mk hl246_0
         clear hi246_0 hl246_0
         replace p246 := eq_true p246
         replace q246 := eq_true q246
         go_wp2_with (first | ((with_reducible refine gate_callee (f := 64) rfl ?_); refine goesL_ (some 19) rfl rfl Try.func64 (by kernel_rfl) rfl #[.slice A246_0 (rd_L4 l0 x10_1).length c246_0] rfl (by (try simp only [List.map_toArray, List.map_cons, List.map_nil]); first | done | rfl | (simp only [List.length_drop, List.length_take]; rfl)) ?_; (with_reducible refine (slices_Clone_int_int.calls _ _ (rd_L4 l0 x10_1) t247 _ ?side1 ?side2 A9.out).mono ?_); (case side1 => repeat (first | exact (Kd.C_below HR246_0.out HB.out) | (with_reducible refine Kd.C_alloc ?_ _) | (with_reducible refine Kd.C_drewN ?_ _) | (with_reducible refine Kd.C_drew ?_))); (case side2 => exact HC246_0.out); rintro e w12 ⟨v248, rfl, ho0, hb⟩; refine ⟨_, rfl, ?_⟩; have n0_ := Aside0.mk (Kd.S_elder' (by (with_reducible repeat (first | apply Kd.S_alloc | apply Kd.S_drewN | apply Kd.S_drew)); exact HO_3.out) (Kd.R_base ho0) hb); have n1_ := Aside0.mk (Kd.R_lower ho0 (below_size (by repeat (first | (with_reducible first | exact HB.out | apply below_alloc | apply pw_below_drewN | apply below_drew1) | exact HB.out)))); have n2_ := Aside0.mk (below_step (by repeat (first | (with_reducible first | exact HB.out | apply below_alloc | apply pw_below_drewN | apply below_drew1) | exact HB.out)) hb); clear HO_3; clear HB; have HO_3 := n0_; have HO249 := n1_; have HB := n2_; clear n0_ n1_ n2_; (try clear hb); (try clear hb2); (try clear hk); (try clear hi); (try clear ho0); obtain ⟨Aov, cov, eov⟩ := Kd.R_slice HO249.out; subst eov; have p11 : 0 ≤ (x10_1 : Int) := of_decide_eq_true (by first | (with_reducible assumption) | assumption); have q11 : (x10_1 : Int) < ((x3_1.length : Int) : Int) := of_decide_eq_true (by first | (with_reducible assumption) | assumption); obtain ⟨go11, co11, eo11, gb11, gl11, cl11, HG11⟩ := Kd.S_form HO_3.out (by omega); (first | cases eo11 | (injection eo11 with ea_ en_ ec_; (first | subst ea_ | (injection ea_ with ea_; subst ea_)); subst ec_; clear en_)); have GB11 := Aside0.mk gb11; have GG11 := Aside0.mk HG11; clear gb11 gl11 HG11; obtain ⟨_, ce11, hcl11, hM11, hcc11, hfr11, _, _⟩ := Kd.S_elem HO_3.out [] (x10_1 : Int) p11 q11; obtain ⟨ve11_0, rfl, ge11_0⟩ := hM11; have hx11_0 := hcc11 0 _ rfl; have hf11_0 := hfr11 0; (try simp only [show ((Kd.slice 3 (Kd.int .i64))).sz = 1 from rfl, Nat.mul_one, Nat.add_zero] at hx11_0); (try simp only [show ((Kd.slice 3 (Kd.int .i64))).sz = 1 from rfl, Nat.mul_one, Nat.add_zero] at hf11_0); (try clear hcl11); (try clear hcc11); (try clear hfr11); (try clear hM11); replace p11 := eq_true p11; replace q11 := eq_true q11; have n_ := Aside0.mk (Kd.S_mono (ok' := (fun k_ => some k_ ≠ (.slice Aov t247.length cov : Value).ownBlock)) HO_3.out (fun k_ hk => hk.2)); clear HO_3; have HO_3 := n_; clear n_; have HX13 := Aside0.mk (show Kd.S (Kd.slice 3 (Kd.int .i64)) 30 w12 w.heap.size (fun k_ => ((fun _ => True)) k_ ∧ ¬ ((fun k_ => some k_ = (.slice Aov t247.length cov : Value).ownBlock)) k_) (.slice (some ⟨go11, 0, none⟩) x3_1.length co11) x3_1 from (by (with_reducible repeat (first | apply Kd.S_alloc | apply Kd.S_drewN | apply Kd.S_drew)); exact Kd.S_mono HO_3.out (fun k_ hk => ⟨trivial, fun e_ => hk e_⟩))); obtain ⟨oki13, ce13, hcl13, hM13, hcc13, hfr13, hoki13, hH13⟩ := Kd.S_elem HX13.out [] (x10_1 : Int) (of_decide_eq_true (by first | (with_reducible assumption) | assumption)) (by have h_ : (x10_1 : Int) < ((x3_1.length : Int) : Int) := of_decide_eq_true (by first | (with_reducible assumption) | assumption); first | exact h_ | (have e_ := (Kd.S_reads' HO_3.out).1; omega) | simpa using h_); obtain ⟨ve13_0, rfl, ge13_0⟩ := hM13; have HP13 := Kd.S_seg hH13 (of_decide_eq_true (by first | (with_reducible assumption) | assumption)) (by have h_ : (x10_1 : Int) < ((x3_1.length : Int) : Int) := of_decide_eq_true (by first | (with_reducible assumption) | assumption); first | exact h_ | (have e_ := (Kd.S_reads' HO_3.out).1; omega) | simpa using h_) (seg := [.slice Aov t247.length cov]) (j := 0) (show 1 ≤ 1 from by decide) (x' := t247) (Kd.M_row (Kd.R_mono (Kd.R_tight rfl (Kd.R_mono (ok' := fun k_ => ((fun _ => True)) k_ ∧ k_ ≠ go11) (Kd.R_apart' (HO249.out) (Kd.S_typed HO_3.out) (by decide)) (fun k_ hk => ⟨trivial, fun e_ => (hk.2) (by rw [e_]; rfl)⟩))) (fun _ h_ => Or.inr (h_)))) (fun _ hk => hk) (fun k_ hk_ => ((Kd.R_mono (ok' := fun k_ => ((fun _ => True)) k_ ∧ k_ ≠ go11) (Kd.R_apart' (HO249.out) (Kd.S_typed HO_3.out) (by decide)) (fun k_ hk => ⟨trivial, fun e_ => (hk.2) (by rw [e_]; rfl)⟩))).1 k_ hk_.symm); have hx13_0 := hcc13 0 _ rfl; (try simp only [show ((Kd.slice 3 (Kd.int .i64))).sz = 1 from rfl, Nat.mul_one, Nat.add_zero] at hx13_0); have hf13_0 := hfr13 0; (try simp only [show ((Kd.slice 3 (Kd.int .i64))).sz = 1 from rfl, Nat.mul_one, Nat.add_zero] at hf13_0); (try clear hcl13); (try clear hcc13); (try clear hfr13); (try clear hM13); (try clear hoki13); (try clear hH13); (try simp only [show ((Kd.slice 3 (Kd.int .i64))).sz = 1 from rfl, Nat.mul_one, Nat.add_zero] at HP13)) | ((with_reducible refine gate_store (t := 30) (p := 20) rfl ?_); refine store_event (t := 30) (p := 20) (v := ?vo_w14) (w1 := (w12.setCell ⟨go11, (x10_1 : Int).toNat, none⟩ (.slice Aov t247.length cov))) ?hg ?ho ?hn ?hr ?_; (case ho => rfl); (case hg => rfl); (case hn => rfl); (case hr => first | (go_simp; done) | (go_simp; rfl)); intro w14 hw; have hg : w12.grownBy w14 (some go11) := (by rw [hw]; exact HP13.2); have hp_ : Kd.S (Kd.slice 3 (Kd.int .i64)) 30 w14 w.heap.size (fun _ => True) (.slice (some ⟨go11, 0, none⟩) x3_1.length co11) y250 := (by rw [hw, Ny250.out]; exact HP13.1); clear HP13; have n0_ := Aside0.mk (hp_); have n1_ := Aside0.mk ((by rw [hw]; exact below_set (HB.out) GB11.out : Below w.heap.size w w14)); clear HO_3; clear HB; clear HO249; have HO_3 := n0_; have HB := n1_; clear n0_ n1_; clear hg hw hp_))
         go_roundg k1
         case measure => have := HK1.out; omega
         case rel => exact ⟨(y250), (wrap64 (x10_1 + 1)), (by first | rfl | (simp; done) | (simp [*]; done)), H', ⟨by have := HK1.out; omega⟩, ⟨by (with_reducible repeat (first | apply Kd.S_alloc | apply Kd.S_drewN | apply Kd.S_drew)); exact HO_3.out⟩, ⟨by repeat (first | (with_reducible first | exact HB.out | apply below_alloc | apply pw_below_drewN | apply below_drew1) | exact HB.out)⟩⟩
        ·rw [if_neg c10] at H
         exact absurd H (by simp)
       ·rw [if_neg c8] at H
        exact absurd H (by simp)
      ·rw [if_neg c7] at H
       exact absurd H (by simp)
     ·rw [if_neg c6] at H
      have c6b0 : decide (x10_1 < (l0.length : Int)) = false := decide_eq_false c6
      clear c6
      obtain rfl := Option.some.inj H
      go_wp2
      go_ret
      exact ⟨_, by first | rfl | (simp [errW_none, errW_some] <;> rfl) | (simp [*, errW_none, errW_some] <;> rfl), by (with_reducible repeat (first | apply Kd.S_alloc | apply Kd.S_drewN | apply Kd.S_drew)); exact HO_3.out, by repeat (first | (with_reducible first | exact HB.out | apply below_alloc | apply pw_below_drewN | apply below_drew1) | exact HB.out)⟩
  ·rw [if_neg c3] at H
   exact absurd H (by simp)
 ·rw [if_neg c2] at H
  exact absurd H (by simp)
end Go.Proofs.Ytpccpkpljlafcaa.PTopSharesKept
