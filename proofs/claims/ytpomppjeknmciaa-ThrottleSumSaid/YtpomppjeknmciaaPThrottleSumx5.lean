-- Printed by a copy of the kit's printer that this session has patched (wip/tools/patch_print.py): the session's own text. Lean checks it.
import Derived.Test.YtpomppjeknmciaaPThrottleSumx0
import Derived.Test.YtpomppjeknmciaaPThrottleSumx1
import Derived.Test.YtpomppjeknmciaaPThrottleSumx3
import Derived.Test.YtpomppjeknmciaaPThrottleSumx4
namespace Go.Proofs.Ytpomppjeknmciaa.PThrottleSum
open Go.RowKit Go.Proofs.YtpomppjeknmciaaW.PrintWords Go.Proofs.YtpomppjeknmciaaW.PrintLast Go.Proofs.YtpomppjeknmciaaW.PrintMore
attribute [local go_sem] max2_int min2_int max_two min_two max_three min_three max_four min_four   -- for this text's walks alone
set_option linter.unusedVariables false
set_option linter.unusedSimpArgs false

/-! ### throttle_Allowed: function 23 -/
def throttle_Allowed.f (k : Nat) (l0 : List (S35)) (a1 : Int) : Option (Bool) := (throttle_Count.f k l0).bind fun t148 => (some (decide (t148 < a1)))
theorem throttle_Allowed.mono : ∀ a0 a1 k, LeO (throttle_Allowed.f k a0 a1) (throttle_Allowed.f (k + 1) a0 a1) := by
  intro a0 a1 k
  unfold throttle_Allowed.f
  repeat' first
      | (with_reducible exact throttle_Count.mono _ _)
      | (with_reducible exact LeO.refl _)
      | (with_reducible exact LeO.none _)
      | (with_reducible refine LeO.ite ?_ ?_)
      | (with_reducible refine LeO.bind ?_ (fun _ => ?_))
      | exact throttle_Count.mono _ _
      | exact LeO.none _
      | refine LeO.ite ?_ ?_
      | refine LeO.bind ?_ (fun _ => ?_)
set_option maxHeartbeats 8000000 in
set_option maxRecDepth 100000 in
theorem throttle_Allowed.calls (k : Nat) (A0 : Option Addr) (c0 : Nat) (l0 : List (S35)) (a1 : Int) (r : Bool) (w : World) (hr0 : Kd.C k35 w A0 l0.length l0) (hc0 : l0.length ≤ c0) (h : throttle_Allowed.f k l0 a1 = some r) :
    Calls Try.prog 23 #[.slice A0 l0.length c0, .int .i64 a1] w fun e w' => e = .returned (.bool r) ∧ Below w.heap.size w w' := by
  have HR0 := Aside0.mk hr0
  have HC0 := Aside0.mk hc0
  clear hr0 hc0
  have HB := Aside0.mk (Below.refl w.heap.size w)
  have H : ((throttle_Count.f k l0).bind fun t148 => (some (decide (t148 < a1)))) = some r := h
  clear h
  replace H := Option.bind_eq_some_iff.mp H
  obtain ⟨t148, A30, H⟩ := H
  replace H : (some (decide (t148 < a1))) = some r := H
  have A3 := Aside0.mk A30
  clear A30
  obtain rfl := Option.some.inj H
  go_enter Try.func23, Try.ntmps23
  go_wp2_with (first | ((with_reducible refine gate_callee (f := 24) rfl ?_); refine goesL_ (some 6) rfl rfl Try.func24 (by kernel_rfl) rfl #[.slice A0 l0.length c0] rfl (by (try simp only [List.map_toArray, List.map_cons, List.map_nil]); first | done | rfl | (simp only [List.length_drop, List.length_take]; rfl)) ?_; (with_reducible refine (throttle_Count.calls k _ _ l0 t148 _ ?side1 ?side2 A3.out).mono ?_); (case side1 => repeat (first | exact HR0.out | (with_reducible refine Kd.C_alloc ?_ _) | (with_reducible refine Kd.C_drewN ?_ _) | (with_reducible refine Kd.C_drew ?_))); (case side2 => exact HC0.out); rintro e w4 ⟨rfl, hb⟩; refine ⟨_, rfl, ?_⟩; have n0_ := Aside0.mk (below_step (by repeat (first | (with_reducible first | exact HB.out | apply below_alloc | apply pw_below_drewN | apply below_drew1) | exact HB.out)) hb); clear HB; have HB := n0_; clear n0_; (try clear hb); (try clear hb2); (try clear hk); (try clear hi)))
  go_ret
  exact ⟨by first | rfl | (simp [errW_none, errW_some] <;> rfl) | (simp [*, errW_none, errW_some] <;> rfl), by repeat (first | (with_reducible first | exact HB.out | apply below_alloc | apply pw_below_drewN | apply below_drew1) | exact HB.out)⟩

/-! ### estoverslaw30_awake: function 16 -/
def estoverslaw30_awake.f (k : Nat)  : Option (Bool) := (estoverslaw30_Frames.f k (([(⟨4, 0, true, 5⟩ : S61), (⟨4, 4, false, 0⟩ : S61), (⟨3, 0, true, 0⟩ : S61), (⟨4, 0, true, 3⟩ : S61)] : List (S61)))).bind fun t152 => ((throttle_Share.f k (([(⟨(-1), 10, 0, 0, 20⟩ : S43), (⟨0, 6, 0, 0, 20⟩ : S43)] : List (S43))) 7 1).bind fun bt158 => ((throttle_Count.f k t152).bind fun t160 => (if t160 = 3 then (if 1 < (t152.length : Int) then ((throttle_Counts.f ((rd_T35 t152 1).f0) ((rd_T35 t152 1).f1) ((rd_T35 t152 1).f2) ((rd_T35 t152 1).f3) ((rd_T35 t152 1).f4) ((rd_T35 t152 1).f5) ((rd_T35 t152 1).f6) ((rd_T35 t152 1).f7) ((rd_T35 t152 1).f8) ((rd_T35 t152 1).f9) ((rd_T35 t152 1).f10) ((rd_T35 t152 1).f11) ((rd_T35 t152 1).f12) ((rd_T35 t152 1).f13) ((rd_T35 t152 1).f14) ((rd_T35 t152 1).f15)).bind fun t162 => (if t162 = true then ((throttle_Oldest.f k t152).bind fun t163 => (if t163 = 3 then ((throttle_Allowed.f k t152 3).bind fun t164 => (if t164 = true then (none) else ((throttle_Allowed.f k t152 4).bind fun t165 => (if t165 = true then ((throttle_Background.f 3 4).bind fun t166 => (if t166 = true then ((throttle_Background.f 2 4).bind fun t167 => (if t167 = true then (none) else (if bt158.2 = 0 then (some (bt158.1 == 4)) else (none)))) else (none))) else (none))))) else (none))) else (none))) else (none)) else (none))))
theorem estoverslaw30_awake.mono : ∀ k, LeO (estoverslaw30_awake.f k ) (estoverslaw30_awake.f (k + 1) ) := by
  intro  k
  unfold estoverslaw30_awake.f
  repeat' first
      | (with_reducible exact estoverslaw30_Frames.mono _ _)
      | (with_reducible exact throttle_Allowed.mono _ _ _)
      | (with_reducible exact throttle_Count.mono _ _)
      | (with_reducible exact throttle_Oldest.mono _ _)
      | (with_reducible exact throttle_Share.mono _ _ _ _)
      | (with_reducible exact LeO.refl _)
      | (with_reducible exact LeO.none _)
      | (with_reducible refine LeO.ite ?_ ?_)
      | (with_reducible refine LeO.bind ?_ (fun _ => ?_))
      | exact estoverslaw30_Frames.mono _ _
      | exact throttle_Allowed.mono _ _ _
      | exact throttle_Count.mono _ _
      | exact throttle_Oldest.mono _ _
      | exact throttle_Share.mono _ _ _ _
      | exact LeO.none _
      | refine LeO.ite ?_ ?_
      | refine LeO.bind ?_ (fun _ => ?_)
set_option maxHeartbeats 8000000 in
set_option maxRecDepth 100000 in
theorem estoverslaw30_awake.calls (k : Nat)  (r : Bool) (w : World) (h : estoverslaw30_awake.f k  = some r) :
    Calls Try.prog 16 #[] w fun e w' => e = .returned (.bool r) ∧ Below w.heap.size w w' := by
  have hu61 := Try.underlying61
  have hu43 := Try.underlying43
  have hu35 := Try.underlying35
  have HB := Aside0.mk (Below.refl w.heap.size w)
  have H : ((estoverslaw30_Frames.f k (([(⟨4, 0, true, 5⟩ : S61), (⟨4, 4, false, 0⟩ : S61), (⟨3, 0, true, 0⟩ : S61), (⟨4, 0, true, 3⟩ : S61)] : List (S61)))).bind fun t152 => ((throttle_Share.f k (([(⟨(-1), 10, 0, 0, 20⟩ : S43), (⟨0, 6, 0, 0, 20⟩ : S43)] : List (S43))) 7 1).bind fun bt158 => ((throttle_Count.f k t152).bind fun t160 => (if t160 = 3 then (if 1 < (t152.length : Int) then ((throttle_Counts.f ((rd_T35 t152 1).f0) ((rd_T35 t152 1).f1) ((rd_T35 t152 1).f2) ((rd_T35 t152 1).f3) ((rd_T35 t152 1).f4) ((rd_T35 t152 1).f5) ((rd_T35 t152 1).f6) ((rd_T35 t152 1).f7) ((rd_T35 t152 1).f8) ((rd_T35 t152 1).f9) ((rd_T35 t152 1).f10) ((rd_T35 t152 1).f11) ((rd_T35 t152 1).f12) ((rd_T35 t152 1).f13) ((rd_T35 t152 1).f14) ((rd_T35 t152 1).f15)).bind fun t162 => (if t162 = true then ((throttle_Oldest.f k t152).bind fun t163 => (if t163 = 3 then ((throttle_Allowed.f k t152 3).bind fun t164 => (if t164 = true then (none) else ((throttle_Allowed.f k t152 4).bind fun t165 => (if t165 = true then ((throttle_Background.f 3 4).bind fun t166 => (if t166 = true then ((throttle_Background.f 2 4).bind fun t167 => (if t167 = true then (none) else (if bt158.2 = 0 then (some (bt158.1 == 4)) else (none)))) else (none))) else (none))))) else (none))) else (none))) else (none)) else (none))))) = some r := h
  clear h
  obtain ⟨y149, hy149⟩ : ∃ y_ : List (S61), y_ = (([(⟨4, 0, true, 5⟩ : S61), (⟨4, 4, false, 0⟩ : S61), (⟨3, 0, true, 0⟩ : S61), (⟨4, 0, true, 3⟩ : S61)] : List (S61))) := ⟨_, rfl⟩
  replace H : ((estoverslaw30_Frames.f k y149).bind fun t152 => ((throttle_Share.f k (([(⟨(-1), 10, 0, 0, 20⟩ : S43), (⟨0, 6, 0, 0, 20⟩ : S43)] : List (S43))) 7 1).bind fun bt158 => ((throttle_Count.f k t152).bind fun t160 => (if t160 = 3 then (if 1 < (t152.length : Int) then ((throttle_Counts.f ((rd_T35 t152 1).f0) ((rd_T35 t152 1).f1) ((rd_T35 t152 1).f2) ((rd_T35 t152 1).f3) ((rd_T35 t152 1).f4) ((rd_T35 t152 1).f5) ((rd_T35 t152 1).f6) ((rd_T35 t152 1).f7) ((rd_T35 t152 1).f8) ((rd_T35 t152 1).f9) ((rd_T35 t152 1).f10) ((rd_T35 t152 1).f11) ((rd_T35 t152 1).f12) ((rd_T35 t152 1).f13) ((rd_T35 t152 1).f14) ((rd_T35 t152 1).f15)).bind fun t162 => (if t162 = true then ((throttle_Oldest.f k t152).bind fun t163 => (if t163 = 3 then ((throttle_Allowed.f k t152 3).bind fun t164 => (if t164 = true then (none) else ((throttle_Allowed.f k t152 4).bind fun t165 => (if t165 = true then ((throttle_Background.f 3 4).bind fun t166 => (if t166 = true then ((throttle_Background.f 2 4).bind fun t167 => (if t167 = true then (none) else (if bt158.2 = 0 then (some (bt158.1 == 4)) else (none)))) else (none))) else (none))))) else (none))) else (none))) else (none)) else (none))))) = some r := by first | (rw [hy149]; with_reducible exact H) | (have H2_ := (Option.bind_some _ _).symm.trans H; rw [hy149]; with_reducible exact H2_) | (have H2_ := (Option.bind_some _ _).symm.trans H; with_reducible exact H2_) | with_reducible exact H | (rw [hy149]; exact H) | exact H
  have Ny149 := Aside0.mk hy149
  clear hy149
  replace H := Option.bind_eq_some_iff.mp H
  obtain ⟨t152, A10, H⟩ := H
  replace H : ((throttle_Share.f k (([(⟨(-1), 10, 0, 0, 20⟩ : S43), (⟨0, 6, 0, 0, 20⟩ : S43)] : List (S43))) 7 1).bind fun bt158 => ((throttle_Count.f k t152).bind fun t160 => (if t160 = 3 then (if 1 < (t152.length : Int) then ((throttle_Counts.f ((rd_T35 t152 1).f0) ((rd_T35 t152 1).f1) ((rd_T35 t152 1).f2) ((rd_T35 t152 1).f3) ((rd_T35 t152 1).f4) ((rd_T35 t152 1).f5) ((rd_T35 t152 1).f6) ((rd_T35 t152 1).f7) ((rd_T35 t152 1).f8) ((rd_T35 t152 1).f9) ((rd_T35 t152 1).f10) ((rd_T35 t152 1).f11) ((rd_T35 t152 1).f12) ((rd_T35 t152 1).f13) ((rd_T35 t152 1).f14) ((rd_T35 t152 1).f15)).bind fun t162 => (if t162 = true then ((throttle_Oldest.f k t152).bind fun t163 => (if t163 = 3 then ((throttle_Allowed.f k t152 3).bind fun t164 => (if t164 = true then (none) else ((throttle_Allowed.f k t152 4).bind fun t165 => (if t165 = true then ((throttle_Background.f 3 4).bind fun t166 => (if t166 = true then ((throttle_Background.f 2 4).bind fun t167 => (if t167 = true then (none) else (if bt158.2 = 0 then (some (bt158.1 == 4)) else (none)))) else (none))) else (none))))) else (none))) else (none))) else (none)) else (none)))) = some r := H
  have A1 := Aside0.mk A10
  clear A10
  obtain ⟨y155, hy155⟩ : ∃ y_ : List (S43), y_ = (([(⟨(-1), 10, 0, 0, 20⟩ : S43), (⟨0, 6, 0, 0, 20⟩ : S43)] : List (S43))) := ⟨_, rfl⟩
  replace H : ((throttle_Share.f k y155 7 1).bind fun bt158 => ((throttle_Count.f k t152).bind fun t160 => (if t160 = 3 then (if 1 < (t152.length : Int) then ((throttle_Counts.f ((rd_T35 t152 1).f0) ((rd_T35 t152 1).f1) ((rd_T35 t152 1).f2) ((rd_T35 t152 1).f3) ((rd_T35 t152 1).f4) ((rd_T35 t152 1).f5) ((rd_T35 t152 1).f6) ((rd_T35 t152 1).f7) ((rd_T35 t152 1).f8) ((rd_T35 t152 1).f9) ((rd_T35 t152 1).f10) ((rd_T35 t152 1).f11) ((rd_T35 t152 1).f12) ((rd_T35 t152 1).f13) ((rd_T35 t152 1).f14) ((rd_T35 t152 1).f15)).bind fun t162 => (if t162 = true then ((throttle_Oldest.f k t152).bind fun t163 => (if t163 = 3 then ((throttle_Allowed.f k t152 3).bind fun t164 => (if t164 = true then (none) else ((throttle_Allowed.f k t152 4).bind fun t165 => (if t165 = true then ((throttle_Background.f 3 4).bind fun t166 => (if t166 = true then ((throttle_Background.f 2 4).bind fun t167 => (if t167 = true then (none) else (if bt158.2 = 0 then (some (bt158.1 == 4)) else (none)))) else (none))) else (none))))) else (none))) else (none))) else (none)) else (none)))) = some r := by first | (rw [hy155]; with_reducible exact H) | (have H2_ := (Option.bind_some _ _).symm.trans H; rw [hy155]; with_reducible exact H2_) | (have H2_ := (Option.bind_some _ _).symm.trans H; with_reducible exact H2_) | with_reducible exact H | (rw [hy155]; exact H) | exact H
  have Ny155 := Aside0.mk hy155
  clear hy155
  replace H := Option.bind_eq_some_iff.mp H
  obtain ⟨⟨t158, t159⟩, A20, H⟩ := H
  replace H : ((throttle_Count.f k t152).bind fun t160 => (if t160 = 3 then (if 1 < (t152.length : Int) then ((throttle_Counts.f ((rd_T35 t152 1).f0) ((rd_T35 t152 1).f1) ((rd_T35 t152 1).f2) ((rd_T35 t152 1).f3) ((rd_T35 t152 1).f4) ((rd_T35 t152 1).f5) ((rd_T35 t152 1).f6) ((rd_T35 t152 1).f7) ((rd_T35 t152 1).f8) ((rd_T35 t152 1).f9) ((rd_T35 t152 1).f10) ((rd_T35 t152 1).f11) ((rd_T35 t152 1).f12) ((rd_T35 t152 1).f13) ((rd_T35 t152 1).f14) ((rd_T35 t152 1).f15)).bind fun t162 => (if t162 = true then ((throttle_Oldest.f k t152).bind fun t163 => (if t163 = 3 then ((throttle_Allowed.f k t152 3).bind fun t164 => (if t164 = true then (none) else ((throttle_Allowed.f k t152 4).bind fun t165 => (if t165 = true then ((throttle_Background.f 3 4).bind fun t166 => (if t166 = true then ((throttle_Background.f 2 4).bind fun t167 => (if t167 = true then (none) else (if t159 = 0 then (some (t158 == 4)) else (none)))) else (none))) else (none))))) else (none))) else (none))) else (none)) else (none))) = some r := H
  have A2 := Aside0.mk A20
  clear A20
  replace H := Option.bind_eq_some_iff.mp H
  obtain ⟨t160, A30, H⟩ := H
  replace H : (if t160 = 3 then (if 1 < (t152.length : Int) then ((throttle_Counts.f ((rd_T35 t152 1).f0) ((rd_T35 t152 1).f1) ((rd_T35 t152 1).f2) ((rd_T35 t152 1).f3) ((rd_T35 t152 1).f4) ((rd_T35 t152 1).f5) ((rd_T35 t152 1).f6) ((rd_T35 t152 1).f7) ((rd_T35 t152 1).f8) ((rd_T35 t152 1).f9) ((rd_T35 t152 1).f10) ((rd_T35 t152 1).f11) ((rd_T35 t152 1).f12) ((rd_T35 t152 1).f13) ((rd_T35 t152 1).f14) ((rd_T35 t152 1).f15)).bind fun t162 => (if t162 = true then ((throttle_Oldest.f k t152).bind fun t163 => (if t163 = 3 then ((throttle_Allowed.f k t152 3).bind fun t164 => (if t164 = true then (none) else ((throttle_Allowed.f k t152 4).bind fun t165 => (if t165 = true then ((throttle_Background.f 3 4).bind fun t166 => (if t166 = true then ((throttle_Background.f 2 4).bind fun t167 => (if t167 = true then (none) else (if t159 = 0 then (some (t158 == 4)) else (none)))) else (none))) else (none))))) else (none))) else (none))) else (none)) else (none)) = some r := H
  have A3 := Aside0.mk A30
  clear A30
  by_cases c4 : t160 = 3
  · rw [if_pos c4] at H
    have c4b0 : (t160 == 3) = true := beq_iff_eq.mpr c4
    have c4b1 : (t160 != 3) = false := bne_eq_false_iff_eq.mpr c4
    clear c4
    by_cases c5 : 1 < (t152.length : Int)
    · rw [if_pos c5] at H
      have c5b0 : decide (1 < (t152.length : Int)) = true := decide_eq_true c5
      have c5b1 : decide (1 < t152.length) = true := decide_eq_true (by omega)
      clear c5
      replace H := Option.bind_eq_some_iff.mp H
      obtain ⟨t162, A60, H⟩ := H
      replace H : (if t162 = true then ((throttle_Oldest.f k t152).bind fun t163 => (if t163 = 3 then ((throttle_Allowed.f k t152 3).bind fun t164 => (if t164 = true then (none) else ((throttle_Allowed.f k t152 4).bind fun t165 => (if t165 = true then ((throttle_Background.f 3 4).bind fun t166 => (if t166 = true then ((throttle_Background.f 2 4).bind fun t167 => (if t167 = true then (none) else (if t159 = 0 then (some (t158 == 4)) else (none)))) else (none))) else (none))))) else (none))) else (none)) = some r := H
      have A6 := Aside0.mk A60
      clear A60
      by_cases c7 : t162 = true
      · subst c7
        have H1 : ((throttle_Oldest.f k t152).bind fun t163 => (if t163 = 3 then ((throttle_Allowed.f k t152 3).bind fun t164 => (if t164 = true then (none) else ((throttle_Allowed.f k t152 4).bind fun t165 => (if t165 = true then ((throttle_Background.f 3 4).bind fun t166 => (if t166 = true then ((throttle_Background.f 2 4).bind fun t167 => (if t167 = true then (none) else (if t159 = 0 then (some (t158 == 4)) else (none)))) else (none))) else (none))))) else (none))) = some r := by rw [if_pos rfl] at H; exact H
        clear H
        have H := H1
        clear H1
        replace H := Option.bind_eq_some_iff.mp H
        obtain ⟨t163, A80, H⟩ := H
        replace H : (if t163 = 3 then ((throttle_Allowed.f k t152 3).bind fun t164 => (if t164 = true then (none) else ((throttle_Allowed.f k t152 4).bind fun t165 => (if t165 = true then ((throttle_Background.f 3 4).bind fun t166 => (if t166 = true then ((throttle_Background.f 2 4).bind fun t167 => (if t167 = true then (none) else (if t159 = 0 then (some (t158 == 4)) else (none)))) else (none))) else (none))))) else (none)) = some r := H
        have A8 := Aside0.mk A80
        clear A80
        by_cases c9 : t163 = 3
        · rw [if_pos c9] at H
          have c9b0 : (t163 == 3) = true := beq_iff_eq.mpr c9
          have c9b1 : (t163 != 3) = false := bne_eq_false_iff_eq.mpr c9
          clear c9
          replace H := Option.bind_eq_some_iff.mp H
          obtain ⟨t164, A100, H⟩ := H
          replace H : (if t164 = true then (none) else ((throttle_Allowed.f k t152 4).bind fun t165 => (if t165 = true then ((throttle_Background.f 3 4).bind fun t166 => (if t166 = true then ((throttle_Background.f 2 4).bind fun t167 => (if t167 = true then (none) else (if t159 = 0 then (some (t158 == 4)) else (none)))) else (none))) else (none)))) = some r := H
          have A10 := Aside0.mk A100
          clear A100
          by_cases c11 : t164 = true
          · subst c11
            have H1 : (none) = some r := by rw [if_pos rfl] at H; exact H
            clear H
            have H := H1
            clear H1
            exact absurd H (by simp)
          · replace c11 := Bool.eq_false_iff.mpr c11
            subst c11
            have H1 : ((throttle_Allowed.f k t152 4).bind fun t165 => (if t165 = true then ((throttle_Background.f 3 4).bind fun t166 => (if t166 = true then ((throttle_Background.f 2 4).bind fun t167 => (if t167 = true then (none) else (if t159 = 0 then (some (t158 == 4)) else (none)))) else (none))) else (none))) = some r := by rw [if_neg (show ¬ (false = true) by decide)] at H; exact H
            clear H
            have H := H1
            clear H1
            replace H := Option.bind_eq_some_iff.mp H
            obtain ⟨t165, A120, H⟩ := H
            replace H : (if t165 = true then ((throttle_Background.f 3 4).bind fun t166 => (if t166 = true then ((throttle_Background.f 2 4).bind fun t167 => (if t167 = true then (none) else (if t159 = 0 then (some (t158 == 4)) else (none)))) else (none))) else (none)) = some r := H
            have A12 := Aside0.mk A120
            clear A120
            by_cases c13 : t165 = true
            · subst c13
              have H1 : ((throttle_Background.f 3 4).bind fun t166 => (if t166 = true then ((throttle_Background.f 2 4).bind fun t167 => (if t167 = true then (none) else (if t159 = 0 then (some (t158 == 4)) else (none)))) else (none))) = some r := by rw [if_pos rfl] at H; exact H
              clear H
              have H := H1
              clear H1
              replace H := Option.bind_eq_some_iff.mp H
              obtain ⟨t166, A140, H⟩ := H
              replace H : (if t166 = true then ((throttle_Background.f 2 4).bind fun t167 => (if t167 = true then (none) else (if t159 = 0 then (some (t158 == 4)) else (none)))) else (none)) = some r := H
              have A14 := Aside0.mk A140
              clear A140
              by_cases c15 : t166 = true
              · subst c15
                have H1 : ((throttle_Background.f 2 4).bind fun t167 => (if t167 = true then (none) else (if t159 = 0 then (some (t158 == 4)) else (none)))) = some r := by rw [if_pos rfl] at H; exact H
                clear H
                have H := H1
                clear H1
                replace H := Option.bind_eq_some_iff.mp H
                obtain ⟨t167, A160, H⟩ := H
                replace H : (if t167 = true then (none) else (if t159 = 0 then (some (t158 == 4)) else (none))) = some r := H
                have A16 := Aside0.mk A160
                clear A160
                by_cases c17 : t167 = true
                · subst c17
                  have H1 : (none) = some r := by rw [if_pos rfl] at H; exact H
                  clear H
                  have H := H1
                  clear H1
                  exact absurd H (by simp)
                · replace c17 := Bool.eq_false_iff.mpr c17
                  subst c17
                  have H1 : (if t159 = 0 then (some (t158 == 4)) else (none)) = some r := by rw [if_neg (show ¬ (false = true) by decide)] at H; exact H
                  clear H
                  have H := H1
                  clear H1
                  by_cases c18 : t159 = 0
                  · rw [if_pos c18] at H
                    have c18b0 : (t159 == 0) = true := beq_iff_eq.mpr c18
                    have c18b1 : (t159 != 0) = false := bne_eq_false_iff_eq.mpr c18
                    clear c18
                    obtain rfl := Option.some.inj H
                    go_enter Try.func16, Try.ntmps16
                    go_wp2_with (first | ((with_reducible refine gate_dst (N := 8) rfl ?_); refine Kd.R_lit k61 _ 61 ?hg (N := 8) ?hd (xs := ([(⟨4, 0, true, 5⟩ : S61), (⟨4, 4, false, 0⟩ : S61), (⟨3, 0, true, 0⟩ : S61), (⟨4, 0, true, 3⟩ : S61)] : List (S61))) (inner := [.int .u8 4, .int .u8 0, .bool true, .int .i64 5, .int .u8 4, .int .u8 4, .bool false, .int .i64 0, .int .u8 3, .int .u8 0, .bool true, .int .i64 0, .int .u8 4, .int .u8 0, .bool true, .int .i64 3]) (ok := fun _ => True) (okp := fun _ => True) ?hr ?hp (fun _ hk => hk) trivial (Below.refl _ _) (Nat.le_refl _) (by simp) ?_; (case hd => rfl); (case hg => rfl); (case hr => first | (go_simp; done) | (go_simp; rfl)); (case hp => exact (Reps.c4 (show Kd.M k61 _ _ _ (⟨4, 0, true, 5⟩ : S61) [.int .u8 4, .int .u8 0, .bool true, .int .i64 5] from (k61_mkM _ _ _ (⟨4, 0, true, 5⟩ : S61) )) (Reps.c4 (show Kd.M k61 _ _ _ (⟨4, 4, false, 0⟩ : S61) [.int .u8 4, .int .u8 4, .bool false, .int .i64 0] from (k61_mkM _ _ _ (⟨4, 4, false, 0⟩ : S61) )) (Reps.c4 (show Kd.M k61 _ _ _ (⟨3, 0, true, 0⟩ : S61) [.int .u8 3, .int .u8 0, .bool true, .int .i64 0] from (k61_mkM _ _ _ (⟨3, 0, true, 0⟩ : S61) )) (Reps.c4 (show Kd.M k61 _ _ _ (⟨4, 0, true, 3⟩ : S61) [.int .u8 4, .int .u8 0, .bool true, .int .i64 3] from (k61_mkM _ _ _ (⟨4, 0, true, 3⟩ : S61) )) (Reps.none _ _)))))); intro v150 w19 ho20 hb hg_ hnew_; clear hg_ hnew_; (first | rw [← Ny149.out] at ho20 | (simp only [Int.reduceToNat] at ho20; rw [← Ny149.out] at ho20)); have n0_ := Aside0.mk (Kd.R_lower ho20 (below_size (by repeat (first | (with_reducible first | exact HB.out | apply below_alloc | apply pw_below_drewN | apply below_drew1) | exact HB.out)))); have n1_ := Aside0.mk (below_step (by repeat (first | (with_reducible first | exact HB.out | apply below_alloc | apply pw_below_drewN | apply below_drew1) | exact HB.out)) hb); clear HB; have HO151 := n0_; have HB := n1_; clear n0_ n1_; clear hb ho20; obtain ⟨Ao21, co21, eo21⟩ := Kd.R_slice HO151.out; subst eo21) | ((with_reducible refine gate_callee (f := 21) rfl ?_); refine goesL_ (some 9) rfl rfl Try.func21 (by kernel_rfl) rfl #[.slice Ao21 y149.length co21] rfl (by (try simp only [List.map_toArray, List.map_cons, List.map_nil]); first | done | rfl | (simp only [List.length_drop, List.length_take]; rfl)) ?_; (with_reducible refine (estoverslaw30_Frames.calls k _ _ y149 t152 _ ?side1 ?side2 A1.out).mono ?_); (case side1 => repeat (first | exact (Kd.R_reads' HO151.out).2.2 | (with_reducible refine Kd.C_alloc ?_ _) | (with_reducible refine Kd.C_drewN ?_ _) | (with_reducible refine Kd.C_drew ?_))); (case side2 => exact (Kd.R_reads' HO151.out).2.1); rintro e w22 ⟨v153, rfl, ho0, hb⟩; refine ⟨_, rfl, ?_⟩; have n0_ := Aside0.mk (Kd.R_below (by (with_reducible repeat (first | apply Kd.R_alloc | apply Kd.R_drewN | apply Kd.R_drew)); exact HO151.out) hb); have n1_ := Aside0.mk (Kd.S_lower ho0 (below_size (by repeat (first | (with_reducible first | exact HB.out | apply below_alloc | apply pw_below_drewN | apply below_drew1) | exact HB.out)))); have n2_ := Aside0.mk (below_step (by repeat (first | (with_reducible first | exact HB.out | apply below_alloc | apply pw_below_drewN | apply below_drew1) | exact HB.out)) hb); clear HO151; clear HB; have HO151 := n0_; have HO154 := n1_; have HB := n2_; clear n0_ n1_ n2_; (try clear hb); (try clear hb2); (try clear hk); (try clear hi); (try clear ho0)) | ((with_reducible refine gate_dst (N := 13) rfl ?_); refine Kd.R_lit k43 _ 43 ?hg (N := 13) ?hd (xs := ([(⟨(-1), 10, 0, 0, 20⟩ : S43), (⟨0, 6, 0, 0, 20⟩ : S43)] : List (S43))) (inner := [.int .i64 (-1), .int .i64 10, .int .i64 0, .int .i64 0, .int .i64 20, .int .i64 0, .int .i64 6, .int .i64 0, .int .i64 0, .int .i64 20]) (ok := fun _ => True) (okp := fun _ => True) ?hr ?hp (fun _ hk => hk) trivial (Below.refl _ _) (Nat.le_refl _) (by simp) ?_; (case hd => rfl); (case hg => rfl); (case hr => first | (go_simp; done) | (go_simp; rfl)); (case hp => exact (Reps.c5 (show Kd.M k43 _ _ _ (⟨(-1), 10, 0, 0, 20⟩ : S43) [.int .i64 (-1), .int .i64 10, .int .i64 0, .int .i64 0, .int .i64 20] from (k43_mkM _ _ _ (⟨(-1), 10, 0, 0, 20⟩ : S43) )) (Reps.c5 (show Kd.M k43 _ _ _ (⟨0, 6, 0, 0, 20⟩ : S43) [.int .i64 0, .int .i64 6, .int .i64 0, .int .i64 0, .int .i64 20] from (k43_mkM _ _ _ (⟨0, 6, 0, 0, 20⟩ : S43) )) (Reps.none _ _)))); intro v156 w23 ho24 hb hg_ hnew_; clear hg_ hnew_; (first | rw [← Ny155.out] at ho24 | (simp only [Int.reduceToNat] at ho24; rw [← Ny155.out] at ho24)); have n0_ := Aside0.mk (Kd.R_below (by (with_reducible repeat (first | apply Kd.R_alloc | apply Kd.R_drewN | apply Kd.R_drew)); exact HO151.out) hb); have n1_ := Aside0.mk (Kd.S_below (by (with_reducible repeat (first | apply Kd.S_alloc | apply Kd.S_drewN | apply Kd.S_drew)); exact HO154.out) hb); have n2_ := Aside0.mk (Kd.R_lower ho24 (below_size (by repeat (first | (with_reducible first | exact HB.out | apply below_alloc | apply pw_below_drewN | apply below_drew1) | exact HB.out)))); have n3_ := Aside0.mk (below_step (by repeat (first | (with_reducible first | exact HB.out | apply below_alloc | apply pw_below_drewN | apply below_drew1) | exact HB.out)) hb); clear HO151; clear HO154; clear HB; have HO151 := n0_; have HO154 := n1_; have HO157 := n2_; have HB := n3_; clear n0_ n1_ n2_ n3_; clear hb ho24; obtain ⟨Ao25, co25, eo25⟩ := Kd.R_slice HO157.out; subst eo25) | ((with_reducible refine gate_callee (f := 19) rfl ?_); refine goesL_ (some 14) rfl rfl Try.func19 (by kernel_rfl) rfl #[.slice Ao25 y155.length co25, .int .i64 7, .int .i64 1] rfl (by (try simp only [List.map_toArray, List.map_cons, List.map_nil]); first | done | rfl | (simp only [List.length_drop, List.length_take]; rfl)) ?_; (with_reducible refine (throttle_Share.calls k _ _ y155 7 1 t158 t159 _ ?side1 ?side2 A2.out).mono ?_); (case side1 => repeat (first | exact (Kd.R_reads' HO157.out).2.2 | (with_reducible refine Kd.C_alloc ?_ _) | (with_reducible refine Kd.C_drewN ?_ _) | (with_reducible refine Kd.C_drew ?_))); (case side2 => exact (Kd.R_reads' HO157.out).2.1); rintro e w26 ⟨rfl, hb⟩; refine ⟨_, rfl, ?_⟩; have n0_ := Aside0.mk (Kd.R_below (by (with_reducible repeat (first | apply Kd.R_alloc | apply Kd.R_drewN | apply Kd.R_drew)); exact HO151.out) hb); have n1_ := Aside0.mk (Kd.S_below (by (with_reducible repeat (first | apply Kd.S_alloc | apply Kd.S_drewN | apply Kd.S_drew)); exact HO154.out) hb); have n2_ := Aside0.mk (Kd.R_below (by (with_reducible repeat (first | apply Kd.R_alloc | apply Kd.R_drewN | apply Kd.R_drew)); exact HO157.out) hb); have n3_ := Aside0.mk (below_step (by repeat (first | (with_reducible first | exact HB.out | apply below_alloc | apply pw_below_drewN | apply below_drew1) | exact HB.out)) hb); clear HO151; clear HO154; clear HO157; clear HB; have HO151 := n0_; have HO154 := n1_; have HO157 := n2_; have HB := n3_; clear n0_ n1_ n2_ n3_; (try clear hb); (try clear hb2); (try clear hk); (try clear hi); obtain ⟨Ao27, co27, eo27⟩ := Kd.S_slice HO154.out; subst eo27) | ((with_reducible refine gate_callee (f := 24) rfl ?_); refine goesL_ (some 18) rfl rfl Try.func24 (by kernel_rfl) rfl #[.slice Ao27 t152.length co27] rfl (by (try simp only [List.map_toArray, List.map_cons, List.map_nil]); first | done | rfl | (simp only [List.length_drop, List.length_take]; rfl)) ?_; (with_reducible refine (throttle_Count.calls k _ _ t152 t160 _ ?side1 ?side2 A3.out).mono ?_); (case side1 => repeat (first | exact (Kd.S_reads' HO154.out).2.2 | (with_reducible refine Kd.C_alloc ?_ _) | (with_reducible refine Kd.C_drewN ?_ _) | (with_reducible refine Kd.C_drew ?_))); (case side2 => exact (Kd.S_reads' HO154.out).2.1); rintro e w28 ⟨rfl, hb⟩; refine ⟨_, rfl, ?_⟩; have n0_ := Aside0.mk (Kd.R_below (by (with_reducible repeat (first | apply Kd.R_alloc | apply Kd.R_drewN | apply Kd.R_drew)); exact HO151.out) hb); have n1_ := Aside0.mk (Kd.S_below (by (with_reducible repeat (first | apply Kd.S_alloc | apply Kd.S_drewN | apply Kd.S_drew)); exact HO154.out) hb); have n2_ := Aside0.mk (Kd.R_below (by (with_reducible repeat (first | apply Kd.R_alloc | apply Kd.R_drewN | apply Kd.R_drew)); exact HO157.out) hb); have n3_ := Aside0.mk (below_step (by repeat (first | (with_reducible first | exact HB.out | apply below_alloc | apply pw_below_drewN | apply below_drew1) | exact HB.out)) hb); clear HO151; clear HO154; clear HO157; clear HB; have HO151 := n0_; have HO154 := n1_; have HO157 := n2_; have HB := n3_; clear n0_ n1_ n2_ n3_; (try clear hb); (try clear hb2); (try clear hk); (try clear hi); have p161 : 0 ≤ (1 : Int) := (by omega); have q161 : 1 < (t152.length : Int) := of_decide_eq_true (by first | (with_reducible assumption) | assumption); obtain ⟨ad161, A161_14, c161_14, A161_15, c161_15, e161, hx161_0, hx161_1, hx161_2, hx161_3, hx161_4, hx161_5, hx161_6, hx161_7, hx161_8, hx161_9, hx161_10, hx161_11, hx161_12, hx161_13, hx161_14, hx161_15, hl161_14, hi161_14, hl161_15, hi161_15⟩ := at_T35 (Kd.S_reads' HO154.out).2.2 1 p161 q161; cases e161; obtain ⟨ce161, hce161, hMe161, hcc161⟩ := Kd.S_get HO154.out z35 1 p161 (by first | exact q161 | exact of_decide_eq_true (by first | (with_reducible assumption) | assumption) | (have e_ := (Kd.S_reads' HO154.out).1; omega)); obtain ⟨ve161_14, ve161_15, rfl, ge161_14, ge161_15⟩ := k35_openM hMe161; have hv161_14 := hcc161 14 _ rfl; rw [add_field _ _ 14 (by omega)] at hv161_14; replace hv161_14 := Option.some.inj (hv161_14.symm.trans hx161_14); rw [hv161_14] at ge161_14; have HL161_14 := Aside0.mk (show Kd.R k93 93 _ _ _ _ ((rd_T35 t152 1).f14) from ge161_14); clear hv161_14 ge161_14; have hv161_15 := hcc161 15 _ rfl; rw [add_field _ _ 15 (by omega)] at hv161_15; replace hv161_15 := Option.some.inj (hv161_15.symm.trans hx161_15); rw [hv161_15] at ge161_15; have HL161_15 := Aside0.mk (show Kd.R (Kd.int .u8) 5 _ _ _ _ ((rd_T35 t152 1).f15) from ge161_15); clear hv161_15 ge161_15; clear hcc161 hce161; (try simp only [show (1 : Int).toNat = 1 from rfl, Nat.reduceMul, Nat.reduceEqDiff, Go.Addr.add, ↓reduceIte] at hx161_0); (try simp only [show (1 : Int).toNat = 1 from rfl, Nat.reduceMul, Nat.reduceEqDiff, Go.Addr.add, ↓reduceIte] at hx161_1); (try simp only [show (1 : Int).toNat = 1 from rfl, Nat.reduceMul, Nat.reduceEqDiff, Go.Addr.add, ↓reduceIte] at hx161_2); (try simp only [show (1 : Int).toNat = 1 from rfl, Nat.reduceMul, Nat.reduceEqDiff, Go.Addr.add, ↓reduceIte] at hx161_3); (try simp only [show (1 : Int).toNat = 1 from rfl, Nat.reduceMul, Nat.reduceEqDiff, Go.Addr.add, ↓reduceIte] at hx161_4); (try simp only [show (1 : Int).toNat = 1 from rfl, Nat.reduceMul, Nat.reduceEqDiff, Go.Addr.add, ↓reduceIte] at hx161_5); (try simp only [show (1 : Int).toNat = 1 from rfl, Nat.reduceMul, Nat.reduceEqDiff, Go.Addr.add, ↓reduceIte] at hx161_6); (try simp only [show (1 : Int).toNat = 1 from rfl, Nat.reduceMul, Nat.reduceEqDiff, Go.Addr.add, ↓reduceIte] at hx161_7); (try simp only [show (1 : Int).toNat = 1 from rfl, Nat.reduceMul, Nat.reduceEqDiff, Go.Addr.add, ↓reduceIte] at hx161_8); (try simp only [show (1 : Int).toNat = 1 from rfl, Nat.reduceMul, Nat.reduceEqDiff, Go.Addr.add, ↓reduceIte] at hx161_9); (try simp only [show (1 : Int).toNat = 1 from rfl, Nat.reduceMul, Nat.reduceEqDiff, Go.Addr.add, ↓reduceIte] at hx161_10); (try simp only [show (1 : Int).toNat = 1 from rfl, Nat.reduceMul, Nat.reduceEqDiff, Go.Addr.add, ↓reduceIte] at hx161_11); (try simp only [show (1 : Int).toNat = 1 from rfl, Nat.reduceMul, Nat.reduceEqDiff, Go.Addr.add, ↓reduceIte] at hx161_12); (try simp only [show (1 : Int).toNat = 1 from rfl, Nat.reduceMul, Nat.reduceEqDiff, Go.Addr.add, ↓reduceIte] at hx161_13); (try simp only [show (1 : Int).toNat = 1 from rfl, Nat.reduceMul, Nat.reduceEqDiff, Go.Addr.add, ↓reduceIte] at hx161_14); (try simp only [show (1 : Int).toNat = 1 from rfl, Nat.reduceMul, Nat.reduceEqDiff, Go.Addr.add, ↓reduceIte] at hx161_15); have qi161 : (1 < t152.length) = True := eq_true (by omega); (try rw [show ((1 : Int)).toNat = 1 from rfl] at hx161_0); (try rw [show 1 * 16 = 16 from rfl] at hx161_0); (try rw [show ((1 : Int)).toNat = 1 from rfl] at hx161_1); (try rw [show 1 * 16 = 16 from rfl] at hx161_1); (try rw [show ((1 : Int)).toNat = 1 from rfl] at hx161_2); (try rw [show 1 * 16 = 16 from rfl] at hx161_2); (try rw [show ((1 : Int)).toNat = 1 from rfl] at hx161_3); (try rw [show 1 * 16 = 16 from rfl] at hx161_3); (try rw [show ((1 : Int)).toNat = 1 from rfl] at hx161_4); (try rw [show 1 * 16 = 16 from rfl] at hx161_4); (try rw [show ((1 : Int)).toNat = 1 from rfl] at hx161_5); (try rw [show 1 * 16 = 16 from rfl] at hx161_5); (try rw [show ((1 : Int)).toNat = 1 from rfl] at hx161_6); (try rw [show 1 * 16 = 16 from rfl] at hx161_6); (try rw [show ((1 : Int)).toNat = 1 from rfl] at hx161_7); (try rw [show 1 * 16 = 16 from rfl] at hx161_7); (try rw [show ((1 : Int)).toNat = 1 from rfl] at hx161_8); (try rw [show 1 * 16 = 16 from rfl] at hx161_8); (try rw [show ((1 : Int)).toNat = 1 from rfl] at hx161_9); (try rw [show 1 * 16 = 16 from rfl] at hx161_9); (try rw [show ((1 : Int)).toNat = 1 from rfl] at hx161_10); (try rw [show 1 * 16 = 16 from rfl] at hx161_10); (try rw [show ((1 : Int)).toNat = 1 from rfl] at hx161_11); (try rw [show 1 * 16 = 16 from rfl] at hx161_11); (try rw [show ((1 : Int)).toNat = 1 from rfl] at hx161_12); (try rw [show 1 * 16 = 16 from rfl] at hx161_12); (try rw [show ((1 : Int)).toNat = 1 from rfl] at hx161_13); (try rw [show 1 * 16 = 16 from rfl] at hx161_13); (try rw [show ((1 : Int)).toNat = 1 from rfl] at hx161_14); (try rw [show 1 * 16 = 16 from rfl] at hx161_14); (try rw [show ((1 : Int)).toNat = 1 from rfl] at hx161_15); (try rw [show 1 * 16 = 16 from rfl] at hx161_15); have HR161_14 := Aside0.mk hi161_14; have HC161_14 := Aside0.mk hl161_14; clear hi161_14 hl161_14; have HR161_15 := Aside0.mk hi161_15; have HC161_15 := Aside0.mk hl161_15; clear hi161_15 hl161_15; replace p161 := eq_true p161; replace q161 := eq_true q161) | (go_at_call 44; (with_reducible refine (throttle_Counts.calls ((rd_T35 t152 1).f0) ((rd_T35 t152 1).f1) ((rd_T35 t152 1).f2) ((rd_T35 t152 1).f3) ((rd_T35 t152 1).f4) ((rd_T35 t152 1).f5) ((rd_T35 t152 1).f6) ((rd_T35 t152 1).f7) ((rd_T35 t152 1).f8) ((rd_T35 t152 1).f9) ((rd_T35 t152 1).f10) ((rd_T35 t152 1).f11) ((rd_T35 t152 1).f12) ((rd_T35 t152 1).f13) _ _ ((rd_T35 t152 1).f14) _ _ ((rd_T35 t152 1).f15) true _ ?side1 ?side2 ?side3 ?side4 A6.out).mono ?_); (case side1 => repeat (first | exact (by repeat (first | (with_reducible exact HR161_14.out) | (with_reducible refine Kd.C_alloc ?_ _) | (with_reducible refine Kd.C_drewN ?_ _) | (with_reducible refine Kd.C_drew ?_) | exact HR161_14.out)) | (with_reducible refine Kd.C_alloc ?_ _) | (with_reducible refine Kd.C_drewN ?_ _) | (with_reducible refine Kd.C_drew ?_))); (case side2 => exact HC161_14.out); (case side3 => repeat (first | exact (by repeat (first | (with_reducible exact HR161_15.out) | (with_reducible refine Kd.C_alloc ?_ _) | (with_reducible refine Kd.C_drewN ?_ _) | (with_reducible refine Kd.C_drew ?_) | exact HR161_15.out)) | (with_reducible refine Kd.C_alloc ?_ _) | (with_reducible refine Kd.C_drewN ?_ _) | (with_reducible refine Kd.C_drew ?_))); (case side4 => exact HC161_15.out); rintro e w29 ⟨rfl, hb⟩; have n0_ := Aside0.mk (Kd.R_below (by (with_reducible repeat (first | apply Kd.R_alloc | apply Kd.R_drewN | apply Kd.R_drew)); exact HO151.out) hb); have n1_ := Aside0.mk (Kd.S_below (by (with_reducible repeat (first | apply Kd.S_alloc | apply Kd.S_drewN | apply Kd.S_drew)); exact HO154.out) hb); have n2_ := Aside0.mk (Kd.R_below (by (with_reducible repeat (first | apply Kd.R_alloc | apply Kd.R_drewN | apply Kd.R_drew)); exact HO157.out) hb); have n3_ := Aside0.mk (Kd.R_below (by (with_reducible repeat (first | apply Kd.R_alloc | apply Kd.R_drewN | apply Kd.R_drew)); exact HL161_14.out) hb); have n4_ := Aside0.mk (Kd.R_below (by (with_reducible repeat (first | apply Kd.R_alloc | apply Kd.R_drewN | apply Kd.R_drew)); exact HL161_15.out) hb); have n5_ := Aside0.mk (Kd.C_below (by repeat (first | (with_reducible exact HR161_14.out) | (with_reducible refine Kd.C_alloc ?_ _) | (with_reducible refine Kd.C_drewN ?_ _) | (with_reducible refine Kd.C_drew ?_) | exact HR161_14.out)) hb); have n6_ := Aside0.mk (Kd.C_below (by repeat (first | (with_reducible exact HR161_15.out) | (with_reducible refine Kd.C_alloc ?_ _) | (with_reducible refine Kd.C_drewN ?_ _) | (with_reducible refine Kd.C_drew ?_) | exact HR161_15.out)) hb); have n7_ := Aside0.mk (below_step (by repeat (first | (with_reducible first | exact HB.out | apply below_alloc | apply pw_below_drewN | apply below_drew1) | exact HB.out)) hb); clear HO151; clear HO154; clear HO157; clear HL161_14; clear HL161_15; clear HR161_14; clear HR161_15; clear HB; have HO151 := n0_; have HO154 := n1_; have HO157 := n2_; have HL161_14 := n3_; have HL161_15 := n4_; have HR161_14 := n5_; have HR161_15 := n6_; have HB := n7_; clear n0_ n1_ n2_ n3_ n4_ n5_ n6_ n7_; (try clear hb); (try clear hb2); (try clear hk); (try clear hi)) | (go_at_call 22; (with_reducible refine (throttle_Oldest.calls k _ _ t152 t163 _ ?side1 ?side2 A8.out).mono ?_); (case side1 => repeat (first | exact (Kd.S_reads' HO154.out).2.2 | (with_reducible refine Kd.C_alloc ?_ _) | (with_reducible refine Kd.C_drewN ?_ _) | (with_reducible refine Kd.C_drew ?_))); (case side2 => exact (Kd.S_reads' HO154.out).2.1); rintro e w30 ⟨rfl, hb⟩; have n0_ := Aside0.mk (Kd.R_below (by (with_reducible repeat (first | apply Kd.R_alloc | apply Kd.R_drewN | apply Kd.R_drew)); exact HO151.out) hb); have n1_ := Aside0.mk (Kd.S_below (by (with_reducible repeat (first | apply Kd.S_alloc | apply Kd.S_drewN | apply Kd.S_drew)); exact HO154.out) hb); have n2_ := Aside0.mk (Kd.R_below (by (with_reducible repeat (first | apply Kd.R_alloc | apply Kd.R_drewN | apply Kd.R_drew)); exact HO157.out) hb); have n3_ := Aside0.mk (Kd.R_below (by (with_reducible repeat (first | apply Kd.R_alloc | apply Kd.R_drewN | apply Kd.R_drew)); exact HL161_14.out) hb); have n4_ := Aside0.mk (Kd.R_below (by (with_reducible repeat (first | apply Kd.R_alloc | apply Kd.R_drewN | apply Kd.R_drew)); exact HL161_15.out) hb); have n5_ := Aside0.mk (Kd.C_below (by repeat (first | (with_reducible exact HR161_14.out) | (with_reducible refine Kd.C_alloc ?_ _) | (with_reducible refine Kd.C_drewN ?_ _) | (with_reducible refine Kd.C_drew ?_) | exact HR161_14.out)) hb); have n6_ := Aside0.mk (Kd.C_below (by repeat (first | (with_reducible exact HR161_15.out) | (with_reducible refine Kd.C_alloc ?_ _) | (with_reducible refine Kd.C_drewN ?_ _) | (with_reducible refine Kd.C_drew ?_) | exact HR161_15.out)) hb); have n7_ := Aside0.mk (below_step (by repeat (first | (with_reducible first | exact HB.out | apply below_alloc | apply pw_below_drewN | apply below_drew1) | exact HB.out)) hb); clear HO151; clear HO154; clear HO157; clear HL161_14; clear HL161_15; clear HR161_14; clear HR161_15; clear HB; have HO151 := n0_; have HO154 := n1_; have HO157 := n2_; have HL161_14 := n3_; have HL161_15 := n4_; have HR161_14 := n5_; have HR161_15 := n6_; have HB := n7_; clear n0_ n1_ n2_ n3_ n4_ n5_ n6_ n7_; (try clear hb); (try clear hb2); (try clear hk); (try clear hi)) | (go_at_call 23; (with_reducible refine (throttle_Allowed.calls k _ _ t152 3 false _ ?side1 ?side2 A10.out).mono ?_); (case side1 => repeat (first | exact (Kd.S_reads' HO154.out).2.2 | (with_reducible refine Kd.C_alloc ?_ _) | (with_reducible refine Kd.C_drewN ?_ _) | (with_reducible refine Kd.C_drew ?_))); (case side2 => exact (Kd.S_reads' HO154.out).2.1); rintro e w31 ⟨rfl, hb⟩; have n0_ := Aside0.mk (Kd.R_below (by (with_reducible repeat (first | apply Kd.R_alloc | apply Kd.R_drewN | apply Kd.R_drew)); exact HO151.out) hb); have n1_ := Aside0.mk (Kd.S_below (by (with_reducible repeat (first | apply Kd.S_alloc | apply Kd.S_drewN | apply Kd.S_drew)); exact HO154.out) hb); have n2_ := Aside0.mk (Kd.R_below (by (with_reducible repeat (first | apply Kd.R_alloc | apply Kd.R_drewN | apply Kd.R_drew)); exact HO157.out) hb); have n3_ := Aside0.mk (Kd.R_below (by (with_reducible repeat (first | apply Kd.R_alloc | apply Kd.R_drewN | apply Kd.R_drew)); exact HL161_14.out) hb); have n4_ := Aside0.mk (Kd.R_below (by (with_reducible repeat (first | apply Kd.R_alloc | apply Kd.R_drewN | apply Kd.R_drew)); exact HL161_15.out) hb); have n5_ := Aside0.mk (Kd.C_below (by repeat (first | (with_reducible exact HR161_14.out) | (with_reducible refine Kd.C_alloc ?_ _) | (with_reducible refine Kd.C_drewN ?_ _) | (with_reducible refine Kd.C_drew ?_) | exact HR161_14.out)) hb); have n6_ := Aside0.mk (Kd.C_below (by repeat (first | (with_reducible exact HR161_15.out) | (with_reducible refine Kd.C_alloc ?_ _) | (with_reducible refine Kd.C_drewN ?_ _) | (with_reducible refine Kd.C_drew ?_) | exact HR161_15.out)) hb); have n7_ := Aside0.mk (below_step (by repeat (first | (with_reducible first | exact HB.out | apply below_alloc | apply pw_below_drewN | apply below_drew1) | exact HB.out)) hb); clear HO151; clear HO154; clear HO157; clear HL161_14; clear HL161_15; clear HR161_14; clear HR161_15; clear HB; have HO151 := n0_; have HO154 := n1_; have HO157 := n2_; have HL161_14 := n3_; have HL161_15 := n4_; have HR161_14 := n5_; have HR161_15 := n6_; have HB := n7_; clear n0_ n1_ n2_ n3_ n4_ n5_ n6_ n7_; (try clear hb); (try clear hb2); (try clear hk); (try clear hi)) | (go_at_call 23; (with_reducible refine (throttle_Allowed.calls k _ _ t152 4 true _ ?side1 ?side2 A12.out).mono ?_); (case side1 => repeat (first | exact (Kd.S_reads' HO154.out).2.2 | (with_reducible refine Kd.C_alloc ?_ _) | (with_reducible refine Kd.C_drewN ?_ _) | (with_reducible refine Kd.C_drew ?_))); (case side2 => exact (Kd.S_reads' HO154.out).2.1); rintro e w32 ⟨rfl, hb⟩; have n0_ := Aside0.mk (Kd.R_below (by (with_reducible repeat (first | apply Kd.R_alloc | apply Kd.R_drewN | apply Kd.R_drew)); exact HO151.out) hb); have n1_ := Aside0.mk (Kd.S_below (by (with_reducible repeat (first | apply Kd.S_alloc | apply Kd.S_drewN | apply Kd.S_drew)); exact HO154.out) hb); have n2_ := Aside0.mk (Kd.R_below (by (with_reducible repeat (first | apply Kd.R_alloc | apply Kd.R_drewN | apply Kd.R_drew)); exact HO157.out) hb); have n3_ := Aside0.mk (Kd.R_below (by (with_reducible repeat (first | apply Kd.R_alloc | apply Kd.R_drewN | apply Kd.R_drew)); exact HL161_14.out) hb); have n4_ := Aside0.mk (Kd.R_below (by (with_reducible repeat (first | apply Kd.R_alloc | apply Kd.R_drewN | apply Kd.R_drew)); exact HL161_15.out) hb); have n5_ := Aside0.mk (Kd.C_below (by repeat (first | (with_reducible exact HR161_14.out) | (with_reducible refine Kd.C_alloc ?_ _) | (with_reducible refine Kd.C_drewN ?_ _) | (with_reducible refine Kd.C_drew ?_) | exact HR161_14.out)) hb); have n6_ := Aside0.mk (Kd.C_below (by repeat (first | (with_reducible exact HR161_15.out) | (with_reducible refine Kd.C_alloc ?_ _) | (with_reducible refine Kd.C_drewN ?_ _) | (with_reducible refine Kd.C_drew ?_) | exact HR161_15.out)) hb); have n7_ := Aside0.mk (below_step (by repeat (first | (with_reducible first | exact HB.out | apply below_alloc | apply pw_below_drewN | apply below_drew1) | exact HB.out)) hb); clear HO151; clear HO154; clear HO157; clear HL161_14; clear HL161_15; clear HR161_14; clear HR161_15; clear HB; have HO151 := n0_; have HO154 := n1_; have HO157 := n2_; have HL161_14 := n3_; have HL161_15 := n4_; have HR161_14 := n5_; have HR161_15 := n6_; have HB := n7_; clear n0_ n1_ n2_ n3_ n4_ n5_ n6_ n7_; (try clear hb); (try clear hb2); (try clear hk); (try clear hi)) | (go_at_call 17; (with_reducible refine (throttle_Background.calls 3 4 true _ A14.out).mono ?_); rintro e w' ⟨rfl, ⟨nd, rfl⟩⟩) | (go_at_call 17; (with_reducible refine (throttle_Background.calls 2 4 false _ A16.out).mono ?_); rintro e w' ⟨rfl, ⟨nd, rfl⟩⟩))
                    go_ret
                    exact ⟨by first | rfl | (simp [errW_none, errW_some] <;> rfl) | (simp [*, errW_none, errW_some] <;> rfl), by repeat (first | (with_reducible first | exact HB.out | apply below_alloc | apply pw_below_drewN | apply below_drew1) | exact HB.out)⟩
                  · rw [if_neg c18] at H
                    exact absurd H (by simp)
              · replace c15 := Bool.eq_false_iff.mpr c15
                subst c15
                have H1 : (none) = some r := by rw [if_neg (show ¬ (false = true) by decide)] at H; exact H
                clear H
                have H := H1
                clear H1
                exact absurd H (by simp)
            · replace c13 := Bool.eq_false_iff.mpr c13
              subst c13
              have H1 : (none) = some r := by rw [if_neg (show ¬ (false = true) by decide)] at H; exact H
              clear H
              have H := H1
              clear H1
              exact absurd H (by simp)
        · rw [if_neg c9] at H
          exact absurd H (by simp)
      · replace c7 := Bool.eq_false_iff.mpr c7
        subst c7
        have H1 : (none) = some r := by rw [if_neg (show ¬ (false = true) by decide)] at H; exact H
        clear H
        have H := H1
        clear H1
        exact absurd H (by simp)
    · rw [if_neg c5] at H
      exact absurd H (by simp)
  · rw [if_neg c4] at H
    exact absurd H (by simp)

/-! ### estoversref19_in: function 45 -/
def estoversref19_in.f (a0 : Int) : Option (Bool) := if a0 ≥ 0 then (some (decide (a0 ≤ 1048576))) else (some false)
set_option maxHeartbeats 8000000 in
set_option maxRecDepth 100000 in
theorem estoversref19_in.calls (a0 : Int) (r : Bool) (w : World) (h : estoversref19_in.f a0 = some r) :
    Calls Try.prog 45 #[.int .i64 a0] w fun e w' => e = .returned (.bool r) ∧ Drawn0 w w' := by
  have H : (if a0 ≥ 0 then (some (decide (a0 ≤ 1048576))) else (some false)) = some r := h
  clear h
  by_cases c2 : a0 ≥ 0
  · rw [if_pos c2] at H
    have c2b0 : decide (0 ≤ a0) = true := decide_eq_true c2
    clear c2
    obtain rfl := Option.some.inj H
    go_enter Try.func45, Try.ntmps45
    go_wp2
    go_ret
    exact ⟨by first | rfl | (simp; done) | (simp [*]; done), by repeat (first | exact Drawn0.refl _ | apply Drawn0.step)⟩
  · rw [if_neg c2] at H
    have c2b0 : decide (0 ≤ a0) = false := decide_eq_false c2
    clear c2
    obtain rfl := Option.some.inj H
    go_enter Try.func45, Try.ntmps45
    go_wp2
    go_ret
    exact ⟨by first | rfl | (simp; done) | (simp [*]; done), by repeat (first | exact Drawn0.refl _ | apply Drawn0.step)⟩

/-! ### estoversref19_kids: function 46 -/
def estoversref19_kids.l0 : Nat → List (S43) → Int → Int → Int → Option (Int)
  | 0, _, _, _, _ => none
  | k + 1, x0, x1, x5, x6 => if x6 < (x0.length : Int) then (if 0 ≤ x6 then (if ((rd_T43 x0 x6).f0) = x1 then (estoversref19_kids.l0 k x0 x1 (wrap64 (x5 + ((rd_T43 x0 x6).f1))) (wrap64 (x6 + 1))) else (estoversref19_kids.l0 k x0 x1 x5 (wrap64 (x6 + 1)))) else (none)) else (some x5)
def estoversref19_kids.f (k : Nat) (l0 : List (S43)) (a1 : Int) : Option (Int) := estoversref19_kids.l0 k l0 a1 0 1
theorem estoversref19_kids.mono_l : ∀ k, (∀ y0 y1 y2 y3, LeO (estoversref19_kids.l0 k y0 y1 y2 y3) (estoversref19_kids.l0 (k + 1) y0 y1 y2 y3))
  | 0 => fun _ _ _ _ r h => by simp [estoversref19_kids.l0] at h
  | k + 1 => by
    have ih0 := estoversref19_kids.mono_l k
    · intro y0 y1 y2 y3
      unfold estoversref19_kids.l0
      repeat' first
      | (with_reducible exact ih0 _ _ _ _)
      | (with_reducible exact LeO.refl _)
      | (with_reducible exact LeO.none _)
      | (with_reducible refine LeO.ite ?_ ?_)
      | (with_reducible refine LeO.bind ?_ (fun _ => ?_))
      | exact ih0 _ _ _ _
      | exact LeO.none _
      | refine LeO.ite ?_ ?_
      | refine LeO.bind ?_ (fun _ => ?_)
theorem estoversref19_kids.mono : ∀ a0 a1 k, LeO (estoversref19_kids.f k a0 a1) (estoversref19_kids.f (k + 1) a0 a1) := by
  intro a0 a1 k
  have ih0 := estoversref19_kids.mono_l k
  unfold estoversref19_kids.f
  repeat' first
      | (with_reducible exact ih0 _ _ _ _)
      | (with_reducible exact LeO.refl _)
      | (with_reducible exact LeO.none _)
      | (with_reducible refine LeO.ite ?_ ?_)
      | (with_reducible refine LeO.bind ?_ (fun _ => ?_))
      | exact ih0 _ _ _ _
      | exact LeO.none _
      | refine LeO.ite ?_ ?_
      | refine LeO.bind ?_ (fun _ => ?_)
set_option maxHeartbeats 8000000 in
set_option maxRecDepth 100000 in
theorem estoversref19_kids.calls (k : Nat) (A0 : Option Addr) (c0 : Nat) (l0 : List (S43)) (a1 : Int) (r : Int) (w : World) (hr0 : Kd.C k43 w A0 l0.length l0) (hc0 : l0.length ≤ c0) (h : estoversref19_kids.f k l0 a1 = some r) :
    Calls Try.prog 46 #[.slice A0 l0.length c0, .int .i64 a1] w fun e w' => e = .returned (.int .i64 r) ∧ Drawn0 w w' := by
  have HR0 := Aside0.mk hr0
  have HC0 := Aside0.mk hc0
  clear hr0 hc0
  have H : (estoversref19_kids.l0 k l0 a1 0 1) = some r := h
  clear h
  have H' := Aside0.mk H
  clear H
  go_enter Try.func46, Try.ntmps46
  go_wp2
  go_loopg [5, 6] k (fun kq v5 v6 w' => ∃ (x5_1 : Int) (x6_1 : Int), v5 = .int .i64 x5_1 ∧ v6 = .int .i64 x6_1 ∧ Aside0 (estoversref19_kids.l0 kq l0 a1 x5_1 x6_1 = some r) ∧ Aside0 (kq ≤ k) ∧ Drawn0 w w')
  case atStart => exact ⟨(0), (1), (by first | rfl | (simp; done) | (simp [*]; done)), (by first | rfl | (simp; done) | (simp [*]; done)), H', ⟨Nat.le_refl _⟩, by repeat (first | exact Drawn0.refl _ | apply Drawn0.step)⟩
  case round =>
    clear H'
    try clear p2
    obtain ⟨x5_1, x6_1, rfl, rfl, HA, HK1, ⟨m1, rfl⟩⟩ := hrel
    cases gk with
    | zero => exact absurd HA.out (by simp [estoversref19_kids.l0])
    | succ k1 =>
      have H := HA.out
      clear HA
      simp only [estoversref19_kids.l0] at H
      by_cases c3 : x6_1 < (l0.length : Int)
      · rw [if_pos c3] at H
        have c3b0 : decide (x6_1 < (l0.length : Int)) = true := decide_eq_true c3
        clear c3
        by_cases c4 : 0 ≤ x6_1
        · rw [if_pos c4] at H
          have c4b0 : decide (0 ≤ x6_1) = true := decide_eq_true c4
          clear c4
          by_cases c5 : ((rd_T43 l0 x6_1).f0) = a1
          · rw [if_pos c5] at H
            have c5b0 : (((rd_T43 l0 x6_1).f0) == a1) = true := beq_iff_eq.mpr c5
            have c5b1 : (((rd_T43 l0 x6_1).f0) != a1) = false := bne_eq_false_iff_eq.mpr c5
            clear c5
            have H' := Aside0.mk H
            clear H
            have p168 : 0 ≤ (x6_1 : Int) := of_decide_eq_true (by first | (with_reducible assumption) | assumption)
            have q168 : x6_1 < (l0.length : Int) := of_decide_eq_true (by first | (with_reducible assumption) | assumption)
            obtain ⟨ad168, e168, hx168_0, hx168_1, hx168_2, hx168_3, hx168_4⟩ := at_T43 HR0.out x6_1 p168 q168
            cases e168
            replace p168 := eq_true p168
            replace q168 := eq_true q168
            have p169 : 0 ≤ (x6_1 : Int) := of_decide_eq_true (by first | (with_reducible assumption) | assumption)
            have q169 : x6_1 < (l0.length : Int) := of_decide_eq_true (by first | (with_reducible assumption) | assumption)
            obtain ⟨ad169, e169, hx169_0, hx169_1, hx169_2, hx169_3, hx169_4⟩ := at_T43 HR0.out x6_1 p169 q169
            obtain rfl : ad168 = ad169 := (by injection e169)
            replace p169 := eq_true p169
            replace q169 := eq_true q169
            go_wp2
            go_roundg k1
            case measure => have := HK1.out; omega
            case rel => exact ⟨(wrap64 (x5_1 + ((rd_T43 l0 x6_1).f1))), (wrap64 (x6_1 + 1)), (by first | rfl | (simp; done) | (simp [*]; done)), (by first | rfl | (simp; done) | (simp [*]; done)), H', ⟨by have := HK1.out; omega⟩, by repeat (first | exact Drawn0.refl _ | apply Drawn0.step)⟩
          · rw [if_neg c5] at H
            have c5b0 : (((rd_T43 l0 x6_1).f0) == a1) = false := beq_eq_false_iff_ne.mpr c5
            have c5b1 : (((rd_T43 l0 x6_1).f0) != a1) = true := bne_iff_ne.mpr c5
            have H' := Aside0.mk H
            clear H
            have p168 : 0 ≤ (x6_1 : Int) := of_decide_eq_true (by first | (with_reducible assumption) | assumption)
            have q168 : x6_1 < (l0.length : Int) := of_decide_eq_true (by first | (with_reducible assumption) | assumption)
            obtain ⟨ad168, e168, hx168_0, hx168_1, hx168_2, hx168_3, hx168_4⟩ := at_T43 HR0.out x6_1 p168 q168
            cases e168
            replace p168 := eq_true p168
            replace q168 := eq_true q168
            go_wp2
            go_roundg k1
            case measure => have := HK1.out; omega
            case rel => exact ⟨(x5_1), (wrap64 (x6_1 + 1)), (by first | rfl | (simp; done) | (simp [*]; done)), (by first | rfl | (simp; done) | (simp [*]; done)), H', ⟨by have := HK1.out; omega⟩, by repeat (first | exact Drawn0.refl _ | apply Drawn0.step)⟩
        · rw [if_neg c4] at H
          exact absurd H (by simp)
      · rw [if_neg c3] at H
        have c3b0 : decide (x6_1 < (l0.length : Int)) = false := decide_eq_false c3
        clear c3
        obtain rfl := Option.some.inj H
        go_wp2
        go_ret
        exact ⟨by first | rfl | (simp; done) | (simp [*]; done), by repeat (first | exact Drawn0.refl _ | apply Drawn0.step)⟩

end Go.Proofs.Ytpomppjeknmciaa.PThrottleSum
