-- Printed by a copy of the kit's printer that this session has patched (wip/tools/patch_print.py): the session's own text. Lean checks it.
import Derived.Test.YtpomppjeknmciaaPThrottleOldestx0
import Derived.Test.YtpomppjeknmciaaPThrottleOldestx3
import Derived.Test.YtpomppjeknmciaaPThrottleOldestx4
import Derived.Test.YtpomppjeknmciaaPThrottleOldestx5
namespace Go.Proofs.Ytpomppjeknmciaa.PThrottleOldest
open Go.RowKit Go.Proofs.YtpomppjeknmciaaW.PrintWords Go.Proofs.YtpomppjeknmciaaW.PrintLast Go.Proofs.YtpomppjeknmciaaW.PrintMore
attribute [local go_sem] max2_int min2_int max_two min_two max_three min_three max_four min_four   -- for this text's walks alone
set_option linter.unusedVariables false
set_option linter.unusedSimpArgs false

/-! ### estoverslaw30_ThrottleOldest: function 5 -/
mutual
def estoverslaw30_ThrottleOldest.j0 : Nat → List (S61) → Bool → Option (Bool)
  | 0, _, _ => none
  | k + 1, x0, x12 => if x12 = true then ((estoverslaw30_awake.f k).bind fun t169 => (some t169)) else ((estoverslaw30_Frames.f k x0).bind fun t170 => ((throttle_Oldest.f k t170).bind fun t173 => (if t173 < (-1) then (estoverslaw30_ThrottleOldest.j1 k t170 t173 true) else (estoverslaw30_ThrottleOldest.j1 k t170 t173 (decide (t173 ≥ (t170.length : Int)))))))
def estoverslaw30_ThrottleOldest.j1 : Nat → List (S35) → Int → Bool → Option (Bool)
  | 0, _, _, _ => none
  | k + 1, x3, x4, x25 => if x25 = true then (none) else (estoverslaw30_ThrottleOldest.l0 k x3 x4 (x3.length : Int) 0)
def estoverslaw30_ThrottleOldest.l0 : Nat → List (S35) → Int → Int → Int → Option (Bool)
  | 0, _, _, _, _ => none
  | k + 1, x3, x4, x27, x28 => if x28 < x27 then (if 0 ≤ x28 then (if x28 < (x3.length : Int) then (if ((rd_T35 x3 x28).f0) = 4 then (if ((rd_T35 x3 x28).f10 = true) then (estoverslaw30_ThrottleOldest.j3 k x3 x4 x28 x27 x28 (((rd_T35 x3 x28).f1) != 0)) else (estoverslaw30_ThrottleOldest.j3 k x3 x4 x28 x27 x28 true)) else (estoverslaw30_ThrottleOldest.j3 k x3 x4 x28 x27 x28 true)) else (none)) else (none)) else (some true)
def estoverslaw30_ThrottleOldest.j3 : Nat → List (S35) → Int → Int → Int → Int → Bool → Option (Bool)
  | 0, _, _, _, _, _, _ => none
  | k + 1, x3, x4, x5, x27, x28, x52 => if x52 = true then (if x5 = x4 then (none) else (estoverslaw30_ThrottleOldest.l0 k x3 x4 x27 (wrap64 (x28 + 1)))) else (if x4 < 0 then (none) else (if 0 ≤ x5 then (if x5 < (x3.length : Int) then (if 0 ≤ x4 then (if x4 < (x3.length : Int) then (if ((rd_T35 x3 x5).f9) < ((rd_T35 x3 x4).f9) then (none) else (if ((rd_T35 x3 x5).f9) = ((rd_T35 x3 x4).f9) then (if x5 < x4 then (none) else (estoverslaw30_ThrottleOldest.l0 k x3 x4 x27 (wrap64 (x28 + 1)))) else (estoverslaw30_ThrottleOldest.l0 k x3 x4 x27 (wrap64 (x28 + 1))))) else (none)) else (none)) else (none)) else (none)))
end
def estoverslaw30_ThrottleOldest.f (k : Nat) (l0 : List (S61)) : Option (Bool) := (estoverslaw30_awake.f k).bind fun t168 => (if t168 = true then (estoverslaw30_ThrottleOldest.j0 k l0 (decide ((l0.length : Int) > 300))) else (estoverslaw30_ThrottleOldest.j0 k l0 true))
theorem estoverslaw30_ThrottleOldest.mono_l : ∀ k, (∀ y0 y1, LeO (estoverslaw30_ThrottleOldest.j0 k y0 y1) (estoverslaw30_ThrottleOldest.j0 (k + 1) y0 y1)) ∧ (∀ y0 y1 y2, LeO (estoverslaw30_ThrottleOldest.j1 k y0 y1 y2) (estoverslaw30_ThrottleOldest.j1 (k + 1) y0 y1 y2)) ∧ (∀ y0 y1 y2 y3, LeO (estoverslaw30_ThrottleOldest.l0 k y0 y1 y2 y3) (estoverslaw30_ThrottleOldest.l0 (k + 1) y0 y1 y2 y3)) ∧ (∀ y0 y1 y2 y3 y4 y5, LeO (estoverslaw30_ThrottleOldest.j3 k y0 y1 y2 y3 y4 y5) (estoverslaw30_ThrottleOldest.j3 (k + 1) y0 y1 y2 y3 y4 y5))
  | 0 => ⟨fun _ _ r h => by simp [estoverslaw30_ThrottleOldest.j0] at h, fun _ _ _ r h => by simp [estoverslaw30_ThrottleOldest.j1] at h, fun _ _ _ _ r h => by simp [estoverslaw30_ThrottleOldest.l0] at h, fun _ _ _ _ _ _ r h => by simp [estoverslaw30_ThrottleOldest.j3] at h⟩
  | k + 1 => by
    obtain ⟨ih0, ih1, ih2, ih3⟩ := estoverslaw30_ThrottleOldest.mono_l k
    refine ⟨?_, ?_, ?_, ?_⟩
    · intro y0 y1
      unfold estoverslaw30_ThrottleOldest.j0
      repeat' first
      | (with_reducible exact ih0 _ _)
      | (with_reducible exact ih1 _ _ _)
      | (with_reducible exact ih2 _ _ _ _)
      | (with_reducible exact ih3 _ _ _ _ _ _)
      | (with_reducible exact estoverslaw30_Frames.mono _ _)
      | (with_reducible exact estoverslaw30_awake.mono _)
      | (with_reducible exact throttle_Oldest.mono _ _)
      | (with_reducible exact LeO.refl _)
      | (with_reducible exact LeO.none _)
      | (with_reducible refine LeO.ite ?_ ?_)
      | (with_reducible refine LeO.bind ?_ (fun _ => ?_))
      | exact ih0 _ _
      | exact ih1 _ _ _
      | exact ih2 _ _ _ _
      | exact ih3 _ _ _ _ _ _
      | exact estoverslaw30_Frames.mono _ _
      | exact estoverslaw30_awake.mono _
      | exact throttle_Oldest.mono _ _
      | exact LeO.none _
      | refine LeO.ite ?_ ?_
      | refine LeO.bind ?_ (fun _ => ?_)
    · intro y0 y1 y2
      unfold estoverslaw30_ThrottleOldest.j1
      repeat' first
      | (with_reducible exact ih0 _ _)
      | (with_reducible exact ih1 _ _ _)
      | (with_reducible exact ih2 _ _ _ _)
      | (with_reducible exact ih3 _ _ _ _ _ _)
      | (with_reducible exact estoverslaw30_Frames.mono _ _)
      | (with_reducible exact estoverslaw30_awake.mono _)
      | (with_reducible exact throttle_Oldest.mono _ _)
      | (with_reducible exact LeO.refl _)
      | (with_reducible exact LeO.none _)
      | (with_reducible refine LeO.ite ?_ ?_)
      | (with_reducible refine LeO.bind ?_ (fun _ => ?_))
      | exact ih0 _ _
      | exact ih1 _ _ _
      | exact ih2 _ _ _ _
      | exact ih3 _ _ _ _ _ _
      | exact estoverslaw30_Frames.mono _ _
      | exact estoverslaw30_awake.mono _
      | exact throttle_Oldest.mono _ _
      | exact LeO.none _
      | refine LeO.ite ?_ ?_
      | refine LeO.bind ?_ (fun _ => ?_)
    · intro y0 y1 y2 y3
      unfold estoverslaw30_ThrottleOldest.l0
      repeat' first
      | (with_reducible exact ih0 _ _)
      | (with_reducible exact ih1 _ _ _)
      | (with_reducible exact ih2 _ _ _ _)
      | (with_reducible exact ih3 _ _ _ _ _ _)
      | (with_reducible exact estoverslaw30_Frames.mono _ _)
      | (with_reducible exact estoverslaw30_awake.mono _)
      | (with_reducible exact throttle_Oldest.mono _ _)
      | (with_reducible exact LeO.refl _)
      | (with_reducible exact LeO.none _)
      | (with_reducible refine LeO.ite ?_ ?_)
      | (with_reducible refine LeO.bind ?_ (fun _ => ?_))
      | exact ih0 _ _
      | exact ih1 _ _ _
      | exact ih2 _ _ _ _
      | exact ih3 _ _ _ _ _ _
      | exact estoverslaw30_Frames.mono _ _
      | exact estoverslaw30_awake.mono _
      | exact throttle_Oldest.mono _ _
      | exact LeO.none _
      | refine LeO.ite ?_ ?_
      | refine LeO.bind ?_ (fun _ => ?_)
    · intro y0 y1 y2 y3 y4 y5
      unfold estoverslaw30_ThrottleOldest.j3
      repeat' first
      | (with_reducible exact ih0 _ _)
      | (with_reducible exact ih1 _ _ _)
      | (with_reducible exact ih2 _ _ _ _)
      | (with_reducible exact ih3 _ _ _ _ _ _)
      | (with_reducible exact estoverslaw30_Frames.mono _ _)
      | (with_reducible exact estoverslaw30_awake.mono _)
      | (with_reducible exact throttle_Oldest.mono _ _)
      | (with_reducible exact LeO.refl _)
      | (with_reducible exact LeO.none _)
      | (with_reducible refine LeO.ite ?_ ?_)
      | (with_reducible refine LeO.bind ?_ (fun _ => ?_))
      | exact ih0 _ _
      | exact ih1 _ _ _
      | exact ih2 _ _ _ _
      | exact ih3 _ _ _ _ _ _
      | exact estoverslaw30_Frames.mono _ _
      | exact estoverslaw30_awake.mono _
      | exact throttle_Oldest.mono _ _
      | exact LeO.none _
      | refine LeO.ite ?_ ?_
      | refine LeO.bind ?_ (fun _ => ?_)
theorem estoverslaw30_ThrottleOldest.mono : ∀ a0 k, LeO (estoverslaw30_ThrottleOldest.f k a0) (estoverslaw30_ThrottleOldest.f (k + 1) a0) := by
  intro a0 k
  obtain ⟨ih0, ih1, ih2, ih3⟩ := estoverslaw30_ThrottleOldest.mono_l k
  unfold estoverslaw30_ThrottleOldest.f
  repeat' first
      | (with_reducible exact ih0 _ _)
      | (with_reducible exact ih1 _ _ _)
      | (with_reducible exact ih2 _ _ _ _)
      | (with_reducible exact ih3 _ _ _ _ _ _)
      | (with_reducible exact estoverslaw30_Frames.mono _ _)
      | (with_reducible exact estoverslaw30_awake.mono _)
      | (with_reducible exact throttle_Oldest.mono _ _)
      | (with_reducible exact LeO.refl _)
      | (with_reducible exact LeO.none _)
      | (with_reducible refine LeO.ite ?_ ?_)
      | (with_reducible refine LeO.bind ?_ (fun _ => ?_))
      | exact ih0 _ _
      | exact ih1 _ _ _
      | exact ih2 _ _ _ _
      | exact ih3 _ _ _ _ _ _
      | exact estoverslaw30_Frames.mono _ _
      | exact estoverslaw30_awake.mono _
      | exact throttle_Oldest.mono _ _
      | exact LeO.none _
      | refine LeO.ite ?_ ?_
      | refine LeO.bind ?_ (fun _ => ?_)
set_option maxHeartbeats 8000000 in
set_option maxRecDepth 100000 in
theorem estoverslaw30_ThrottleOldest.calls (k : Nat) (A0 : Option Addr) (c0 : Nat) (l0 : List (S61)) (r : Bool) (w : World) (hr0 : Kd.C k61 w A0 l0.length l0) (hc0 : l0.length ≤ c0) (h : estoverslaw30_ThrottleOldest.f k l0 = some r) :
    Calls Try.prog 5 #[.slice A0 l0.length c0] w fun e w' => e = .returned (.bool r) ∧ Below w.heap.size w w' := by
  have HR0 := Aside0.mk hr0
  have HC0 := Aside0.mk hc0
  clear hr0 hc0
  have HB := Aside0.mk (Below.refl w.heap.size w)
  have H : ((estoverslaw30_awake.f k).bind fun t168 => (if t168 = true then (estoverslaw30_ThrottleOldest.j0 k l0 (decide ((l0.length : Int) > 300))) else (estoverslaw30_ThrottleOldest.j0 k l0 true))) = some r := h
  clear h
  have HC2 := Aside0.mk H
  clear H
  go_enter Try.func5, Try.ntmps5
  go_upto_region 1 with (fail)
  repeat (go_quiet (fail); go_upto_region 1 with (fail))
  go_cut [12] (fun v12 wc => ∃ (kq : Nat) (x12_1 : Bool), v12 = .bool x12_1 ∧ Aside0 (estoverslaw30_ThrottleOldest.j0 kq l0 x12_1 = some r) ∧ Aside0 (kq ≤ k) ∧ Aside0 (Below w.heap.size w wc))
  case first =>
    have H := HC2.out
    clear HC2
    replace H := Option.bind_eq_some_iff.mp H
    obtain ⟨t168, A30, H⟩ := H
    replace H : (if t168 = true then (estoverslaw30_ThrottleOldest.j0 k l0 (decide ((l0.length : Int) > 300))) else (estoverslaw30_ThrottleOldest.j0 k l0 true)) = some r := H
    have A3 := Aside0.mk A30
    clear A30
    by_cases c4 : t168 = true
    · subst c4
      have H1 : (estoverslaw30_ThrottleOldest.j0 k l0 (decide ((l0.length : Int) > 300))) = some r := by rw [if_pos rfl] at H; exact H
      clear H
      have H := H1
      clear H1
      have H' := Aside0.mk H
      clear H
      go_wp2_with (first | (go_at_call 16; (with_reducible refine (estoverslaw30_awake.calls k  true _ A3.out).mono ?_); rintro e w5 ⟨rfl, hb⟩; have n0_ := Aside0.mk (below_step (by repeat (first | (with_reducible first | exact HB.out | apply below_alloc | apply pw_below_drewN | apply below_drew1) | exact HB.out)) hb); clear HB; have HB := n0_; clear n0_; (try clear hb); (try clear hb2); (try clear hk); (try clear hi)))
      repeat (go_quiet (first | (go_at_call 16; (with_reducible refine (estoverslaw30_awake.calls k  true _ A3.out).mono ?_); rintro e w5 ⟨rfl, hb⟩; have n0_ := Aside0.mk (below_step (by repeat (first | (with_reducible first | exact HB.out | apply below_alloc | apply pw_below_drewN | apply below_drew1) | exact HB.out)) hb); clear HB; have HB := n0_; clear n0_; (try clear hb); (try clear hb2); (try clear hk); (try clear hi))); try go_wp2_with (first | (go_at_call 16; (with_reducible refine (estoverslaw30_awake.calls k  true _ A3.out).mono ?_); rintro e w5 ⟨rfl, hb⟩; have n0_ := Aside0.mk (below_step (by repeat (first | (with_reducible first | exact HB.out | apply below_alloc | apply pw_below_drewN | apply below_drew1) | exact HB.out)) hb); clear HB; have HB := n0_; clear n0_; (try clear hb); (try clear hb2); (try clear hk); (try clear hi))))
      go_meet
      case rel => exact ⟨_, (decide ((l0.length : Int) > 300)), (by first | rfl | (simp; done) | (simp [*]; done)), H', ⟨by first | omega | exact Nat.le_refl _⟩, ⟨by repeat (first | (with_reducible first | exact HB.out | apply below_alloc | apply pw_below_drewN | apply below_drew1) | exact HB.out)⟩⟩
    · replace c4 := Bool.eq_false_iff.mpr c4
      subst c4
      have H1 : (estoverslaw30_ThrottleOldest.j0 k l0 true) = some r := by rw [if_neg (show ¬ (false = true) by decide)] at H; exact H
      clear H
      have H := H1
      clear H1
      have H' := Aside0.mk H
      clear H
      go_wp2_with (first | (go_at_call 16; (with_reducible refine (estoverslaw30_awake.calls k  false _ A3.out).mono ?_); rintro e w6 ⟨rfl, hb⟩; have n0_ := Aside0.mk (below_step (by repeat (first | (with_reducible first | exact HB.out | apply below_alloc | apply pw_below_drewN | apply below_drew1) | exact HB.out)) hb); clear HB; have HB := n0_; clear n0_; (try clear hb); (try clear hb2); (try clear hk); (try clear hi)))
      repeat (go_quiet (first | (go_at_call 16; (with_reducible refine (estoverslaw30_awake.calls k  false _ A3.out).mono ?_); rintro e w6 ⟨rfl, hb⟩; have n0_ := Aside0.mk (below_step (by repeat (first | (with_reducible first | exact HB.out | apply below_alloc | apply pw_below_drewN | apply below_drew1) | exact HB.out)) hb); clear HB; have HB := n0_; clear n0_; (try clear hb); (try clear hb2); (try clear hk); (try clear hi))); try go_wp2_with (first | (go_at_call 16; (with_reducible refine (estoverslaw30_awake.calls k  false _ A3.out).mono ?_); rintro e w6 ⟨rfl, hb⟩; have n0_ := Aside0.mk (below_step (by repeat (first | (with_reducible first | exact HB.out | apply below_alloc | apply pw_below_drewN | apply below_drew1) | exact HB.out)) hb); clear HB; have HB := n0_; clear n0_; (try clear hb); (try clear hb2); (try clear hk); (try clear hi))))
      go_meet
      case rel => exact ⟨_, (true), (by first | rfl | (simp; done) | (simp [*]; done)), H', ⟨by first | omega | exact Nat.le_refl _⟩, ⟨by repeat (first | (with_reducible first | exact HB.out | apply below_alloc | apply pw_below_drewN | apply below_drew1) | exact HB.out)⟩⟩
  case rest =>
    clear HC2
    try clear p2
    try clear c4
    try clear c5
    obtain ⟨kq, x12_1, rfl, HA, HJ1, HB⟩ := hcut
    cases kq with
    | zero => exact absurd HA.out (by simp [estoverslaw30_ThrottleOldest.j0])
    | succ kj1 =>
      have H := HA.out
      clear HA
      simp only [estoverslaw30_ThrottleOldest.j0] at H
      by_cases c7 : x12_1 = true
      · subst c7
        have H1 : ((estoverslaw30_awake.f kj1).bind fun t169 => (some t169)) = some r := by rw [if_pos rfl] at H; exact H
        clear H
        have H := H1
        clear H1
        replace H := Option.bind_eq_some_iff.mp H
        obtain ⟨t169, A80, H⟩ := H
        replace H : (some t169) = some r := H
        have A8 := Aside0.mk A80
        clear A80
        obtain rfl := Option.some.inj H
        go_wp2_with (first | (go_at_call 16; (with_reducible refine (estoverslaw30_awake.calls kj1  t169 _ A8.out).mono ?_); rintro e w9 ⟨rfl, hb⟩; have n0_ := Aside0.mk (below_step (by repeat (first | (with_reducible first | exact HB.out | apply below_alloc | apply pw_below_drewN | apply below_drew1) | exact HB.out)) hb); clear HB; have HB := n0_; clear n0_; (try clear hb); (try clear hb2); (try clear hk); (try clear hi)))
        repeat (go_quiet (first | (go_at_call 16; (with_reducible refine (estoverslaw30_awake.calls kj1  t169 _ A8.out).mono ?_); rintro e w9 ⟨rfl, hb⟩; have n0_ := Aside0.mk (below_step (by repeat (first | (with_reducible first | exact HB.out | apply below_alloc | apply pw_below_drewN | apply below_drew1) | exact HB.out)) hb); clear HB; have HB := n0_; clear n0_; (try clear hb); (try clear hb2); (try clear hk); (try clear hi))); try go_wp2_with (first | (go_at_call 16; (with_reducible refine (estoverslaw30_awake.calls kj1  t169 _ A8.out).mono ?_); rintro e w9 ⟨rfl, hb⟩; have n0_ := Aside0.mk (below_step (by repeat (first | (with_reducible first | exact HB.out | apply below_alloc | apply pw_below_drewN | apply below_drew1) | exact HB.out)) hb); clear HB; have HB := n0_; clear n0_; (try clear hb); (try clear hb2); (try clear hk); (try clear hi))))
        go_ret
        exact ⟨by first | rfl | (simp [errW_none, errW_some] <;> rfl) | (simp [*, errW_none, errW_some] <;> rfl), by repeat (first | (with_reducible first | exact HB.out | apply below_alloc | apply pw_below_drewN | apply below_drew1) | exact HB.out)⟩
      · replace c7 := Bool.eq_false_iff.mpr c7
        subst c7
        have H1 : ((estoverslaw30_Frames.f kj1 l0).bind fun t170 => ((throttle_Oldest.f kj1 t170).bind fun t173 => (if t173 < (-1) then (estoverslaw30_ThrottleOldest.j1 kj1 t170 t173 true) else (estoverslaw30_ThrottleOldest.j1 kj1 t170 t173 (decide (t173 ≥ (t170.length : Int))))))) = some r := by rw [if_neg (show ¬ (false = true) by decide)] at H; exact H
        clear H
        have H := H1
        clear H1
        replace H := Option.bind_eq_some_iff.mp H
        obtain ⟨t170, A100, H⟩ := H
        replace H : ((throttle_Oldest.f kj1 t170).bind fun t173 => (if t173 < (-1) then (estoverslaw30_ThrottleOldest.j1 kj1 t170 t173 true) else (estoverslaw30_ThrottleOldest.j1 kj1 t170 t173 (decide (t173 ≥ (t170.length : Int)))))) = some r := H
        have A10 := Aside0.mk A100
        clear A100
        replace H := Option.bind_eq_some_iff.mp H
        obtain ⟨t173, A110, H⟩ := H
        replace H : (if t173 < (-1) then (estoverslaw30_ThrottleOldest.j1 kj1 t170 t173 true) else (estoverslaw30_ThrottleOldest.j1 kj1 t170 t173 (decide (t173 ≥ (t170.length : Int))))) = some r := H
        have A11 := Aside0.mk A110
        clear A110
        have HC12 := Aside0.mk H
        clear H
        go_upto_region 5 with (first | (go_at_call 21; (with_reducible refine (estoverslaw30_Frames.calls kj1 _ _ l0 t170 _ ?side1 ?side2 A10.out).mono ?_); (case side1 => repeat (first | exact (Kd.C_below HR0.out HB.out) | (with_reducible refine Kd.C_alloc ?_ _) | (with_reducible refine Kd.C_drewN ?_ _) | (with_reducible refine Kd.C_drew ?_))); (case side2 => exact HC0.out); rintro e w13 ⟨v171, rfl, ho0, hb⟩; have n0_ := Aside0.mk (Kd.S_lower ho0 (below_size (by repeat (first | (with_reducible first | exact HB.out | apply below_alloc | apply pw_below_drewN | apply below_drew1) | exact HB.out)))); have n1_ := Aside0.mk (below_step (by repeat (first | (with_reducible first | exact HB.out | apply below_alloc | apply pw_below_drewN | apply below_drew1) | exact HB.out)) hb); clear HB; have HO172 := n0_; have HB := n1_; clear n0_ n1_; (try clear hb); (try clear hb2); (try clear hk); (try clear hi); (try clear ho0); obtain ⟨Ao14, co14, eo14⟩ := Kd.S_slice HO172.out; subst eo14) | (go_at_call 22; (with_reducible refine (throttle_Oldest.calls kj1 _ _ t170 t173 _ ?side1 ?side2 A11.out).mono ?_); (case side1 => repeat (first | exact (Kd.S_reads' HO172.out).2.2 | (with_reducible refine Kd.C_alloc ?_ _) | (with_reducible refine Kd.C_drewN ?_ _) | (with_reducible refine Kd.C_drew ?_))); (case side2 => exact (Kd.S_reads' HO172.out).2.1); rintro e w15 ⟨rfl, hb⟩; have n0_ := Aside0.mk (Kd.S_below (by (with_reducible repeat (first | apply Kd.S_alloc | apply Kd.S_drewN | apply Kd.S_drew)); exact HO172.out) hb); have n1_ := Aside0.mk (below_step (by repeat (first | (with_reducible first | exact HB.out | apply below_alloc | apply pw_below_drewN | apply below_drew1) | exact HB.out)) hb); clear HO172; clear HB; have HO172 := n0_; have HB := n1_; clear n0_ n1_; (try clear hb); (try clear hb2); (try clear hk); (try clear hi)))
        repeat (go_quiet (first | (go_at_call 21; (with_reducible refine (estoverslaw30_Frames.calls kj1 _ _ l0 t170 _ ?side1 ?side2 A10.out).mono ?_); (case side1 => repeat (first | exact (Kd.C_below HR0.out HB.out) | (with_reducible refine Kd.C_alloc ?_ _) | (with_reducible refine Kd.C_drewN ?_ _) | (with_reducible refine Kd.C_drew ?_))); (case side2 => exact HC0.out); rintro e w13 ⟨v171, rfl, ho0, hb⟩; have n0_ := Aside0.mk (Kd.S_lower ho0 (below_size (by repeat (first | (with_reducible first | exact HB.out | apply below_alloc | apply pw_below_drewN | apply below_drew1) | exact HB.out)))); have n1_ := Aside0.mk (below_step (by repeat (first | (with_reducible first | exact HB.out | apply below_alloc | apply pw_below_drewN | apply below_drew1) | exact HB.out)) hb); clear HB; have HO172 := n0_; have HB := n1_; clear n0_ n1_; (try clear hb); (try clear hb2); (try clear hk); (try clear hi); (try clear ho0); obtain ⟨Ao14, co14, eo14⟩ := Kd.S_slice HO172.out; subst eo14) | (go_at_call 22; (with_reducible refine (throttle_Oldest.calls kj1 _ _ t170 t173 _ ?side1 ?side2 A11.out).mono ?_); (case side1 => repeat (first | exact (Kd.S_reads' HO172.out).2.2 | (with_reducible refine Kd.C_alloc ?_ _) | (with_reducible refine Kd.C_drewN ?_ _) | (with_reducible refine Kd.C_drew ?_))); (case side2 => exact (Kd.S_reads' HO172.out).2.1); rintro e w15 ⟨rfl, hb⟩; have n0_ := Aside0.mk (Kd.S_below (by (with_reducible repeat (first | apply Kd.S_alloc | apply Kd.S_drewN | apply Kd.S_drew)); exact HO172.out) hb); have n1_ := Aside0.mk (below_step (by repeat (first | (with_reducible first | exact HB.out | apply below_alloc | apply pw_below_drewN | apply below_drew1) | exact HB.out)) hb); clear HO172; clear HB; have HO172 := n0_; have HB := n1_; clear n0_ n1_; (try clear hb); (try clear hb2); (try clear hk); (try clear hi))); go_upto_region 5 with (first | (go_at_call 21; (with_reducible refine (estoverslaw30_Frames.calls kj1 _ _ l0 t170 _ ?side1 ?side2 A10.out).mono ?_); (case side1 => repeat (first | exact (Kd.C_below HR0.out HB.out) | (with_reducible refine Kd.C_alloc ?_ _) | (with_reducible refine Kd.C_drewN ?_ _) | (with_reducible refine Kd.C_drew ?_))); (case side2 => exact HC0.out); rintro e w13 ⟨v171, rfl, ho0, hb⟩; have n0_ := Aside0.mk (Kd.S_lower ho0 (below_size (by repeat (first | (with_reducible first | exact HB.out | apply below_alloc | apply pw_below_drewN | apply below_drew1) | exact HB.out)))); have n1_ := Aside0.mk (below_step (by repeat (first | (with_reducible first | exact HB.out | apply below_alloc | apply pw_below_drewN | apply below_drew1) | exact HB.out)) hb); clear HB; have HO172 := n0_; have HB := n1_; clear n0_ n1_; (try clear hb); (try clear hb2); (try clear hk); (try clear hi); (try clear ho0); obtain ⟨Ao14, co14, eo14⟩ := Kd.S_slice HO172.out; subst eo14) | (go_at_call 22; (with_reducible refine (throttle_Oldest.calls kj1 _ _ t170 t173 _ ?side1 ?side2 A11.out).mono ?_); (case side1 => repeat (first | exact (Kd.S_reads' HO172.out).2.2 | (with_reducible refine Kd.C_alloc ?_ _) | (with_reducible refine Kd.C_drewN ?_ _) | (with_reducible refine Kd.C_drew ?_))); (case side2 => exact (Kd.S_reads' HO172.out).2.1); rintro e w15 ⟨rfl, hb⟩; have n0_ := Aside0.mk (Kd.S_below (by (with_reducible repeat (first | apply Kd.S_alloc | apply Kd.S_drewN | apply Kd.S_drew)); exact HO172.out) hb); have n1_ := Aside0.mk (below_step (by repeat (first | (with_reducible first | exact HB.out | apply below_alloc | apply pw_below_drewN | apply below_drew1) | exact HB.out)) hb); clear HO172; clear HB; have HO172 := n0_; have HB := n1_; clear n0_ n1_; (try clear hb); (try clear hb2); (try clear hk); (try clear hi))))
        (try simp only [Act.put, List.setIfInBounds_toArray, List.set_cons_zero, List.set_cons_succ])
        go_cut [25] (fun v25 wc => ∃ (kq : Nat) (x25_11 : Bool), v25 = .bool x25_11 ∧ Aside0 (estoverslaw30_ThrottleOldest.j1 kq t170 t173 x25_11 = some r) ∧ Aside0 (kq ≤ kj1) ∧ Aside0 (Kd.S k35 35 wc w.heap.size (fun _ => True) (.slice Ao14 t170.length co14) t170) ∧ Aside0 (Below w.heap.size w wc))
        case first =>
          have H := HC12.out
          clear HC12
          by_cases c16 : t173 < (-1)
          · rw [if_pos c16] at H
            have c16b0 : decide (t173 < (-1)) = true := decide_eq_true c16
            clear c16
            (first | rw [c16b0] | (simp only [i64_w, i32_w]; rw [c16b0]) | skip)
            have H' := Aside0.mk H
            clear H
            go_wp2
            repeat (go_quiet (fail); try go_wp2)
            go_meet
            case rel => exact ⟨_, (true), (by first | rfl | (simp; done) | (simp [*]; done)), H', ⟨by have := HJ1.out; first | omega | exact Nat.le_refl _⟩, ⟨by (with_reducible repeat (first | apply Kd.S_alloc | apply Kd.S_drewN | apply Kd.S_drew)); exact HO172.out⟩, ⟨by repeat (first | (with_reducible first | exact HB.out | apply below_alloc | apply pw_below_drewN | apply below_drew1) | exact HB.out)⟩⟩
          · rw [if_neg c16] at H
            have c16b0 : decide (t173 < (-1)) = false := decide_eq_false c16
            clear c16
            (first | rw [c16b0] | (simp only [i64_w, i32_w]; rw [c16b0]) | skip)
            have H' := Aside0.mk H
            clear H
            go_wp2
            repeat (go_quiet (fail); try go_wp2)
            go_meet
            case rel => exact ⟨_, (decide (t173 ≥ (t170.length : Int))), (by first | rfl | (simp; done) | (simp [*]; done)), H', ⟨by have := HJ1.out; first | omega | exact Nat.le_refl _⟩, ⟨by (with_reducible repeat (first | apply Kd.S_alloc | apply Kd.S_drewN | apply Kd.S_drew)); exact HO172.out⟩, ⟨by repeat (first | (with_reducible first | exact HB.out | apply below_alloc | apply pw_below_drewN | apply below_drew1) | exact HB.out)⟩⟩
        case rest =>
          clear HC12
          try clear c1
          try clear p2
          try clear c4
          try clear c5
          try clear c7
          try clear c16
          try clear c16b0
          try clear p2
          obtain ⟨kq, x25_11, rfl, HA, HJ11, HO_3, HB⟩ := hcut
          cases kq with
          | zero => exact absurd HA.out (by simp [estoverslaw30_ThrottleOldest.j1])
          | succ kj11 =>
            have H := HA.out
            clear HA
            simp only [estoverslaw30_ThrottleOldest.j1] at H
            by_cases c17 : x25_11 = true
            · subst c17
              have H1 : (none) = some r := by rw [if_pos rfl] at H; exact H
              clear H
              have H := H1
              clear H1
              exact absurd H (by simp)
            · replace c17 := Bool.eq_false_iff.mpr c17
              subst c17
              have H1 : (estoverslaw30_ThrottleOldest.l0 kj11 t170 t173 (t170.length : Int) 0) = some r := by rw [if_neg (show ¬ (false = true) by decide)] at H; exact H
              clear H
              have H := H1
              clear H1
              have H' := Aside0.mk H
              clear H
              go_wp2
              repeat (go_quiet (fail); try go_wp2)
              go_loopg [28] kj11 (fun kq v28 w' => ∃ (x28_3 : Int), v28 = .int .i64 x28_3 ∧ Aside0 (estoverslaw30_ThrottleOldest.l0 kq t170 t173 (t170.length : Int) x28_3 = some r) ∧ Aside0 (kq ≤ kj11) ∧ Aside0 (Kd.S k35 35 w' w.heap.size (fun _ => True) (.slice Ao14 t170.length co14) t170) ∧ Aside0 (Below w.heap.size w w'))
              case atStart => exact ⟨(0), (by first | rfl | (simp; done) | (simp [*]; done)), H', ⟨Nat.le_refl _⟩, ⟨by (with_reducible repeat (first | apply Kd.S_alloc | apply Kd.S_drewN | apply Kd.S_drew)); exact HO_3.out⟩, ⟨by repeat (first | (with_reducible first | exact HB.out | apply below_alloc | apply pw_below_drewN | apply below_drew1) | exact HB.out)⟩⟩
              case round =>
                clear H'
                try clear c1
                try clear p2
                try clear c4
                try clear c5
                try clear c7
                try clear c16
                try clear c16b0
                try clear c17
                try clear p2
                obtain ⟨x28_3, rfl, HA, HK3, HO_3, HB⟩ := hrel
                cases gk with
                | zero => exact absurd HA.out (by simp [estoverslaw30_ThrottleOldest.l0])
                | succ k3 =>
                  have H := HA.out
                  clear HA
                  simp only [estoverslaw30_ThrottleOldest.l0] at H
                  by_cases c18 : x28_3 < (t170.length : Int)
                  · rw [if_pos c18] at H
                    have c18b0 : decide (x28_3 < (t170.length : Int)) = true := decide_eq_true c18
                    clear c18
                    have HC19 := Aside0.mk H
                    clear H
                    go_upto_region 10 with (fail)
                    repeat (go_quiet (fail); go_upto_region 10 with (fail))
                    go_cut [52] (fun v52 wc => ∃ (kq : Nat) (x52_18 : Bool), v52 = .bool x52_18 ∧ Aside0 (estoverslaw30_ThrottleOldest.j3 kq t170 t173 x28_3 (t170.length : Int) x28_3 x52_18 = some r) ∧ Aside0 (kq ≤ k3) ∧ Aside0 (Kd.S k35 35 wc w.heap.size (fun _ => True) (.slice Ao14 t170.length co14) t170) ∧ Aside0 (Below w.heap.size w wc))
                    case first =>
                      have H := HC19.out
                      clear HC19
                      by_cases c20 : 0 ≤ x28_3
                      · rw [if_pos c20] at H
                        have c20b0 : decide (0 ≤ x28_3) = true := decide_eq_true c20
                        clear c20
                        (first | rw [c20b0] | (simp only [i64_w, i32_w]; rw [c20b0]) | skip)
                        by_cases c21 : x28_3 < (t170.length : Int)
                        · rw [if_pos c21] at H
                          have c21b0 : decide (x28_3 < (t170.length : Int)) = true := decide_eq_true c21
                          clear c21
                          by_cases c22 : ((rd_T35 t170 x28_3).f0) = 4
                          · rw [if_pos c22] at H
                            have c22b0 : (((rd_T35 t170 x28_3).f0) == 4) = true := beq_iff_eq.mpr c22
                            have c22b1 : (((rd_T35 t170 x28_3).f0) != 4) = false := bne_eq_false_iff_eq.mpr c22
                            clear c22
                            obtain ⟨bq23, hbq23⟩ : ∃ b_ : Bool, b_ = ((rd_T35 t170 x28_3).f10) := ⟨_, rfl⟩
                            replace H : (if (bq23 = true) then (estoverslaw30_ThrottleOldest.j3 k3 t170 t173 x28_3 (t170.length : Int) x28_3 (((rd_T35 t170 x28_3).f1) != 0)) else (estoverslaw30_ThrottleOldest.j3 k3 t170 t173 x28_3 (t170.length : Int) x28_3 true)) = some r := by rw [← hbq23] at H; exact H
                            have Nbq23 := Aside0.mk hbq23
                            clear hbq23
                            by_cases c24 : (bq23 = true)
                            · subst c24
                              have H1 : (estoverslaw30_ThrottleOldest.j3 k3 t170 t173 x28_3 (t170.length : Int) x28_3 (((rd_T35 t170 x28_3).f1) != 0)) = some r := by rw [if_pos rfl] at H; exact H
                              clear H
                              have H := H1
                              clear H1
                              have H' := Aside0.mk H
                              clear H
                              have p174 : 0 ≤ (x28_3 : Int) := of_decide_eq_true (by first | (with_reducible assumption) | assumption)
                              have q174 : x28_3 < (t170.length : Int) := of_decide_eq_true (by first | (with_reducible assumption) | assumption)
                              obtain ⟨ad174, A174_14, c174_14, A174_15, c174_15, e174, hx174_0, hx174_1, hx174_2, hx174_3, hx174_4, hx174_5, hx174_6, hx174_7, hx174_8, hx174_9, hx174_10, hx174_11, hx174_12, hx174_13, hx174_14, hx174_15, hl174_14, hi174_14, hl174_15, hi174_15⟩ := at_T35 (Kd.S_reads' HO_3.out).2.2 x28_3 p174 q174
                              (try rw [← Nbq23.out] at hx174_10)
                              (try rw [← Nbq23.out] at hx174_11)
                              (try rw [← Nbq23.out] at hx174_12)
                              cases e174
                              obtain ⟨ce174, hce174, hMe174, hcc174⟩ := Kd.S_get HO_3.out z35 x28_3 p174 (by first | exact q174 | exact of_decide_eq_true (by first | (with_reducible assumption) | assumption) | (have e_ := (Kd.S_reads' HO_3.out).1; omega))
                              obtain ⟨ve174_14, ve174_15, rfl, ge174_14, ge174_15⟩ := k35_openM hMe174
                              have hv174_14 := hcc174 14 _ rfl
                              rw [add_field _ _ 14 (by omega)] at hv174_14
                              replace hv174_14 := Option.some.inj (hv174_14.symm.trans hx174_14)
                              rw [hv174_14] at ge174_14
                              have HL174_14 := Aside0.mk (show Kd.R k93 93 _ _ _ _ ((rd_T35 t170 x28_3).f14) from ge174_14)
                              clear hv174_14 ge174_14
                              have hv174_15 := hcc174 15 _ rfl
                              rw [add_field _ _ 15 (by omega)] at hv174_15
                              replace hv174_15 := Option.some.inj (hv174_15.symm.trans hx174_15)
                              rw [hv174_15] at ge174_15
                              have HL174_15 := Aside0.mk (show Kd.R (Kd.int .u8) 5 _ _ _ _ ((rd_T35 t170 x28_3).f15) from ge174_15)
                              clear hv174_15 ge174_15
                              clear hcc174 hce174
                              have HR174_14 := Aside0.mk hi174_14
                              have HC174_14 := Aside0.mk hl174_14
                              clear hi174_14 hl174_14
                              have HR174_15 := Aside0.mk hi174_15
                              have HC174_15 := Aside0.mk hl174_15
                              clear hi174_15 hl174_15
                              replace p174 := eq_true p174
                              replace q174 := eq_true q174
                              have p175 : 0 ≤ (x28_3 : Int) := of_decide_eq_true (by first | (with_reducible assumption) | assumption)
                              have q175 : x28_3 < (t170.length : Int) := of_decide_eq_true (by first | (with_reducible assumption) | assumption)
                              obtain ⟨ad175, A175_14, c175_14, A175_15, c175_15, e175, hx175_0, hx175_1, hx175_2, hx175_3, hx175_4, hx175_5, hx175_6, hx175_7, hx175_8, hx175_9, hx175_10, hx175_11, hx175_12, hx175_13, hx175_14, hx175_15, hl175_14, hi175_14, hl175_15, hi175_15⟩ := at_T35 (Kd.S_reads' HO_3.out).2.2 x28_3 p175 q175
                              (try rw [← Nbq23.out] at hx175_10)
                              (try rw [← Nbq23.out] at hx175_11)
                              (try rw [← Nbq23.out] at hx175_12)
                              obtain rfl : ad174 = ad175 := (by injection e175)
                              obtain ⟨ce175, hce175, hMe175, hcc175⟩ := Kd.S_get HO_3.out z35 x28_3 p175 (by first | exact q175 | exact of_decide_eq_true (by first | (with_reducible assumption) | assumption) | (have e_ := (Kd.S_reads' HO_3.out).1; omega))
                              obtain ⟨ve175_14, ve175_15, rfl, ge175_14, ge175_15⟩ := k35_openM hMe175
                              have hv175_14 := hcc175 14 _ rfl
                              rw [add_field _ _ 14 (by omega)] at hv175_14
                              replace hv175_14 := Option.some.inj (hv175_14.symm.trans hx175_14)
                              rw [hv175_14] at ge175_14
                              have HL175_14 := Aside0.mk (show Kd.R k93 93 _ _ _ _ ((rd_T35 t170 x28_3).f14) from ge175_14)
                              clear hv175_14 ge175_14
                              have hv175_15 := hcc175 15 _ rfl
                              rw [add_field _ _ 15 (by omega)] at hv175_15
                              replace hv175_15 := Option.some.inj (hv175_15.symm.trans hx175_15)
                              rw [hv175_15] at ge175_15
                              have HL175_15 := Aside0.mk (show Kd.R (Kd.int .u8) 5 _ _ _ _ ((rd_T35 t170 x28_3).f15) from ge175_15)
                              clear hv175_15 ge175_15
                              clear hcc175 hce175
                              have HR175_14 := Aside0.mk hi175_14
                              have HC175_14 := Aside0.mk hl175_14
                              clear hi175_14 hl175_14
                              have HR175_15 := Aside0.mk hi175_15
                              have HC175_15 := Aside0.mk hl175_15
                              clear hi175_15 hl175_15
                              replace p175 := eq_true p175
                              replace q175 := eq_true q175
                              have ea_ := Option.some.inj (hx174_14.symm.trans hx175_14)
                              injection ea_ with ea_ en_ ec_
                              subst ea_
                              subst ec_
                              clear en_
                              have ea_ := Option.some.inj (hx174_15.symm.trans hx175_15)
                              injection ea_ with ea_ en_ ec_
                              subst ea_
                              subst ec_
                              clear en_
                              have p176 : 0 ≤ (x28_3 : Int) := of_decide_eq_true (by first | (with_reducible assumption) | assumption)
                              have q176 : x28_3 < (t170.length : Int) := of_decide_eq_true (by first | (with_reducible assumption) | assumption)
                              obtain ⟨ad176, A176_14, c176_14, A176_15, c176_15, e176, hx176_0, hx176_1, hx176_2, hx176_3, hx176_4, hx176_5, hx176_6, hx176_7, hx176_8, hx176_9, hx176_10, hx176_11, hx176_12, hx176_13, hx176_14, hx176_15, hl176_14, hi176_14, hl176_15, hi176_15⟩ := at_T35 (Kd.S_reads' HO_3.out).2.2 x28_3 p176 q176
                              (try rw [← Nbq23.out] at hx176_10)
                              (try rw [← Nbq23.out] at hx176_11)
                              (try rw [← Nbq23.out] at hx176_12)
                              obtain rfl : ad174 = ad176 := (by injection e176)
                              obtain ⟨ce176, hce176, hMe176, hcc176⟩ := Kd.S_get HO_3.out z35 x28_3 p176 (by first | exact q176 | exact of_decide_eq_true (by first | (with_reducible assumption) | assumption) | (have e_ := (Kd.S_reads' HO_3.out).1; omega))
                              obtain ⟨ve176_14, ve176_15, rfl, ge176_14, ge176_15⟩ := k35_openM hMe176
                              have hv176_14 := hcc176 14 _ rfl
                              rw [add_field _ _ 14 (by omega)] at hv176_14
                              replace hv176_14 := Option.some.inj (hv176_14.symm.trans hx176_14)
                              rw [hv176_14] at ge176_14
                              have HL176_14 := Aside0.mk (show Kd.R k93 93 _ _ _ _ ((rd_T35 t170 x28_3).f14) from ge176_14)
                              clear hv176_14 ge176_14
                              have hv176_15 := hcc176 15 _ rfl
                              rw [add_field _ _ 15 (by omega)] at hv176_15
                              replace hv176_15 := Option.some.inj (hv176_15.symm.trans hx176_15)
                              rw [hv176_15] at ge176_15
                              have HL176_15 := Aside0.mk (show Kd.R (Kd.int .u8) 5 _ _ _ _ ((rd_T35 t170 x28_3).f15) from ge176_15)
                              clear hv176_15 ge176_15
                              clear hcc176 hce176
                              have HR176_14 := Aside0.mk hi176_14
                              have HC176_14 := Aside0.mk hl176_14
                              clear hi176_14 hl176_14
                              have HR176_15 := Aside0.mk hi176_15
                              have HC176_15 := Aside0.mk hl176_15
                              clear hi176_15 hl176_15
                              replace p176 := eq_true p176
                              replace q176 := eq_true q176
                              have ea_ := Option.some.inj (hx174_14.symm.trans hx176_14)
                              injection ea_ with ea_ en_ ec_
                              subst ea_
                              subst ec_
                              clear en_
                              have ea_ := Option.some.inj (hx174_15.symm.trans hx176_15)
                              injection ea_ with ea_ en_ ec_
                              subst ea_
                              subst ec_
                              clear en_
                              (try rw [← Nbq23.out])
                              go_wp2
                              repeat (go_quiet (fail); try go_wp2)
                              go_meet
                              case rel => (try rw [← Nbq23.out]); exact ⟨_, ((((rd_T35 t170 x28_3).f1) != 0)), (by first | rfl | (simp; done) | (simp [*]; done)), H', ⟨by have := HJ1.out; have := HJ11.out; have := HK3.out; first | omega | exact Nat.le_refl _⟩, ⟨by (with_reducible repeat (first | apply Kd.S_alloc | apply Kd.S_drewN | apply Kd.S_drew)); exact HO_3.out⟩, ⟨by repeat (first | (with_reducible first | exact HB.out | apply below_alloc | apply pw_below_drewN | apply below_drew1) | exact HB.out)⟩⟩
                            · replace c24 := Bool.eq_false_iff.mpr c24
                              subst c24
                              have H1 : (estoverslaw30_ThrottleOldest.j3 k3 t170 t173 x28_3 (t170.length : Int) x28_3 true) = some r := by rw [if_neg (show ¬ (false = true) by decide)] at H; exact H
                              clear H
                              have H := H1
                              clear H1
                              have H' := Aside0.mk H
                              clear H
                              have p174 : 0 ≤ (x28_3 : Int) := of_decide_eq_true (by first | (with_reducible assumption) | assumption)
                              have q174 : x28_3 < (t170.length : Int) := of_decide_eq_true (by first | (with_reducible assumption) | assumption)
                              obtain ⟨ad174, A174_14, c174_14, A174_15, c174_15, e174, hx174_0, hx174_1, hx174_2, hx174_3, hx174_4, hx174_5, hx174_6, hx174_7, hx174_8, hx174_9, hx174_10, hx174_11, hx174_12, hx174_13, hx174_14, hx174_15, hl174_14, hi174_14, hl174_15, hi174_15⟩ := at_T35 (Kd.S_reads' HO_3.out).2.2 x28_3 p174 q174
                              (try rw [← Nbq23.out] at hx174_10)
                              (try rw [← Nbq23.out] at hx174_11)
                              (try rw [← Nbq23.out] at hx174_12)
                              cases e174
                              obtain ⟨ce174, hce174, hMe174, hcc174⟩ := Kd.S_get HO_3.out z35 x28_3 p174 (by first | exact q174 | exact of_decide_eq_true (by first | (with_reducible assumption) | assumption) | (have e_ := (Kd.S_reads' HO_3.out).1; omega))
                              obtain ⟨ve174_14, ve174_15, rfl, ge174_14, ge174_15⟩ := k35_openM hMe174
                              have hv174_14 := hcc174 14 _ rfl
                              rw [add_field _ _ 14 (by omega)] at hv174_14
                              replace hv174_14 := Option.some.inj (hv174_14.symm.trans hx174_14)
                              rw [hv174_14] at ge174_14
                              have HL174_14 := Aside0.mk (show Kd.R k93 93 _ _ _ _ ((rd_T35 t170 x28_3).f14) from ge174_14)
                              clear hv174_14 ge174_14
                              have hv174_15 := hcc174 15 _ rfl
                              rw [add_field _ _ 15 (by omega)] at hv174_15
                              replace hv174_15 := Option.some.inj (hv174_15.symm.trans hx174_15)
                              rw [hv174_15] at ge174_15
                              have HL174_15 := Aside0.mk (show Kd.R (Kd.int .u8) 5 _ _ _ _ ((rd_T35 t170 x28_3).f15) from ge174_15)
                              clear hv174_15 ge174_15
                              clear hcc174 hce174
                              have HR174_14 := Aside0.mk hi174_14
                              have HC174_14 := Aside0.mk hl174_14
                              clear hi174_14 hl174_14
                              have HR174_15 := Aside0.mk hi174_15
                              have HC174_15 := Aside0.mk hl174_15
                              clear hi174_15 hl174_15
                              replace p174 := eq_true p174
                              replace q174 := eq_true q174
                              have p175 : 0 ≤ (x28_3 : Int) := of_decide_eq_true (by first | (with_reducible assumption) | assumption)
                              have q175 : x28_3 < (t170.length : Int) := of_decide_eq_true (by first | (with_reducible assumption) | assumption)
                              obtain ⟨ad175, A175_14, c175_14, A175_15, c175_15, e175, hx175_0, hx175_1, hx175_2, hx175_3, hx175_4, hx175_5, hx175_6, hx175_7, hx175_8, hx175_9, hx175_10, hx175_11, hx175_12, hx175_13, hx175_14, hx175_15, hl175_14, hi175_14, hl175_15, hi175_15⟩ := at_T35 (Kd.S_reads' HO_3.out).2.2 x28_3 p175 q175
                              (try rw [← Nbq23.out] at hx175_10)
                              (try rw [← Nbq23.out] at hx175_11)
                              (try rw [← Nbq23.out] at hx175_12)
                              obtain rfl : ad174 = ad175 := (by injection e175)
                              obtain ⟨ce175, hce175, hMe175, hcc175⟩ := Kd.S_get HO_3.out z35 x28_3 p175 (by first | exact q175 | exact of_decide_eq_true (by first | (with_reducible assumption) | assumption) | (have e_ := (Kd.S_reads' HO_3.out).1; omega))
                              obtain ⟨ve175_14, ve175_15, rfl, ge175_14, ge175_15⟩ := k35_openM hMe175
                              have hv175_14 := hcc175 14 _ rfl
                              rw [add_field _ _ 14 (by omega)] at hv175_14
                              replace hv175_14 := Option.some.inj (hv175_14.symm.trans hx175_14)
                              rw [hv175_14] at ge175_14
                              have HL175_14 := Aside0.mk (show Kd.R k93 93 _ _ _ _ ((rd_T35 t170 x28_3).f14) from ge175_14)
                              clear hv175_14 ge175_14
                              have hv175_15 := hcc175 15 _ rfl
                              rw [add_field _ _ 15 (by omega)] at hv175_15
                              replace hv175_15 := Option.some.inj (hv175_15.symm.trans hx175_15)
                              rw [hv175_15] at ge175_15
                              have HL175_15 := Aside0.mk (show Kd.R (Kd.int .u8) 5 _ _ _ _ ((rd_T35 t170 x28_3).f15) from ge175_15)
                              clear hv175_15 ge175_15
                              clear hcc175 hce175
                              have HR175_14 := Aside0.mk hi175_14
                              have HC175_14 := Aside0.mk hl175_14
                              clear hi175_14 hl175_14
                              have HR175_15 := Aside0.mk hi175_15
                              have HC175_15 := Aside0.mk hl175_15
                              clear hi175_15 hl175_15
                              replace p175 := eq_true p175
                              replace q175 := eq_true q175
                              have ea_ := Option.some.inj (hx174_14.symm.trans hx175_14)
                              injection ea_ with ea_ en_ ec_
                              subst ea_
                              subst ec_
                              clear en_
                              have ea_ := Option.some.inj (hx174_15.symm.trans hx175_15)
                              injection ea_ with ea_ en_ ec_
                              subst ea_
                              subst ec_
                              clear en_
                              (try rw [← Nbq23.out])
                              go_wp2
                              repeat (go_quiet (fail); try go_wp2)
                              go_meet
                              case rel => (try rw [← Nbq23.out]); exact ⟨_, (true), (by first | rfl | (simp; done) | (simp [*]; done)), H', ⟨by have := HJ1.out; have := HJ11.out; have := HK3.out; first | omega | exact Nat.le_refl _⟩, ⟨by (with_reducible repeat (first | apply Kd.S_alloc | apply Kd.S_drewN | apply Kd.S_drew)); exact HO_3.out⟩, ⟨by repeat (first | (with_reducible first | exact HB.out | apply below_alloc | apply pw_below_drewN | apply below_drew1) | exact HB.out)⟩⟩
                          · rw [if_neg c22] at H
                            have c22b0 : (((rd_T35 t170 x28_3).f0) == 4) = false := beq_eq_false_iff_ne.mpr c22
                            have c22b1 : (((rd_T35 t170 x28_3).f0) != 4) = true := bne_iff_ne.mpr c22
                            have H' := Aside0.mk H
                            clear H
                            have p174 : 0 ≤ (x28_3 : Int) := of_decide_eq_true (by first | (with_reducible assumption) | assumption)
                            have q174 : x28_3 < (t170.length : Int) := of_decide_eq_true (by first | (with_reducible assumption) | assumption)
                            obtain ⟨ad174, A174_14, c174_14, A174_15, c174_15, e174, hx174_0, hx174_1, hx174_2, hx174_3, hx174_4, hx174_5, hx174_6, hx174_7, hx174_8, hx174_9, hx174_10, hx174_11, hx174_12, hx174_13, hx174_14, hx174_15, hl174_14, hi174_14, hl174_15, hi174_15⟩ := at_T35 (Kd.S_reads' HO_3.out).2.2 x28_3 p174 q174
                            cases e174
                            obtain ⟨ce174, hce174, hMe174, hcc174⟩ := Kd.S_get HO_3.out z35 x28_3 p174 (by first | exact q174 | exact of_decide_eq_true (by first | (with_reducible assumption) | assumption) | (have e_ := (Kd.S_reads' HO_3.out).1; omega))
                            obtain ⟨ve174_14, ve174_15, rfl, ge174_14, ge174_15⟩ := k35_openM hMe174
                            have hv174_14 := hcc174 14 _ rfl
                            rw [add_field _ _ 14 (by omega)] at hv174_14
                            replace hv174_14 := Option.some.inj (hv174_14.symm.trans hx174_14)
                            rw [hv174_14] at ge174_14
                            have HL174_14 := Aside0.mk (show Kd.R k93 93 _ _ _ _ ((rd_T35 t170 x28_3).f14) from ge174_14)
                            clear hv174_14 ge174_14
                            have hv174_15 := hcc174 15 _ rfl
                            rw [add_field _ _ 15 (by omega)] at hv174_15
                            replace hv174_15 := Option.some.inj (hv174_15.symm.trans hx174_15)
                            rw [hv174_15] at ge174_15
                            have HL174_15 := Aside0.mk (show Kd.R (Kd.int .u8) 5 _ _ _ _ ((rd_T35 t170 x28_3).f15) from ge174_15)
                            clear hv174_15 ge174_15
                            clear hcc174 hce174
                            have HR174_14 := Aside0.mk hi174_14
                            have HC174_14 := Aside0.mk hl174_14
                            clear hi174_14 hl174_14
                            have HR174_15 := Aside0.mk hi174_15
                            have HC174_15 := Aside0.mk hl174_15
                            clear hi174_15 hl174_15
                            replace p174 := eq_true p174
                            replace q174 := eq_true q174
                            go_wp2
                            repeat (go_quiet (fail); try go_wp2)
                            go_meet
                            case rel => exact ⟨_, (true), (by first | rfl | (simp; done) | (simp [*]; done)), H', ⟨by have := HJ1.out; have := HJ11.out; have := HK3.out; first | omega | exact Nat.le_refl _⟩, ⟨by (with_reducible repeat (first | apply Kd.S_alloc | apply Kd.S_drewN | apply Kd.S_drew)); exact HO_3.out⟩, ⟨by repeat (first | (with_reducible first | exact HB.out | apply below_alloc | apply pw_below_drewN | apply below_drew1) | exact HB.out)⟩⟩
                        · rw [if_neg c21] at H
                          exact absurd H (by simp)
                      · rw [if_neg c20] at H
                        exact absurd H (by simp)
                    case rest =>
                      clear HC19
                      try clear c1
                      try clear p1
                      try clear q1
                      try clear hx1
                      try clear c2
                      try clear p2
                      try clear q2
                      try clear c4
                      try clear c5
                      try clear c7
                      try clear c16
                      try clear c16b0
                      try clear c17
                      try clear p17
                      try clear q17
                      try clear hx17
                      try clear c18
                      try clear c18b0
                      try clear c20
                      try clear c20b0
                      try clear c21
                      try clear c21b0
                      try clear c22
                      try clear c22b0
                      try clear c22b1
                      try clear q23
                      try clear c24
                      try clear hx174_0
                      try clear hx174_1
                      try clear hx174_10
                      try clear hx174_11
                      try clear hx174_12
                      try clear hx174_13
                      try clear hx174_14
                      try clear hx174_15
                      try clear hx174_2
                      try clear hx174_3
                      try clear hx174_4
                      try clear hx174_5
                      try clear hx174_6
                      try clear hx174_7
                      try clear hx174_8
                      try clear hx174_9
                      try clear hx175_0
                      try clear hx175_1
                      try clear hx175_10
                      try clear hx175_11
                      try clear hx175_12
                      try clear hx175_13
                      try clear hx175_14
                      try clear hx175_15
                      try clear hx175_2
                      try clear hx175_3
                      try clear hx175_4
                      try clear hx175_5
                      try clear hx175_6
                      try clear hx175_7
                      try clear hx175_8
                      try clear hx175_9
                      try clear hx176_0
                      try clear hx176_1
                      try clear hx176_10
                      try clear hx176_11
                      try clear hx176_12
                      try clear hx176_13
                      try clear hx176_14
                      try clear hx176_15
                      try clear hx176_2
                      try clear hx176_3
                      try clear hx176_4
                      try clear hx176_5
                      try clear hx176_6
                      try clear hx176_7
                      try clear hx176_8
                      try clear hx176_9
                      try clear p174
                      try clear p175
                      try clear p176
                      try clear p2
                      try clear q174
                      try clear q175
                      try clear q176
                      obtain ⟨kq, x52_18, rfl, HA, HJ18, HO_3, HB⟩ := hcut
                      cases kq with
                      | zero => exact absurd HA.out (by simp [estoverslaw30_ThrottleOldest.j3])
                      | succ kj18 =>
                        have H := HA.out
                        clear HA
                        simp only [estoverslaw30_ThrottleOldest.j3] at H
                        by_cases c25 : x52_18 = true
                        · subst c25
                          have H1 : (if x28_3 = t173 then (none) else (estoverslaw30_ThrottleOldest.l0 kj18 t170 t173 (t170.length : Int) (wrap64 (x28_3 + 1)))) = some r := by rw [if_pos rfl] at H; exact H
                          clear H
                          have H := H1
                          clear H1
                          by_cases c26 : x28_3 = t173
                          · rw [if_pos c26] at H
                            exact absurd H (by simp)
                          · rw [if_neg c26] at H
                            have c26b0 : (x28_3 == t173) = false := beq_eq_false_iff_ne.mpr c26
                            have c26b1 : (x28_3 != t173) = true := bne_iff_ne.mpr c26
                            have H' := Aside0.mk H
                            clear H
                            go_wp2
                            repeat (go_quiet (fail); try go_wp2)
                            go_roundg kj18
                            case measure => have := HJ1.out; have := HJ11.out; have := HK3.out; have := HJ18.out; omega
                            case rel => exact ⟨(wrap64 (x28_3 + 1)), (by first | rfl | (simp; done) | (simp [*]; done)), H', ⟨by have := HJ1.out; have := HJ11.out; have := HK3.out; have := HJ18.out; omega⟩, ⟨by (with_reducible repeat (first | apply Kd.S_alloc | apply Kd.S_drewN | apply Kd.S_drew)); exact HO_3.out⟩, ⟨by repeat (first | (with_reducible first | exact HB.out | apply below_alloc | apply pw_below_drewN | apply below_drew1) | exact HB.out)⟩⟩
                        · replace c25 := Bool.eq_false_iff.mpr c25
                          subst c25
                          have H1 : (if t173 < 0 then (none) else (if 0 ≤ x28_3 then (if x28_3 < (t170.length : Int) then (if 0 ≤ t173 then (if t173 < (t170.length : Int) then (if ((rd_T35 t170 x28_3).f9) < ((rd_T35 t170 t173).f9) then (none) else (if ((rd_T35 t170 x28_3).f9) = ((rd_T35 t170 t173).f9) then (if x28_3 < t173 then (none) else (estoverslaw30_ThrottleOldest.l0 kj18 t170 t173 (t170.length : Int) (wrap64 (x28_3 + 1)))) else (estoverslaw30_ThrottleOldest.l0 kj18 t170 t173 (t170.length : Int) (wrap64 (x28_3 + 1))))) else (none)) else (none)) else (none)) else (none))) = some r := by rw [if_neg (show ¬ (false = true) by decide)] at H; exact H
                          clear H
                          have H := H1
                          clear H1
                          by_cases c27 : t173 < 0
                          · rw [if_pos c27] at H
                            exact absurd H (by simp)
                          · rw [if_neg c27] at H
                            have c27b0 : decide (t173 < 0) = false := decide_eq_false c27
                            clear c27
                            by_cases c28 : 0 ≤ x28_3
                            · rw [if_pos c28] at H
                              have c28b0 : decide (0 ≤ x28_3) = true := decide_eq_true c28
                              clear c28
                              by_cases c29 : x28_3 < (t170.length : Int)
                              · rw [if_pos c29] at H
                                have c29b0 : decide (x28_3 < (t170.length : Int)) = true := decide_eq_true c29
                                clear c29
                                by_cases c30 : 0 ≤ t173
                                · rw [if_pos c30] at H
                                  have c30b0 : decide (0 ≤ t173) = true := decide_eq_true c30
                                  clear c30
                                  by_cases c31 : t173 < (t170.length : Int)
                                  · rw [if_pos c31] at H
                                    have c31b0 : decide (t173 < (t170.length : Int)) = true := decide_eq_true c31
                                    clear c31
                                    by_cases c32 : ((rd_T35 t170 x28_3).f9) < ((rd_T35 t170 t173).f9)
                                    · rw [if_pos c32] at H
                                      exact absurd H (by simp)
                                    · rw [if_neg c32] at H
                                      have c32b0 : decide (((rd_T35 t170 x28_3).f9) < ((rd_T35 t170 t173).f9)) = false := decide_eq_false c32
                                      clear c32
                                      by_cases c33 : ((rd_T35 t170 x28_3).f9) = ((rd_T35 t170 t173).f9)
                                      · rw [if_pos c33] at H
                                        have c33b0 : (((rd_T35 t170 x28_3).f9) == ((rd_T35 t170 t173).f9)) = true := beq_iff_eq.mpr c33
                                        have c33b1 : (((rd_T35 t170 x28_3).f9) != ((rd_T35 t170 t173).f9)) = false := bne_eq_false_iff_eq.mpr c33
                                        clear c33
                                        by_cases c34 : x28_3 < t173
                                        · rw [if_pos c34] at H
                                          exact absurd H (by simp)
                                        · rw [if_neg c34] at H
                                          have c34b0 : decide (x28_3 < t173) = false := decide_eq_false c34
                                          clear c34
                                          have H' := Aside0.mk H
                                          clear H
                                          have p177 : 0 ≤ (x28_3 : Int) := of_decide_eq_true (by first | (with_reducible assumption) | assumption)
                                          have q177 : x28_3 < (t170.length : Int) := of_decide_eq_true (by first | (with_reducible assumption) | assumption)
                                          obtain ⟨ad177, A177_14, c177_14, A177_15, c177_15, e177, hx177_0, hx177_1, hx177_2, hx177_3, hx177_4, hx177_5, hx177_6, hx177_7, hx177_8, hx177_9, hx177_10, hx177_11, hx177_12, hx177_13, hx177_14, hx177_15, hl177_14, hi177_14, hl177_15, hi177_15⟩ := at_T35 (Kd.S_reads' HO_3.out).2.2 x28_3 p177 q177
                                          cases e177
                                          obtain ⟨ce177, hce177, hMe177, hcc177⟩ := Kd.S_get HO_3.out z35 x28_3 p177 (by first | exact q177 | exact of_decide_eq_true (by first | (with_reducible assumption) | assumption) | (have e_ := (Kd.S_reads' HO_3.out).1; omega))
                                          obtain ⟨ve177_14, ve177_15, rfl, ge177_14, ge177_15⟩ := k35_openM hMe177
                                          have hv177_14 := hcc177 14 _ rfl
                                          rw [add_field _ _ 14 (by omega)] at hv177_14
                                          replace hv177_14 := Option.some.inj (hv177_14.symm.trans hx177_14)
                                          rw [hv177_14] at ge177_14
                                          have HL177_14 := Aside0.mk (show Kd.R k93 93 _ _ _ _ ((rd_T35 t170 x28_3).f14) from ge177_14)
                                          clear hv177_14 ge177_14
                                          have hv177_15 := hcc177 15 _ rfl
                                          rw [add_field _ _ 15 (by omega)] at hv177_15
                                          replace hv177_15 := Option.some.inj (hv177_15.symm.trans hx177_15)
                                          rw [hv177_15] at ge177_15
                                          have HL177_15 := Aside0.mk (show Kd.R (Kd.int .u8) 5 _ _ _ _ ((rd_T35 t170 x28_3).f15) from ge177_15)
                                          clear hv177_15 ge177_15
                                          clear hcc177 hce177
                                          have HR177_14 := Aside0.mk hi177_14
                                          have HC177_14 := Aside0.mk hl177_14
                                          clear hi177_14 hl177_14
                                          have HR177_15 := Aside0.mk hi177_15
                                          have HC177_15 := Aside0.mk hl177_15
                                          clear hi177_15 hl177_15
                                          replace p177 := eq_true p177
                                          replace q177 := eq_true q177
                                          have p178 : 0 ≤ (t173 : Int) := of_decide_eq_true (by first | (with_reducible assumption) | assumption)
                                          have q178 : t173 < (t170.length : Int) := of_decide_eq_true (by first | (with_reducible assumption) | assumption)
                                          obtain ⟨ad178, A178_14, c178_14, A178_15, c178_15, e178, hx178_0, hx178_1, hx178_2, hx178_3, hx178_4, hx178_5, hx178_6, hx178_7, hx178_8, hx178_9, hx178_10, hx178_11, hx178_12, hx178_13, hx178_14, hx178_15, hl178_14, hi178_14, hl178_15, hi178_15⟩ := at_T35 (Kd.S_reads' HO_3.out).2.2 t173 p178 q178
                                          obtain rfl : ad177 = ad178 := (by injection e178)
                                          obtain ⟨ce178, hce178, hMe178, hcc178⟩ := Kd.S_get HO_3.out z35 t173 p178 (by first | exact q178 | exact of_decide_eq_true (by first | (with_reducible assumption) | assumption) | (have e_ := (Kd.S_reads' HO_3.out).1; omega))
                                          obtain ⟨ve178_14, ve178_15, rfl, ge178_14, ge178_15⟩ := k35_openM hMe178
                                          have hv178_14 := hcc178 14 _ rfl
                                          rw [add_field _ _ 14 (by omega)] at hv178_14
                                          replace hv178_14 := Option.some.inj (hv178_14.symm.trans hx178_14)
                                          rw [hv178_14] at ge178_14
                                          have HL178_14 := Aside0.mk (show Kd.R k93 93 _ _ _ _ ((rd_T35 t170 t173).f14) from ge178_14)
                                          clear hv178_14 ge178_14
                                          have hv178_15 := hcc178 15 _ rfl
                                          rw [add_field _ _ 15 (by omega)] at hv178_15
                                          replace hv178_15 := Option.some.inj (hv178_15.symm.trans hx178_15)
                                          rw [hv178_15] at ge178_15
                                          have HL178_15 := Aside0.mk (show Kd.R (Kd.int .u8) 5 _ _ _ _ ((rd_T35 t170 t173).f15) from ge178_15)
                                          clear hv178_15 ge178_15
                                          clear hcc178 hce178
                                          have HR178_14 := Aside0.mk hi178_14
                                          have HC178_14 := Aside0.mk hl178_14
                                          clear hi178_14 hl178_14
                                          have HR178_15 := Aside0.mk hi178_15
                                          have HC178_15 := Aside0.mk hl178_15
                                          clear hi178_15 hl178_15
                                          replace p178 := eq_true p178
                                          replace q178 := eq_true q178
                                          have p179 : 0 ≤ (x28_3 : Int) := of_decide_eq_true (by first | (with_reducible assumption) | assumption)
                                          have q179 : x28_3 < (t170.length : Int) := of_decide_eq_true (by first | (with_reducible assumption) | assumption)
                                          obtain ⟨ad179, A179_14, c179_14, A179_15, c179_15, e179, hx179_0, hx179_1, hx179_2, hx179_3, hx179_4, hx179_5, hx179_6, hx179_7, hx179_8, hx179_9, hx179_10, hx179_11, hx179_12, hx179_13, hx179_14, hx179_15, hl179_14, hi179_14, hl179_15, hi179_15⟩ := at_T35 (Kd.S_reads' HO_3.out).2.2 x28_3 p179 q179
                                          obtain rfl : ad177 = ad179 := (by injection e179)
                                          obtain ⟨ce179, hce179, hMe179, hcc179⟩ := Kd.S_get HO_3.out z35 x28_3 p179 (by first | exact q179 | exact of_decide_eq_true (by first | (with_reducible assumption) | assumption) | (have e_ := (Kd.S_reads' HO_3.out).1; omega))
                                          obtain ⟨ve179_14, ve179_15, rfl, ge179_14, ge179_15⟩ := k35_openM hMe179
                                          have hv179_14 := hcc179 14 _ rfl
                                          rw [add_field _ _ 14 (by omega)] at hv179_14
                                          replace hv179_14 := Option.some.inj (hv179_14.symm.trans hx179_14)
                                          rw [hv179_14] at ge179_14
                                          have HL179_14 := Aside0.mk (show Kd.R k93 93 _ _ _ _ ((rd_T35 t170 x28_3).f14) from ge179_14)
                                          clear hv179_14 ge179_14
                                          have hv179_15 := hcc179 15 _ rfl
                                          rw [add_field _ _ 15 (by omega)] at hv179_15
                                          replace hv179_15 := Option.some.inj (hv179_15.symm.trans hx179_15)
                                          rw [hv179_15] at ge179_15
                                          have HL179_15 := Aside0.mk (show Kd.R (Kd.int .u8) 5 _ _ _ _ ((rd_T35 t170 x28_3).f15) from ge179_15)
                                          clear hv179_15 ge179_15
                                          clear hcc179 hce179
                                          have HR179_14 := Aside0.mk hi179_14
                                          have HC179_14 := Aside0.mk hl179_14
                                          clear hi179_14 hl179_14
                                          have HR179_15 := Aside0.mk hi179_15
                                          have HC179_15 := Aside0.mk hl179_15
                                          clear hi179_15 hl179_15
                                          replace p179 := eq_true p179
                                          replace q179 := eq_true q179
                                          have ea_ := Option.some.inj (hx177_14.symm.trans hx179_14)
                                          injection ea_ with ea_ en_ ec_
                                          subst ea_
                                          subst ec_
                                          clear en_
                                          have ea_ := Option.some.inj (hx177_15.symm.trans hx179_15)
                                          injection ea_ with ea_ en_ ec_
                                          subst ea_
                                          subst ec_
                                          clear en_
                                          have p180 : 0 ≤ (t173 : Int) := of_decide_eq_true (by first | (with_reducible assumption) | assumption)
                                          have q180 : t173 < (t170.length : Int) := of_decide_eq_true (by first | (with_reducible assumption) | assumption)
                                          obtain ⟨ad180, A180_14, c180_14, A180_15, c180_15, e180, hx180_0, hx180_1, hx180_2, hx180_3, hx180_4, hx180_5, hx180_6, hx180_7, hx180_8, hx180_9, hx180_10, hx180_11, hx180_12, hx180_13, hx180_14, hx180_15, hl180_14, hi180_14, hl180_15, hi180_15⟩ := at_T35 (Kd.S_reads' HO_3.out).2.2 t173 p180 q180
                                          obtain rfl : ad177 = ad180 := (by injection e180)
                                          obtain ⟨ce180, hce180, hMe180, hcc180⟩ := Kd.S_get HO_3.out z35 t173 p180 (by first | exact q180 | exact of_decide_eq_true (by first | (with_reducible assumption) | assumption) | (have e_ := (Kd.S_reads' HO_3.out).1; omega))
                                          obtain ⟨ve180_14, ve180_15, rfl, ge180_14, ge180_15⟩ := k35_openM hMe180
                                          have hv180_14 := hcc180 14 _ rfl
                                          rw [add_field _ _ 14 (by omega)] at hv180_14
                                          replace hv180_14 := Option.some.inj (hv180_14.symm.trans hx180_14)
                                          rw [hv180_14] at ge180_14
                                          have HL180_14 := Aside0.mk (show Kd.R k93 93 _ _ _ _ ((rd_T35 t170 t173).f14) from ge180_14)
                                          clear hv180_14 ge180_14
                                          have hv180_15 := hcc180 15 _ rfl
                                          rw [add_field _ _ 15 (by omega)] at hv180_15
                                          replace hv180_15 := Option.some.inj (hv180_15.symm.trans hx180_15)
                                          rw [hv180_15] at ge180_15
                                          have HL180_15 := Aside0.mk (show Kd.R (Kd.int .u8) 5 _ _ _ _ ((rd_T35 t170 t173).f15) from ge180_15)
                                          clear hv180_15 ge180_15
                                          clear hcc180 hce180
                                          have HR180_14 := Aside0.mk hi180_14
                                          have HC180_14 := Aside0.mk hl180_14
                                          clear hi180_14 hl180_14
                                          have HR180_15 := Aside0.mk hi180_15
                                          have HC180_15 := Aside0.mk hl180_15
                                          clear hi180_15 hl180_15
                                          replace p180 := eq_true p180
                                          replace q180 := eq_true q180
                                          have ea_ := Option.some.inj (hx178_14.symm.trans hx180_14)
                                          injection ea_ with ea_ en_ ec_
                                          subst ea_
                                          subst ec_
                                          clear en_
                                          have ea_ := Option.some.inj (hx178_15.symm.trans hx180_15)
                                          injection ea_ with ea_ en_ ec_
                                          subst ea_
                                          subst ec_
                                          clear en_
                                          go_wp2
                                          repeat (go_quiet (fail); try go_wp2)
                                          go_roundg kj18
                                          case measure => have := HJ1.out; have := HJ11.out; have := HK3.out; have := HJ18.out; omega
                                          case rel => exact ⟨(wrap64 (x28_3 + 1)), (by first | rfl | (simp; done) | (simp [*]; done)), H', ⟨by have := HJ1.out; have := HJ11.out; have := HK3.out; have := HJ18.out; omega⟩, ⟨by (with_reducible repeat (first | apply Kd.S_alloc | apply Kd.S_drewN | apply Kd.S_drew)); exact HO_3.out⟩, ⟨by repeat (first | (with_reducible first | exact HB.out | apply below_alloc | apply pw_below_drewN | apply below_drew1) | exact HB.out)⟩⟩
                                      · rw [if_neg c33] at H
                                        have c33b0 : (((rd_T35 t170 x28_3).f9) == ((rd_T35 t170 t173).f9)) = false := beq_eq_false_iff_ne.mpr c33
                                        have c33b1 : (((rd_T35 t170 x28_3).f9) != ((rd_T35 t170 t173).f9)) = true := bne_iff_ne.mpr c33
                                        have H' := Aside0.mk H
                                        clear H
                                        have p177 : 0 ≤ (x28_3 : Int) := of_decide_eq_true (by first | (with_reducible assumption) | assumption)
                                        have q177 : x28_3 < (t170.length : Int) := of_decide_eq_true (by first | (with_reducible assumption) | assumption)
                                        obtain ⟨ad177, A177_14, c177_14, A177_15, c177_15, e177, hx177_0, hx177_1, hx177_2, hx177_3, hx177_4, hx177_5, hx177_6, hx177_7, hx177_8, hx177_9, hx177_10, hx177_11, hx177_12, hx177_13, hx177_14, hx177_15, hl177_14, hi177_14, hl177_15, hi177_15⟩ := at_T35 (Kd.S_reads' HO_3.out).2.2 x28_3 p177 q177
                                        cases e177
                                        obtain ⟨ce177, hce177, hMe177, hcc177⟩ := Kd.S_get HO_3.out z35 x28_3 p177 (by first | exact q177 | exact of_decide_eq_true (by first | (with_reducible assumption) | assumption) | (have e_ := (Kd.S_reads' HO_3.out).1; omega))
                                        obtain ⟨ve177_14, ve177_15, rfl, ge177_14, ge177_15⟩ := k35_openM hMe177
                                        have hv177_14 := hcc177 14 _ rfl
                                        rw [add_field _ _ 14 (by omega)] at hv177_14
                                        replace hv177_14 := Option.some.inj (hv177_14.symm.trans hx177_14)
                                        rw [hv177_14] at ge177_14
                                        have HL177_14 := Aside0.mk (show Kd.R k93 93 _ _ _ _ ((rd_T35 t170 x28_3).f14) from ge177_14)
                                        clear hv177_14 ge177_14
                                        have hv177_15 := hcc177 15 _ rfl
                                        rw [add_field _ _ 15 (by omega)] at hv177_15
                                        replace hv177_15 := Option.some.inj (hv177_15.symm.trans hx177_15)
                                        rw [hv177_15] at ge177_15
                                        have HL177_15 := Aside0.mk (show Kd.R (Kd.int .u8) 5 _ _ _ _ ((rd_T35 t170 x28_3).f15) from ge177_15)
                                        clear hv177_15 ge177_15
                                        clear hcc177 hce177
                                        have HR177_14 := Aside0.mk hi177_14
                                        have HC177_14 := Aside0.mk hl177_14
                                        clear hi177_14 hl177_14
                                        have HR177_15 := Aside0.mk hi177_15
                                        have HC177_15 := Aside0.mk hl177_15
                                        clear hi177_15 hl177_15
                                        replace p177 := eq_true p177
                                        replace q177 := eq_true q177
                                        have p178 : 0 ≤ (t173 : Int) := of_decide_eq_true (by first | (with_reducible assumption) | assumption)
                                        have q178 : t173 < (t170.length : Int) := of_decide_eq_true (by first | (with_reducible assumption) | assumption)
                                        obtain ⟨ad178, A178_14, c178_14, A178_15, c178_15, e178, hx178_0, hx178_1, hx178_2, hx178_3, hx178_4, hx178_5, hx178_6, hx178_7, hx178_8, hx178_9, hx178_10, hx178_11, hx178_12, hx178_13, hx178_14, hx178_15, hl178_14, hi178_14, hl178_15, hi178_15⟩ := at_T35 (Kd.S_reads' HO_3.out).2.2 t173 p178 q178
                                        obtain rfl : ad177 = ad178 := (by injection e178)
                                        obtain ⟨ce178, hce178, hMe178, hcc178⟩ := Kd.S_get HO_3.out z35 t173 p178 (by first | exact q178 | exact of_decide_eq_true (by first | (with_reducible assumption) | assumption) | (have e_ := (Kd.S_reads' HO_3.out).1; omega))
                                        obtain ⟨ve178_14, ve178_15, rfl, ge178_14, ge178_15⟩ := k35_openM hMe178
                                        have hv178_14 := hcc178 14 _ rfl
                                        rw [add_field _ _ 14 (by omega)] at hv178_14
                                        replace hv178_14 := Option.some.inj (hv178_14.symm.trans hx178_14)
                                        rw [hv178_14] at ge178_14
                                        have HL178_14 := Aside0.mk (show Kd.R k93 93 _ _ _ _ ((rd_T35 t170 t173).f14) from ge178_14)
                                        clear hv178_14 ge178_14
                                        have hv178_15 := hcc178 15 _ rfl
                                        rw [add_field _ _ 15 (by omega)] at hv178_15
                                        replace hv178_15 := Option.some.inj (hv178_15.symm.trans hx178_15)
                                        rw [hv178_15] at ge178_15
                                        have HL178_15 := Aside0.mk (show Kd.R (Kd.int .u8) 5 _ _ _ _ ((rd_T35 t170 t173).f15) from ge178_15)
                                        clear hv178_15 ge178_15
                                        clear hcc178 hce178
                                        have HR178_14 := Aside0.mk hi178_14
                                        have HC178_14 := Aside0.mk hl178_14
                                        clear hi178_14 hl178_14
                                        have HR178_15 := Aside0.mk hi178_15
                                        have HC178_15 := Aside0.mk hl178_15
                                        clear hi178_15 hl178_15
                                        replace p178 := eq_true p178
                                        replace q178 := eq_true q178
                                        have p179 : 0 ≤ (x28_3 : Int) := of_decide_eq_true (by first | (with_reducible assumption) | assumption)
                                        have q179 : x28_3 < (t170.length : Int) := of_decide_eq_true (by first | (with_reducible assumption) | assumption)
                                        obtain ⟨ad179, A179_14, c179_14, A179_15, c179_15, e179, hx179_0, hx179_1, hx179_2, hx179_3, hx179_4, hx179_5, hx179_6, hx179_7, hx179_8, hx179_9, hx179_10, hx179_11, hx179_12, hx179_13, hx179_14, hx179_15, hl179_14, hi179_14, hl179_15, hi179_15⟩ := at_T35 (Kd.S_reads' HO_3.out).2.2 x28_3 p179 q179
                                        obtain rfl : ad177 = ad179 := (by injection e179)
                                        obtain ⟨ce179, hce179, hMe179, hcc179⟩ := Kd.S_get HO_3.out z35 x28_3 p179 (by first | exact q179 | exact of_decide_eq_true (by first | (with_reducible assumption) | assumption) | (have e_ := (Kd.S_reads' HO_3.out).1; omega))
                                        obtain ⟨ve179_14, ve179_15, rfl, ge179_14, ge179_15⟩ := k35_openM hMe179
                                        have hv179_14 := hcc179 14 _ rfl
                                        rw [add_field _ _ 14 (by omega)] at hv179_14
                                        replace hv179_14 := Option.some.inj (hv179_14.symm.trans hx179_14)
                                        rw [hv179_14] at ge179_14
                                        have HL179_14 := Aside0.mk (show Kd.R k93 93 _ _ _ _ ((rd_T35 t170 x28_3).f14) from ge179_14)
                                        clear hv179_14 ge179_14
                                        have hv179_15 := hcc179 15 _ rfl
                                        rw [add_field _ _ 15 (by omega)] at hv179_15
                                        replace hv179_15 := Option.some.inj (hv179_15.symm.trans hx179_15)
                                        rw [hv179_15] at ge179_15
                                        have HL179_15 := Aside0.mk (show Kd.R (Kd.int .u8) 5 _ _ _ _ ((rd_T35 t170 x28_3).f15) from ge179_15)
                                        clear hv179_15 ge179_15
                                        clear hcc179 hce179
                                        have HR179_14 := Aside0.mk hi179_14
                                        have HC179_14 := Aside0.mk hl179_14
                                        clear hi179_14 hl179_14
                                        have HR179_15 := Aside0.mk hi179_15
                                        have HC179_15 := Aside0.mk hl179_15
                                        clear hi179_15 hl179_15
                                        replace p179 := eq_true p179
                                        replace q179 := eq_true q179
                                        have ea_ := Option.some.inj (hx177_14.symm.trans hx179_14)
                                        injection ea_ with ea_ en_ ec_
                                        subst ea_
                                        subst ec_
                                        clear en_
                                        have ea_ := Option.some.inj (hx177_15.symm.trans hx179_15)
                                        injection ea_ with ea_ en_ ec_
                                        subst ea_
                                        subst ec_
                                        clear en_
                                        have p180 : 0 ≤ (t173 : Int) := of_decide_eq_true (by first | (with_reducible assumption) | assumption)
                                        have q180 : t173 < (t170.length : Int) := of_decide_eq_true (by first | (with_reducible assumption) | assumption)
                                        obtain ⟨ad180, A180_14, c180_14, A180_15, c180_15, e180, hx180_0, hx180_1, hx180_2, hx180_3, hx180_4, hx180_5, hx180_6, hx180_7, hx180_8, hx180_9, hx180_10, hx180_11, hx180_12, hx180_13, hx180_14, hx180_15, hl180_14, hi180_14, hl180_15, hi180_15⟩ := at_T35 (Kd.S_reads' HO_3.out).2.2 t173 p180 q180
                                        obtain rfl : ad177 = ad180 := (by injection e180)
                                        obtain ⟨ce180, hce180, hMe180, hcc180⟩ := Kd.S_get HO_3.out z35 t173 p180 (by first | exact q180 | exact of_decide_eq_true (by first | (with_reducible assumption) | assumption) | (have e_ := (Kd.S_reads' HO_3.out).1; omega))
                                        obtain ⟨ve180_14, ve180_15, rfl, ge180_14, ge180_15⟩ := k35_openM hMe180
                                        have hv180_14 := hcc180 14 _ rfl
                                        rw [add_field _ _ 14 (by omega)] at hv180_14
                                        replace hv180_14 := Option.some.inj (hv180_14.symm.trans hx180_14)
                                        rw [hv180_14] at ge180_14
                                        have HL180_14 := Aside0.mk (show Kd.R k93 93 _ _ _ _ ((rd_T35 t170 t173).f14) from ge180_14)
                                        clear hv180_14 ge180_14
                                        have hv180_15 := hcc180 15 _ rfl
                                        rw [add_field _ _ 15 (by omega)] at hv180_15
                                        replace hv180_15 := Option.some.inj (hv180_15.symm.trans hx180_15)
                                        rw [hv180_15] at ge180_15
                                        have HL180_15 := Aside0.mk (show Kd.R (Kd.int .u8) 5 _ _ _ _ ((rd_T35 t170 t173).f15) from ge180_15)
                                        clear hv180_15 ge180_15
                                        clear hcc180 hce180
                                        have HR180_14 := Aside0.mk hi180_14
                                        have HC180_14 := Aside0.mk hl180_14
                                        clear hi180_14 hl180_14
                                        have HR180_15 := Aside0.mk hi180_15
                                        have HC180_15 := Aside0.mk hl180_15
                                        clear hi180_15 hl180_15
                                        replace p180 := eq_true p180
                                        replace q180 := eq_true q180
                                        have ea_ := Option.some.inj (hx178_14.symm.trans hx180_14)
                                        injection ea_ with ea_ en_ ec_
                                        subst ea_
                                        subst ec_
                                        clear en_
                                        have ea_ := Option.some.inj (hx178_15.symm.trans hx180_15)
                                        injection ea_ with ea_ en_ ec_
                                        subst ea_
                                        subst ec_
                                        clear en_
                                        go_wp2
                                        repeat (go_quiet (fail); try go_wp2)
                                        go_roundg kj18
                                        case measure => have := HJ1.out; have := HJ11.out; have := HK3.out; have := HJ18.out; omega
                                        case rel => exact ⟨(wrap64 (x28_3 + 1)), (by first | rfl | (simp; done) | (simp [*]; done)), H', ⟨by have := HJ1.out; have := HJ11.out; have := HK3.out; have := HJ18.out; omega⟩, ⟨by (with_reducible repeat (first | apply Kd.S_alloc | apply Kd.S_drewN | apply Kd.S_drew)); exact HO_3.out⟩, ⟨by repeat (first | (with_reducible first | exact HB.out | apply below_alloc | apply pw_below_drewN | apply below_drew1) | exact HB.out)⟩⟩
                                  · rw [if_neg c31] at H
                                    exact absurd H (by simp)
                                · rw [if_neg c30] at H
                                  exact absurd H (by simp)
                              · rw [if_neg c29] at H
                                exact absurd H (by simp)
                            · rw [if_neg c28] at H
                              exact absurd H (by simp)
                  · rw [if_neg c18] at H
                    have c18b0 : decide (x28_3 < (t170.length : Int)) = false := decide_eq_false c18
                    clear c18
                    obtain rfl := Option.some.inj H
                    go_wp2
                    repeat (go_quiet (fail); try go_wp2)
                    go_ret
                    exact ⟨by first | rfl | (simp [errW_none, errW_some] <;> rfl) | (simp [*, errW_none, errW_some] <;> rfl), by repeat (first | (with_reducible first | exact HB.out | apply below_alloc | apply pw_below_drewN | apply below_drew1) | exact HB.out)⟩

end Go.Proofs.Ytpomppjeknmciaa.PThrottleOldest
