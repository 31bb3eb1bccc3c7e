-- Printed by a copy of the kit's printer that this session has patched (wip/tools/patch_print.py): the session's own text. Lean checks it.
import Derived.Test.YtpomppjeknmciaaPThrottleSumx0
import Derived.Test.YtpomppjeknmciaaPThrottleSumx3
import Derived.Test.YtpomppjeknmciaaPThrottleSumx5
import Derived.Test.YtpomppjeknmciaaPThrottleSumx6
namespace Go.Proofs.Ytpomppjeknmciaa.PThrottleSum
open Go.RowKit Go.Proofs.YtpomppjeknmciaaW.PrintWords Go.Proofs.YtpomppjeknmciaaW.PrintLast Go.Proofs.YtpomppjeknmciaaW.PrintMore
attribute [local go_sem] max2_int min2_int max_two min_two max_three min_three max_four min_four   -- for this text's walks alone
set_option linter.unusedVariables false
set_option linter.unusedSimpArgs false

/-! ### estoverslaw30_ThrottleSum: function 7 -/
mutual
def estoverslaw30_ThrottleSum.j0 : Nat → List (S43) → Int → Bool → Option (Bool)
  | 0, _, _, _ => none
  | k + 1, x0, x1, x17 => if x17 = true then ((estoverslaw30_awake.f k).bind fun t191 => (some t191)) else (if 0 ≤ (x0.length : Int) then (if ((x0.length : Int) : Int).toNat ≤ 35184372088832 then (estoverslaw30_ThrottleSum.l0 k x0 x1 (List.replicate ((x0.length : Int) : Int).toNat 0) (List.replicate ((x0.length : Int) : Int).toNat 0) (x0.length : Int) 0) else (none)) else (none))
def estoverslaw30_ThrottleSum.l0 : Nat → List (S43) → Int → List Int → List Int → Int → Int → Option (Bool)
  | 0, _, _, _, _, _, _ => none
  | k + 1, x0, x1, x5, x6, x26, x27 => if x27 < x26 then ((throttle_Share.f k x0 (wrap64 (x1)) x27).bind fun bt198 => (if bt198.2 = 0 then (if bt198.1 < 0 then (estoverslaw30_ThrottleSum.j2 k x0 x1 x5 x6 x27 bt198.1 x26 x27 true) else (estoverslaw30_ThrottleSum.j2 k x0 x1 x5 x6 x27 bt198.1 x26 x27 (decide (bt198.1 > (wrap64 (x1)))))) else (estoverslaw30_ThrottleSum.j2 k x0 x1 x5 x6 x27 bt198.1 x26 x27 true))) else (if 0 < (x0.length : Int) then (if ((rd_T43 x0 0).f1) = 0 then (if 0 < (x6.length : Int) then (some ((rd x6 0) == (wrap64 (x1)))) else (none)) else (estoverslaw30_ThrottleSum.l1 k x1 x5 x6 (x5.length : Int) 0)) else (none))
def estoverslaw30_ThrottleSum.j2 : Nat → List (S43) → Int → List Int → List Int → Int → Int → Int → Int → Bool → Option (Bool)
  | 0, _, _, _, _, _, _, _, _, _ => none
  | k + 1, x0, x1, x5, x6, x7, x8, x26, x27, x49 => if x49 = true then (none) else (if 0 ≤ x7 then (if x7 < (x6.length : Int) then ((some (x6.set (x7 : Int).toNat x8 : List Int)).bind fun y200 => (if x7 > 0 then (if x7 < (x0.length : Int) then (if 0 ≤ ((rd_T43 x0 x7).f0) then (if ((rd_T43 x0 x7).f0) < (x5.length : Int) then (estoverslaw30_ThrottleSum.l0 k x0 x1 (x5.set (((rd_T43 x0 x7).f0) : Int).toNat (wrap64 ((rd x5 ((rd_T43 x0 x7).f0)) + x8))) y200 x26 (wrap64 (x27 + 1))) else (none)) else (none)) else (none)) else (estoverslaw30_ThrottleSum.l0 k x0 x1 x5 y200 x26 (wrap64 (x27 + 1))))) else (none)) else (none))
def estoverslaw30_ThrottleSum.l1 : Nat → Int → List Int → List Int → Int → Int → Option (Bool)
  | 0, _, _, _, _, _ => none
  | k + 1, x1, x5, x6, x80, x81 => if x81 < x80 then (if 0 ≤ x81 then (if x81 < (x5.length : Int) then (if x81 < (x6.length : Int) then (if (rd x5 x81) > (rd x6 x81) then (none) else (estoverslaw30_ThrottleSum.l1 k x1 x5 x6 x80 (wrap64 (x81 + 1)))) else (none)) else (none)) else (none)) else (if 0 < (x6.length : Int) then (some ((rd x6 0) == (wrap64 (x1)))) else (none))
end
def estoverslaw30_ThrottleSum.f (k : Nat) (l0 : List (S43)) (a1 : Int) : Option (Bool) := (estoverslaw30_awake.f k).bind fun t189 => (if t189 = true then ((estoversref19_Check.f k l0).bind fun t190 => (estoverslaw30_ThrottleSum.j0 k l0 a1 (t190 != 0))) else (estoverslaw30_ThrottleSum.j0 k l0 a1 true))
theorem estoverslaw30_ThrottleSum.mono_l : ∀ k, (∀ y0 y1 y2, LeO (estoverslaw30_ThrottleSum.j0 k y0 y1 y2) (estoverslaw30_ThrottleSum.j0 (k + 1) y0 y1 y2)) ∧ (∀ y0 y1 y2 y3 y4 y5, LeO (estoverslaw30_ThrottleSum.l0 k y0 y1 y2 y3 y4 y5) (estoverslaw30_ThrottleSum.l0 (k + 1) y0 y1 y2 y3 y4 y5)) ∧ (∀ y0 y1 y2 y3 y4 y5 y6 y7 y8, LeO (estoverslaw30_ThrottleSum.j2 k y0 y1 y2 y3 y4 y5 y6 y7 y8) (estoverslaw30_ThrottleSum.j2 (k + 1) y0 y1 y2 y3 y4 y5 y6 y7 y8)) ∧ (∀ y0 y1 y2 y3 y4, LeO (estoverslaw30_ThrottleSum.l1 k y0 y1 y2 y3 y4) (estoverslaw30_ThrottleSum.l1 (k + 1) y0 y1 y2 y3 y4))
  | 0 => ⟨fun _ _ _ r h => by simp [estoverslaw30_ThrottleSum.j0] at h, fun _ _ _ _ _ _ r h => by simp [estoverslaw30_ThrottleSum.l0] at h, fun _ _ _ _ _ _ _ _ _ r h => by simp [estoverslaw30_ThrottleSum.j2] at h, fun _ _ _ _ _ r h => by simp [estoverslaw30_ThrottleSum.l1] at h⟩
  | k + 1 => by
    obtain ⟨ih0, ih1, ih2, ih3⟩ := estoverslaw30_ThrottleSum.mono_l k
    refine ⟨?_, ?_, ?_, ?_⟩
    · intro y0 y1 y2
      unfold estoverslaw30_ThrottleSum.j0
      repeat' first
      | (with_reducible exact ih0 _ _ _)
      | (with_reducible exact ih1 _ _ _ _ _ _)
      | (with_reducible exact ih2 _ _ _ _ _ _ _ _ _)
      | (with_reducible exact ih3 _ _ _ _ _)
      | (with_reducible exact estoverslaw30_awake.mono _)
      | (with_reducible exact estoversref19_Check.mono _ _)
      | (with_reducible exact throttle_Share.mono _ _ _ _)
      | (with_reducible exact LeO.refl _)
      | (with_reducible exact LeO.none _)
      | (with_reducible refine LeO.ite ?_ ?_)
      | (with_reducible refine LeO.bind ?_ (fun _ => ?_))
      | exact ih0 _ _ _
      | exact ih1 _ _ _ _ _ _
      | exact ih2 _ _ _ _ _ _ _ _ _
      | exact ih3 _ _ _ _ _
      | exact estoverslaw30_awake.mono _
      | exact estoversref19_Check.mono _ _
      | exact throttle_Share.mono _ _ _ _
      | exact LeO.none _
      | refine LeO.ite ?_ ?_
      | refine LeO.bind ?_ (fun _ => ?_)
    · intro y0 y1 y2 y3 y4 y5
      unfold estoverslaw30_ThrottleSum.l0
      repeat' first
      | (with_reducible exact ih0 _ _ _)
      | (with_reducible exact ih1 _ _ _ _ _ _)
      | (with_reducible exact ih2 _ _ _ _ _ _ _ _ _)
      | (with_reducible exact ih3 _ _ _ _ _)
      | (with_reducible exact estoverslaw30_awake.mono _)
      | (with_reducible exact estoversref19_Check.mono _ _)
      | (with_reducible exact throttle_Share.mono _ _ _ _)
      | (with_reducible exact LeO.refl _)
      | (with_reducible exact LeO.none _)
      | (with_reducible refine LeO.ite ?_ ?_)
      | (with_reducible refine LeO.bind ?_ (fun _ => ?_))
      | exact ih0 _ _ _
      | exact ih1 _ _ _ _ _ _
      | exact ih2 _ _ _ _ _ _ _ _ _
      | exact ih3 _ _ _ _ _
      | exact estoverslaw30_awake.mono _
      | exact estoversref19_Check.mono _ _
      | exact throttle_Share.mono _ _ _ _
      | exact LeO.none _
      | refine LeO.ite ?_ ?_
      | refine LeO.bind ?_ (fun _ => ?_)
    · intro y0 y1 y2 y3 y4 y5 y6 y7 y8
      unfold estoverslaw30_ThrottleSum.j2
      repeat' first
      | (with_reducible exact ih0 _ _ _)
      | (with_reducible exact ih1 _ _ _ _ _ _)
      | (with_reducible exact ih2 _ _ _ _ _ _ _ _ _)
      | (with_reducible exact ih3 _ _ _ _ _)
      | (with_reducible exact estoverslaw30_awake.mono _)
      | (with_reducible exact estoversref19_Check.mono _ _)
      | (with_reducible exact throttle_Share.mono _ _ _ _)
      | (with_reducible exact LeO.refl _)
      | (with_reducible exact LeO.none _)
      | (with_reducible refine LeO.ite ?_ ?_)
      | (with_reducible refine LeO.bind ?_ (fun _ => ?_))
      | exact ih0 _ _ _
      | exact ih1 _ _ _ _ _ _
      | exact ih2 _ _ _ _ _ _ _ _ _
      | exact ih3 _ _ _ _ _
      | exact estoverslaw30_awake.mono _
      | exact estoversref19_Check.mono _ _
      | exact throttle_Share.mono _ _ _ _
      | exact LeO.none _
      | refine LeO.ite ?_ ?_
      | refine LeO.bind ?_ (fun _ => ?_)
    · intro y0 y1 y2 y3 y4
      unfold estoverslaw30_ThrottleSum.l1
      repeat' first
      | (with_reducible exact ih0 _ _ _)
      | (with_reducible exact ih1 _ _ _ _ _ _)
      | (with_reducible exact ih2 _ _ _ _ _ _ _ _ _)
      | (with_reducible exact ih3 _ _ _ _ _)
      | (with_reducible exact estoverslaw30_awake.mono _)
      | (with_reducible exact estoversref19_Check.mono _ _)
      | (with_reducible exact throttle_Share.mono _ _ _ _)
      | (with_reducible exact LeO.refl _)
      | (with_reducible exact LeO.none _)
      | (with_reducible refine LeO.ite ?_ ?_)
      | (with_reducible refine LeO.bind ?_ (fun _ => ?_))
      | exact ih0 _ _ _
      | exact ih1 _ _ _ _ _ _
      | exact ih2 _ _ _ _ _ _ _ _ _
      | exact ih3 _ _ _ _ _
      | exact estoverslaw30_awake.mono _
      | exact estoversref19_Check.mono _ _
      | exact throttle_Share.mono _ _ _ _
      | exact LeO.none _
      | refine LeO.ite ?_ ?_
      | refine LeO.bind ?_ (fun _ => ?_)
theorem estoverslaw30_ThrottleSum.mono : ∀ a0 a1 k, LeO (estoverslaw30_ThrottleSum.f k a0 a1) (estoverslaw30_ThrottleSum.f (k + 1) a0 a1) := by
  intro a0 a1 k
  obtain ⟨ih0, ih1, ih2, ih3⟩ := estoverslaw30_ThrottleSum.mono_l k
  unfold estoverslaw30_ThrottleSum.f
  repeat' first
      | (with_reducible exact ih0 _ _ _)
      | (with_reducible exact ih1 _ _ _ _ _ _)
      | (with_reducible exact ih2 _ _ _ _ _ _ _ _ _)
      | (with_reducible exact ih3 _ _ _ _ _)
      | (with_reducible exact estoverslaw30_awake.mono _)
      | (with_reducible exact estoversref19_Check.mono _ _)
      | (with_reducible exact throttle_Share.mono _ _ _ _)
      | (with_reducible exact LeO.refl _)
      | (with_reducible exact LeO.none _)
      | (with_reducible refine LeO.ite ?_ ?_)
      | (with_reducible refine LeO.bind ?_ (fun _ => ?_))
      | exact ih0 _ _ _
      | exact ih1 _ _ _ _ _ _
      | exact ih2 _ _ _ _ _ _ _ _ _
      | exact ih3 _ _ _ _ _
      | exact estoverslaw30_awake.mono _
      | exact estoversref19_Check.mono _ _
      | exact throttle_Share.mono _ _ _ _
      | exact LeO.none _
      | refine LeO.ite ?_ ?_
      | refine LeO.bind ?_ (fun _ => ?_)
set_option maxHeartbeats 8000000 in
set_option maxRecDepth 100000 in
theorem estoverslaw30_ThrottleSum.calls (k : Nat) (A0 : Option Addr) (c0 : Nat) (l0 : List (S43)) (a1 : Int) (r : Bool) (w : World) (hr0 : Kd.C k43 w A0 l0.length l0) (hc0 : l0.length ≤ c0) (h : estoverslaw30_ThrottleSum.f k l0 a1 = some r) :
    Calls Try.prog 7 #[.slice A0 l0.length c0, .int .u16 a1] w fun e w' => e = .returned (.bool r) ∧ Below w.heap.size w w' := by
  have HR0 := Aside0.mk hr0
  have HC0 := Aside0.mk hc0
  clear hr0 hc0
  have HB := Aside0.mk (Below.refl w.heap.size w)
  have H : ((estoverslaw30_awake.f k).bind fun t189 => (if t189 = true then ((estoversref19_Check.f k l0).bind fun t190 => (estoverslaw30_ThrottleSum.j0 k l0 a1 (t190 != 0))) else (estoverslaw30_ThrottleSum.j0 k l0 a1 true))) = some r := h
  clear h
  have HC3 := Aside0.mk H
  clear H
  go_enter Try.func7, Try.ntmps7
  go_upto_region 1 with (fail)
  repeat (go_quiet (fail); go_upto_region 1 with (fail))
  go_cut [17] (fun v17 wc => ∃ (kq : Nat) (x17_2 : Bool), v17 = .bool x17_2 ∧ Aside0 (estoverslaw30_ThrottleSum.j0 kq l0 a1 x17_2 = some r) ∧ Aside0 (kq ≤ k) ∧ Aside0 (Below w.heap.size w wc))
  case first =>
    have H := HC3.out
    clear HC3
    replace H := Option.bind_eq_some_iff.mp H
    obtain ⟨t189, A40, H⟩ := H
    replace H : (if t189 = true then ((estoversref19_Check.f k l0).bind fun t190 => (estoverslaw30_ThrottleSum.j0 k l0 a1 (t190 != 0))) else (estoverslaw30_ThrottleSum.j0 k l0 a1 true)) = some r := H
    have A4 := Aside0.mk A40
    clear A40
    by_cases c5 : t189 = true
    · subst c5
      have H1 : ((estoversref19_Check.f k l0).bind fun t190 => (estoverslaw30_ThrottleSum.j0 k l0 a1 (t190 != 0))) = some r := by rw [if_pos rfl] at H; exact H
      clear H
      have H := H1
      clear H1
      replace H := Option.bind_eq_some_iff.mp H
      obtain ⟨t190, A60, H⟩ := H
      replace H : (estoverslaw30_ThrottleSum.j0 k l0 a1 (t190 != 0)) = some r := H
      have A6 := Aside0.mk A60
      clear A60
      have H' := Aside0.mk H
      clear H
      go_wp2_with (first | (go_at_call 16; (with_reducible refine (estoverslaw30_awake.calls k  true _ A4.out).mono ?_); rintro e w7 ⟨rfl, hb⟩; have n0_ := Aside0.mk (below_step (by repeat (first | (with_reducible first | exact HB.out | apply below_alloc | apply pw_below_drewN | apply below_drew1) | exact HB.out)) hb); clear HB; have HB := n0_; clear n0_; (try clear hb); (try clear hb2); (try clear hk); (try clear hi)) | (go_at_call 25; (with_reducible refine (estoversref19_Check.calls k _ _ l0 t190 _ ?side1 ?side2 A6.out).mono ?_); (case side1 => repeat (first | exact (Kd.C_below HR0.out HB.out) | (with_reducible refine Kd.C_alloc ?_ _) | (with_reducible refine Kd.C_drewN ?_ _) | (with_reducible refine Kd.C_drew ?_))); (case side2 => exact HC0.out); rintro e w' ⟨rfl, ⟨nd, rfl⟩⟩; (try first | exact ⟨rfl, _, World.drewN_drewN _ _ _⟩ | exact ⟨rfl, _, Eq.trans (World.drewN_drewN _ _ _) (congrArg (World.drewN _) (Nat.add_assoc _ _ _))⟩)))
      repeat (go_quiet (first | (go_at_call 16; (with_reducible refine (estoverslaw30_awake.calls k  true _ A4.out).mono ?_); rintro e w7 ⟨rfl, hb⟩; have n0_ := Aside0.mk (below_step (by repeat (first | (with_reducible first | exact HB.out | apply below_alloc | apply pw_below_drewN | apply below_drew1) | exact HB.out)) hb); clear HB; have HB := n0_; clear n0_; (try clear hb); (try clear hb2); (try clear hk); (try clear hi)) | (go_at_call 25; (with_reducible refine (estoversref19_Check.calls k _ _ l0 t190 _ ?side1 ?side2 A6.out).mono ?_); (case side1 => repeat (first | exact (Kd.C_below HR0.out HB.out) | (with_reducible refine Kd.C_alloc ?_ _) | (with_reducible refine Kd.C_drewN ?_ _) | (with_reducible refine Kd.C_drew ?_))); (case side2 => exact HC0.out); rintro e w' ⟨rfl, ⟨nd, rfl⟩⟩; (try first | exact ⟨rfl, _, World.drewN_drewN _ _ _⟩ | exact ⟨rfl, _, Eq.trans (World.drewN_drewN _ _ _) (congrArg (World.drewN _) (Nat.add_assoc _ _ _))⟩))); try go_wp2_with (first | (go_at_call 16; (with_reducible refine (estoverslaw30_awake.calls k  true _ A4.out).mono ?_); rintro e w7 ⟨rfl, hb⟩; have n0_ := Aside0.mk (below_step (by repeat (first | (with_reducible first | exact HB.out | apply below_alloc | apply pw_below_drewN | apply below_drew1) | exact HB.out)) hb); clear HB; have HB := n0_; clear n0_; (try clear hb); (try clear hb2); (try clear hk); (try clear hi)) | (go_at_call 25; (with_reducible refine (estoversref19_Check.calls k _ _ l0 t190 _ ?side1 ?side2 A6.out).mono ?_); (case side1 => repeat (first | exact (Kd.C_below HR0.out HB.out) | (with_reducible refine Kd.C_alloc ?_ _) | (with_reducible refine Kd.C_drewN ?_ _) | (with_reducible refine Kd.C_drew ?_))); (case side2 => exact HC0.out); rintro e w' ⟨rfl, ⟨nd, rfl⟩⟩; (try first | exact ⟨rfl, _, World.drewN_drewN _ _ _⟩ | exact ⟨rfl, _, Eq.trans (World.drewN_drewN _ _ _) (congrArg (World.drewN _) (Nat.add_assoc _ _ _))⟩))))
      go_meet
      case rel => exact ⟨_, ((t190 != 0)), (by first | rfl | (simp; done) | (simp [*]; done)), H', ⟨by first | omega | exact Nat.le_refl _⟩, ⟨by repeat (first | (with_reducible first | exact HB.out | apply below_alloc | apply pw_below_drewN | apply below_drew1) | exact HB.out)⟩⟩
    · replace c5 := Bool.eq_false_iff.mpr c5
      subst c5
      have H1 : (estoverslaw30_ThrottleSum.j0 k l0 a1 true) = some r := by rw [if_neg (show ¬ (false = true) by decide)] at H; exact H
      clear H
      have H := H1
      clear H1
      have H' := Aside0.mk H
      clear H
      go_wp2_with (first | (go_at_call 16; (with_reducible refine (estoverslaw30_awake.calls k  false _ A4.out).mono ?_); rintro e w8 ⟨rfl, hb⟩; have n0_ := Aside0.mk (below_step (by repeat (first | (with_reducible first | exact HB.out | apply below_alloc | apply pw_below_drewN | apply below_drew1) | exact HB.out)) hb); clear HB; have HB := n0_; clear n0_; (try clear hb); (try clear hb2); (try clear hk); (try clear hi)))
      repeat (go_quiet (first | (go_at_call 16; (with_reducible refine (estoverslaw30_awake.calls k  false _ A4.out).mono ?_); rintro e w8 ⟨rfl, hb⟩; have n0_ := Aside0.mk (below_step (by repeat (first | (with_reducible first | exact HB.out | apply below_alloc | apply pw_below_drewN | apply below_drew1) | exact HB.out)) hb); clear HB; have HB := n0_; clear n0_; (try clear hb); (try clear hb2); (try clear hk); (try clear hi))); try go_wp2_with (first | (go_at_call 16; (with_reducible refine (estoverslaw30_awake.calls k  false _ A4.out).mono ?_); rintro e w8 ⟨rfl, hb⟩; have n0_ := Aside0.mk (below_step (by repeat (first | (with_reducible first | exact HB.out | apply below_alloc | apply pw_below_drewN | apply below_drew1) | exact HB.out)) hb); clear HB; have HB := n0_; clear n0_; (try clear hb); (try clear hb2); (try clear hk); (try clear hi))))
      go_meet
      case rel => exact ⟨_, (true), (by first | rfl | (simp; done) | (simp [*]; done)), H', ⟨by first | omega | exact Nat.le_refl _⟩, ⟨by repeat (first | (with_reducible first | exact HB.out | apply below_alloc | apply pw_below_drewN | apply below_drew1) | exact HB.out)⟩⟩
  case rest =>
    clear HC3
    try clear p2
    try clear c5
    try clear c7
    obtain ⟨kq, x17_2, rfl, HA, HJ2, HB⟩ := hcut
    cases kq with
    | zero => exact absurd HA.out (by simp [estoverslaw30_ThrottleSum.j0])
    | succ kj2 =>
      have H := HA.out
      clear HA
      simp only [estoverslaw30_ThrottleSum.j0] at H
      by_cases c9 : x17_2 = true
      · subst c9
        have H1 : ((estoverslaw30_awake.f kj2).bind fun t191 => (some t191)) = some r := by rw [if_pos rfl] at H; exact H
        clear H
        have H := H1
        clear H1
        replace H := Option.bind_eq_some_iff.mp H
        obtain ⟨t191, A100, H⟩ := H
        replace H : (some t191) = some r := H
        have A10 := Aside0.mk A100
        clear A100
        obtain rfl := Option.some.inj H
        go_wp2_with (first | (go_at_call 16; (with_reducible refine (estoverslaw30_awake.calls kj2  t191 _ A10.out).mono ?_); rintro e w11 ⟨rfl, hb⟩; have n0_ := Aside0.mk (below_step (by repeat (first | (with_reducible first | exact HB.out | apply below_alloc | apply pw_below_drewN | apply below_drew1) | exact HB.out)) hb); clear HB; have HB := n0_; clear n0_; (try clear hb); (try clear hb2); (try clear hk); (try clear hi)))
        repeat (go_quiet (first | (go_at_call 16; (with_reducible refine (estoverslaw30_awake.calls kj2  t191 _ A10.out).mono ?_); rintro e w11 ⟨rfl, hb⟩; have n0_ := Aside0.mk (below_step (by repeat (first | (with_reducible first | exact HB.out | apply below_alloc | apply pw_below_drewN | apply below_drew1) | exact HB.out)) hb); clear HB; have HB := n0_; clear n0_; (try clear hb); (try clear hb2); (try clear hk); (try clear hi))); try go_wp2_with (first | (go_at_call 16; (with_reducible refine (estoverslaw30_awake.calls kj2  t191 _ A10.out).mono ?_); rintro e w11 ⟨rfl, hb⟩; have n0_ := Aside0.mk (below_step (by repeat (first | (with_reducible first | exact HB.out | apply below_alloc | apply pw_below_drewN | apply below_drew1) | exact HB.out)) hb); clear HB; have HB := n0_; clear n0_; (try clear hb); (try clear hb2); (try clear hk); (try clear hi))))
        go_ret
        exact ⟨by first | rfl | (simp [errW_none, errW_some] <;> rfl) | (simp [*, errW_none, errW_some] <;> rfl), by repeat (first | (with_reducible first | exact HB.out | apply below_alloc | apply pw_below_drewN | apply below_drew1) | exact HB.out)⟩
      · replace c9 := Bool.eq_false_iff.mpr c9
        subst c9
        have H1 : (if 0 ≤ (l0.length : Int) then (if ((l0.length : Int) : Int).toNat ≤ 35184372088832 then (estoverslaw30_ThrottleSum.l0 kj2 l0 a1 (List.replicate ((l0.length : Int) : Int).toNat 0) (List.replicate ((l0.length : Int) : Int).toNat 0) (l0.length : Int) 0) else (none)) else (none)) = some r := by rw [if_neg (show ¬ (false = true) by decide)] at H; exact H
        clear H
        have H := H1
        clear H1
        by_cases c12 : 0 ≤ (l0.length : Int)
        · rw [if_pos c12] at H
          have c12b0 := eq_true c12
          have c12b1 : decide (0 ≤ (l0.length : Int)) = true := decide_eq_true c12
          clear c12
          by_cases c13 : ((l0.length : Int) : Int).toNat ≤ 35184372088832
          · rw [if_pos c13] at H
            have c13b0 := eq_true c13
            have c13b1 : decide (((l0.length : Int) : Int).toNat ≤ 35184372088832) = true := decide_eq_true c13
            clear c13
            obtain ⟨y192, hy192⟩ : ∃ y_ : List Int, y_ = (List.replicate ((l0.length : Int) : Int).toNat 0) := ⟨_, rfl⟩
            replace H : (estoverslaw30_ThrottleSum.l0 kj2 l0 a1 y192 (List.replicate ((l0.length : Int) : Int).toNat 0) (l0.length : Int) 0) = some r := by first | (rw [hy192]; with_reducible exact H) | (have H2_ := (Option.bind_some _ _).symm.trans H; rw [hy192]; with_reducible exact H2_) | (have H2_ := (Option.bind_some _ _).symm.trans H; with_reducible exact H2_) | with_reducible exact H | (rw [hy192]; exact H) | exact H
            have Ny192 := Aside0.mk hy192
            clear hy192
            obtain ⟨y195, hy195⟩ : ∃ y_ : List Int, y_ = (List.replicate ((l0.length : Int) : Int).toNat 0) := ⟨_, rfl⟩
            replace H : (estoverslaw30_ThrottleSum.l0 kj2 l0 a1 y192 y195 (l0.length : Int) 0) = some r := by first | (rw [hy195]; with_reducible exact H) | (have H2_ := (Option.bind_some _ _).symm.trans H; rw [hy195]; with_reducible exact H2_) | (have H2_ := (Option.bind_some _ _).symm.trans H; with_reducible exact H2_) | with_reducible exact H | (rw [hy195]; exact H) | exact H
            have Ny195 := Aside0.mk hy195
            clear hy195
            have H' := Aside0.mk H
            clear H
            go_wp2_with (first | ((with_reducible refine gate_dst (N := 21) rfl ?_); refine Kd.R_make (Kd.int .i64) _ 3 rfl (N := 21) rfl 41 _ _ rfl (l0.length : Int) rfl rfl Try.underlying41 (.int .i64 0) 8 info3 rfl (by decide) (by omega) 0 (ok := fun _ => True) (okp := fun _ => True) rfl (fun _ hk => hk) trivial (of_decide_eq_true (by first | (with_reducible assumption) | assumption)) (Nat.le_trans (Nat.mul_le_mul_right _ (of_decide_eq_true (by first | (with_reducible assumption) | assumption) : (l0.length : Int).toNat ≤ 35184372088832)) (by omega)) (Below.refl _ _) (Nat.le_refl _) ?_; intro v193 w14 ho15 hb hg_ hnew_; clear hg_ hnew_; (first | rw [← Ny192.out] at ho15 | (simp only [Int.reduceToNat] at ho15; rw [← Ny192.out] at ho15)); have n0_ := Aside0.mk (Kd.R_lower ho15 (below_size (by repeat (first | (with_reducible first | exact HB.out | apply below_alloc | apply pw_below_drewN | apply below_drew1) | exact HB.out)))); have n1_ := Aside0.mk (below_step (by repeat (first | (with_reducible first | exact HB.out | apply below_alloc | apply pw_below_drewN | apply below_drew1) | exact HB.out)) hb); clear HB; have HO194 := n0_; have HB := n1_; clear n0_ n1_; clear hb ho15) | ((with_reducible refine gate_dst (N := 24) rfl ?_); refine Kd.R_make (Kd.int .i64) _ 3 rfl (N := 24) rfl 41 _ _ rfl (l0.length : Int) rfl rfl Try.underlying41 (.int .i64 0) 8 info3 rfl (by decide) (by omega) 0 (ok := fun _ => True) (okp := fun _ => True) rfl (fun _ hk => hk) trivial (of_decide_eq_true (by first | (with_reducible assumption) | assumption)) (Nat.le_trans (Nat.mul_le_mul_right _ (of_decide_eq_true (by first | (with_reducible assumption) | assumption) : (l0.length : Int).toNat ≤ 35184372088832)) (by omega)) (Below.refl _ _) (Nat.le_refl _) ?_; intro v196 w16 ho17 hb hg_ hnew_; clear hg_ hnew_; (first | rw [← Ny195.out] at ho17 | (simp only [Int.reduceToNat] at ho17; rw [← Ny195.out] at ho17)); have n0_ := Aside0.mk (Kd.R_elder' (by (with_reducible repeat (first | apply Kd.R_alloc | apply Kd.R_drewN | apply Kd.R_drew)); exact HO194.out) (Kd.R_base ho17) hb); have n1_ := Aside0.mk (Kd.R_lower (Kd.R_new' ho17 (Kd.R_lt (by (with_reducible repeat (first | apply Kd.R_alloc | apply Kd.R_drewN | apply Kd.R_drew)); exact HO194.out))) (below_size (by repeat (first | (with_reducible first | exact HB.out | apply below_alloc | apply pw_below_drewN | apply below_drew1) | exact HB.out)))); have n2_ := Aside0.mk (below_step (by repeat (first | (with_reducible first | exact HB.out | apply below_alloc | apply pw_below_drewN | apply below_drew1) | exact HB.out)) hb); clear HO194; clear HB; have HO194 := n0_; have HO197 := n1_; have HB := n2_; clear n0_ n1_ n2_; clear hb ho17))
            repeat (go_quiet (first | ((with_reducible refine gate_dst (N := 21) rfl ?_); refine Kd.R_make (Kd.int .i64) _ 3 rfl (N := 21) rfl 41 _ _ rfl (l0.length : Int) rfl rfl Try.underlying41 (.int .i64 0) 8 info3 rfl (by decide) (by omega) 0 (ok := fun _ => True) (okp := fun _ => True) rfl (fun _ hk => hk) trivial (of_decide_eq_true (by first | (with_reducible assumption) | assumption)) (Nat.le_trans (Nat.mul_le_mul_right _ (of_decide_eq_true (by first | (with_reducible assumption) | assumption) : (l0.length : Int).toNat ≤ 35184372088832)) (by omega)) (Below.refl _ _) (Nat.le_refl _) ?_; intro v193 w14 ho15 hb hg_ hnew_; clear hg_ hnew_; (first | rw [← Ny192.out] at ho15 | (simp only [Int.reduceToNat] at ho15; rw [← Ny192.out] at ho15)); have n0_ := Aside0.mk (Kd.R_lower ho15 (below_size (by repeat (first | (with_reducible first | exact HB.out | apply below_alloc | apply pw_below_drewN | apply below_drew1) | exact HB.out)))); have n1_ := Aside0.mk (below_step (by repeat (first | (with_reducible first | exact HB.out | apply below_alloc | apply pw_below_drewN | apply below_drew1) | exact HB.out)) hb); clear HB; have HO194 := n0_; have HB := n1_; clear n0_ n1_; clear hb ho15) | ((with_reducible refine gate_dst (N := 24) rfl ?_); refine Kd.R_make (Kd.int .i64) _ 3 rfl (N := 24) rfl 41 _ _ rfl (l0.length : Int) rfl rfl Try.underlying41 (.int .i64 0) 8 info3 rfl (by decide) (by omega) 0 (ok := fun _ => True) (okp := fun _ => True) rfl (fun _ hk => hk) trivial (of_decide_eq_true (by first | (with_reducible assumption) | assumption)) (Nat.le_trans (Nat.mul_le_mul_right _ (of_decide_eq_true (by first | (with_reducible assumption) | assumption) : (l0.length : Int).toNat ≤ 35184372088832)) (by omega)) (Below.refl _ _) (Nat.le_refl _) ?_; intro v196 w16 ho17 hb hg_ hnew_; clear hg_ hnew_; (first | rw [← Ny195.out] at ho17 | (simp only [Int.reduceToNat] at ho17; rw [← Ny195.out] at ho17)); have n0_ := Aside0.mk (Kd.R_elder' (by (with_reducible repeat (first | apply Kd.R_alloc | apply Kd.R_drewN | apply Kd.R_drew)); exact HO194.out) (Kd.R_base ho17) hb); have n1_ := Aside0.mk (Kd.R_lower (Kd.R_new' ho17 (Kd.R_lt (by (with_reducible repeat (first | apply Kd.R_alloc | apply Kd.R_drewN | apply Kd.R_drew)); exact HO194.out))) (below_size (by repeat (first | (with_reducible first | exact HB.out | apply below_alloc | apply pw_below_drewN | apply below_drew1) | exact HB.out)))); have n2_ := Aside0.mk (below_step (by repeat (first | (with_reducible first | exact HB.out | apply below_alloc | apply pw_below_drewN | apply below_drew1) | exact HB.out)) hb); clear HO194; clear HB; have HO194 := n0_; have HO197 := n1_; have HB := n2_; clear n0_ n1_ n2_; clear hb ho17)); try go_wp2_with (first | ((with_reducible refine gate_dst (N := 21) rfl ?_); refine Kd.R_make (Kd.int .i64) _ 3 rfl (N := 21) rfl 41 _ _ rfl (l0.length : Int) rfl rfl Try.underlying41 (.int .i64 0) 8 info3 rfl (by decide) (by omega) 0 (ok := fun _ => True) (okp := fun _ => True) rfl (fun _ hk => hk) trivial (of_decide_eq_true (by first | (with_reducible assumption) | assumption)) (Nat.le_trans (Nat.mul_le_mul_right _ (of_decide_eq_true (by first | (with_reducible assumption) | assumption) : (l0.length : Int).toNat ≤ 35184372088832)) (by omega)) (Below.refl _ _) (Nat.le_refl _) ?_; intro v193 w14 ho15 hb hg_ hnew_; clear hg_ hnew_; (first | rw [← Ny192.out] at ho15 | (simp only [Int.reduceToNat] at ho15; rw [← Ny192.out] at ho15)); have n0_ := Aside0.mk (Kd.R_lower ho15 (below_size (by repeat (first | (with_reducible first | exact HB.out | apply below_alloc | apply pw_below_drewN | apply below_drew1) | exact HB.out)))); have n1_ := Aside0.mk (below_step (by repeat (first | (with_reducible first | exact HB.out | apply below_alloc | apply pw_below_drewN | apply below_drew1) | exact HB.out)) hb); clear HB; have HO194 := n0_; have HB := n1_; clear n0_ n1_; clear hb ho15) | ((with_reducible refine gate_dst (N := 24) rfl ?_); refine Kd.R_make (Kd.int .i64) _ 3 rfl (N := 24) rfl 41 _ _ rfl (l0.length : Int) rfl rfl Try.underlying41 (.int .i64 0) 8 info3 rfl (by decide) (by omega) 0 (ok := fun _ => True) (okp := fun _ => True) rfl (fun _ hk => hk) trivial (of_decide_eq_true (by first | (with_reducible assumption) | assumption)) (Nat.le_trans (Nat.mul_le_mul_right _ (of_decide_eq_true (by first | (with_reducible assumption) | assumption) : (l0.length : Int).toNat ≤ 35184372088832)) (by omega)) (Below.refl _ _) (Nat.le_refl _) ?_; intro v196 w16 ho17 hb hg_ hnew_; clear hg_ hnew_; (first | rw [← Ny195.out] at ho17 | (simp only [Int.reduceToNat] at ho17; rw [← Ny195.out] at ho17)); have n0_ := Aside0.mk (Kd.R_elder' (by (with_reducible repeat (first | apply Kd.R_alloc | apply Kd.R_drewN | apply Kd.R_drew)); exact HO194.out) (Kd.R_base ho17) hb); have n1_ := Aside0.mk (Kd.R_lower (Kd.R_new' ho17 (Kd.R_lt (by (with_reducible repeat (first | apply Kd.R_alloc | apply Kd.R_drewN | apply Kd.R_drew)); exact HO194.out))) (below_size (by repeat (first | (with_reducible first | exact HB.out | apply below_alloc | apply pw_below_drewN | apply below_drew1) | exact HB.out)))); have n2_ := Aside0.mk (below_step (by repeat (first | (with_reducible first | exact HB.out | apply below_alloc | apply pw_below_drewN | apply below_drew1) | exact HB.out)) hb); clear HO194; clear HB; have HO194 := n0_; have HO197 := n1_; have HB := n2_; clear n0_ n1_ n2_; clear hb ho17)))
            go_loopg [27] kj2 (fun kq v27 w' => ∃ (x5_2 : List Int) (x6_2 : List Int) (x27_2 : Int), v27 = .int .i64 x27_2 ∧ Aside0 (estoverslaw30_ThrottleSum.l0 kq l0 a1 x5_2 x6_2 (l0.length : Int) x27_2 = some r) ∧ Aside0 (kq ≤ kj2) ∧ Aside0 (Kd.R (Kd.int .i64) 3 w' w.heap.size (fun k_ => some k_ ≠ (v196 : Value).ownBlock) v193 x5_2) ∧ Aside0 (Kd.R (Kd.int .i64) 3 w' w.heap.size (fun k_ => some k_ ≠ (v193 : Value).ownBlock) v196 x6_2) ∧ Aside0 (Below w.heap.size w w'))
            case atStart => exact ⟨(y192), (y195), (0), (by first | rfl | (simp; done) | (simp [*]; done)), H', ⟨Nat.le_refl _⟩, ⟨by (with_reducible repeat (first | apply Kd.R_alloc | apply Kd.R_drewN | apply Kd.R_drew)); exact Kd.R_mono HO194.out (fun _ hk => hk.2)⟩, ⟨by (with_reducible repeat (first | apply Kd.R_alloc | apply Kd.R_drewN | apply Kd.R_drew)); exact Kd.R_mono HO197.out (fun _ hk => hk.2)⟩, ⟨by repeat (first | (with_reducible first | exact HB.out | apply below_alloc | apply pw_below_drewN | apply below_drew1) | exact HB.out)⟩⟩
            case round =>
              clear H'
              try clear c1
              try clear p2
              try clear c5
              try clear c7
              try clear c9
              try clear c12
              try clear c12b0
              try clear c12b1
              try clear c13
              try clear c13b0
              try clear c13b1
              try clear p2
              obtain ⟨x5_2, x6_2, x27_2, rfl, HA, HK2, HO_5, HO_6, HB⟩ := hrel
              cases gk with
              | zero => exact absurd HA.out (by simp [estoverslaw30_ThrottleSum.l0])
              | succ k2 =>
                have H := HA.out
                clear HA
                simp only [estoverslaw30_ThrottleSum.l0] at H
                by_cases c18 : x27_2 < (l0.length : Int)
                · rw [if_pos c18] at H
                  have c18b0 : decide (x27_2 < (l0.length : Int)) = true := decide_eq_true c18
                  clear c18
                  replace H := Option.bind_eq_some_iff.mp H
                  obtain ⟨⟨t198, t199⟩, A190, H⟩ := H
                  replace H : (if t199 = 0 then (if t198 < 0 then (estoverslaw30_ThrottleSum.j2 k2 l0 a1 x5_2 x6_2 x27_2 t198 (l0.length : Int) x27_2 true) else (estoverslaw30_ThrottleSum.j2 k2 l0 a1 x5_2 x6_2 x27_2 t198 (l0.length : Int) x27_2 (decide (t198 > (wrap64 (a1)))))) else (estoverslaw30_ThrottleSum.j2 k2 l0 a1 x5_2 x6_2 x27_2 t198 (l0.length : Int) x27_2 true)) = some r := H
                  have A19 := Aside0.mk A190
                  clear A190
                  have HC20 := Aside0.mk H
                  clear H
                  go_upto_region 9 with (first | (go_at_call 19; (with_reducible refine (throttle_Share.calls k2 _ _ l0 (wrap64 (a1)) x27_2 t198 t199 _ ?side1 ?side2 A19.out).mono ?_); (case side1 => repeat (first | exact (Kd.C_below HR0.out HB.out) | (with_reducible refine Kd.C_alloc ?_ _) | (with_reducible refine Kd.C_drewN ?_ _) | (with_reducible refine Kd.C_drew ?_))); (case side2 => exact HC0.out); rintro e w21 ⟨rfl, hb⟩; have n0_ := Aside0.mk (Kd.R_below (by (with_reducible repeat (first | apply Kd.R_alloc | apply Kd.R_drewN | apply Kd.R_drew)); exact HO_5.out) hb); have n1_ := Aside0.mk (Kd.R_below (by (with_reducible repeat (first | apply Kd.R_alloc | apply Kd.R_drewN | apply Kd.R_drew)); exact HO_6.out) hb); have n2_ := Aside0.mk (below_step (by repeat (first | (with_reducible first | exact HB.out | apply below_alloc | apply pw_below_drewN | apply below_drew1) | exact HB.out)) hb); clear HO_5; clear HO_6; clear HB; have HO_5 := n0_; have HO_6 := n1_; have HB := n2_; clear n0_ n1_ n2_; (try clear hb); (try clear hb2); (try clear hk); (try clear hi)))
                  repeat (go_quiet (first | (go_at_call 19; (with_reducible refine (throttle_Share.calls k2 _ _ l0 (wrap64 (a1)) x27_2 t198 t199 _ ?side1 ?side2 A19.out).mono ?_); (case side1 => repeat (first | exact (Kd.C_below HR0.out HB.out) | (with_reducible refine Kd.C_alloc ?_ _) | (with_reducible refine Kd.C_drewN ?_ _) | (with_reducible refine Kd.C_drew ?_))); (case side2 => exact HC0.out); rintro e w21 ⟨rfl, hb⟩; have n0_ := Aside0.mk (Kd.R_below (by (with_reducible repeat (first | apply Kd.R_alloc | apply Kd.R_drewN | apply Kd.R_drew)); exact HO_5.out) hb); have n1_ := Aside0.mk (Kd.R_below (by (with_reducible repeat (first | apply Kd.R_alloc | apply Kd.R_drewN | apply Kd.R_drew)); exact HO_6.out) hb); have n2_ := Aside0.mk (below_step (by repeat (first | (with_reducible first | exact HB.out | apply below_alloc | apply pw_below_drewN | apply below_drew1) | exact HB.out)) hb); clear HO_5; clear HO_6; clear HB; have HO_5 := n0_; have HO_6 := n1_; have HB := n2_; clear n0_ n1_ n2_; (try clear hb); (try clear hb2); (try clear hk); (try clear hi))); go_upto_region 9 with (first | (go_at_call 19; (with_reducible refine (throttle_Share.calls k2 _ _ l0 (wrap64 (a1)) x27_2 t198 t199 _ ?side1 ?side2 A19.out).mono ?_); (case side1 => repeat (first | exact (Kd.C_below HR0.out HB.out) | (with_reducible refine Kd.C_alloc ?_ _) | (with_reducible refine Kd.C_drewN ?_ _) | (with_reducible refine Kd.C_drew ?_))); (case side2 => exact HC0.out); rintro e w21 ⟨rfl, hb⟩; have n0_ := Aside0.mk (Kd.R_below (by (with_reducible repeat (first | apply Kd.R_alloc | apply Kd.R_drewN | apply Kd.R_drew)); exact HO_5.out) hb); have n1_ := Aside0.mk (Kd.R_below (by (with_reducible repeat (first | apply Kd.R_alloc | apply Kd.R_drewN | apply Kd.R_drew)); exact HO_6.out) hb); have n2_ := Aside0.mk (below_step (by repeat (first | (with_reducible first | exact HB.out | apply below_alloc | apply pw_below_drewN | apply below_drew1) | exact HB.out)) hb); clear HO_5; clear HO_6; clear HB; have HO_5 := n0_; have HO_6 := n1_; have HB := n2_; clear n0_ n1_ n2_; (try clear hb); (try clear hb2); (try clear hk); (try clear hi))))
                  (try simp only [Act.put, List.setIfInBounds_toArray, List.set_cons_zero, List.set_cons_succ])
                  go_cut [49] (fun v49 wc => ∃ (kq : Nat) (x49_19 : Bool), v49 = .bool x49_19 ∧ Aside0 (estoverslaw30_ThrottleSum.j2 kq l0 a1 x5_2 x6_2 x27_2 t198 (l0.length : Int) x27_2 x49_19 = some r) ∧ Aside0 (kq ≤ k2) ∧ Aside0 (Kd.R (Kd.int .i64) 3 wc w.heap.size (fun k_ => some k_ ≠ (v196 : Value).ownBlock) v193 x5_2) ∧ Aside0 (Kd.R (Kd.int .i64) 3 wc w.heap.size (fun k_ => some k_ ≠ (v193 : Value).ownBlock) v196 x6_2) ∧ Aside0 (Below w.heap.size w wc))
                  case first =>
                    have H := HC20.out
                    clear HC20
                    by_cases c22 : t199 = 0
                    · rw [if_pos c22] at H
                      have c22b0 : (t199 == 0) = true := beq_iff_eq.mpr c22
                      have c22b1 : (t199 != 0) = false := bne_eq_false_iff_eq.mpr c22
                      clear c22
                      (first | rw [c22b0] | (simp only [i64_w, i32_w]; rw [c22b0]) | skip)
                      by_cases c23 : t198 < 0
                      · rw [if_pos c23] at H
                        have c23b0 : decide (t198 < 0) = true := decide_eq_true c23
                        clear c23
                        have H' := Aside0.mk H
                        clear H
                        go_wp2
                        repeat (go_quiet (fail); try go_wp2)
                        go_meet
                        case rel => exact ⟨_, (true), (by first | rfl | (simp; done) | (simp [*]; done)), H', ⟨by have := HJ2.out; have := HK2.out; first | omega | exact Nat.le_refl _⟩, ⟨by (with_reducible repeat (first | apply Kd.R_alloc | apply Kd.R_drewN | apply Kd.R_drew)); exact HO_5.out⟩, ⟨by (with_reducible repeat (first | apply Kd.R_alloc | apply Kd.R_drewN | apply Kd.R_drew)); exact HO_6.out⟩, ⟨by repeat (first | (with_reducible first | exact HB.out | apply below_alloc | apply pw_below_drewN | apply below_drew1) | exact HB.out)⟩⟩
                      · rw [if_neg c23] at H
                        have c23b0 : decide (t198 < 0) = false := decide_eq_false c23
                        clear c23
                        have H' := Aside0.mk H
                        clear H
                        go_wp2
                        repeat (go_quiet (fail); try go_wp2)
                        go_meet
                        case rel => exact ⟨_, (decide (t198 > (wrap64 (a1)))), (by first | rfl | (simp; done) | (simp [*]; done)), H', ⟨by have := HJ2.out; have := HK2.out; first | omega | exact Nat.le_refl _⟩, ⟨by (with_reducible repeat (first | apply Kd.R_alloc | apply Kd.R_drewN | apply Kd.R_drew)); exact HO_5.out⟩, ⟨by (with_reducible repeat (first | apply Kd.R_alloc | apply Kd.R_drewN | apply Kd.R_drew)); exact HO_6.out⟩, ⟨by repeat (first | (with_reducible first | exact HB.out | apply below_alloc | apply pw_below_drewN | apply below_drew1) | exact HB.out)⟩⟩
                    · rw [if_neg c22] at H
                      have c22b0 : (t199 == 0) = false := beq_eq_false_iff_ne.mpr c22
                      have c22b1 : (t199 != 0) = true := bne_iff_ne.mpr c22
                      (first | rw [c22b0] | (simp only [i64_w, i32_w]; rw [c22b0]) | skip)
                      have H' := Aside0.mk H
                      clear H
                      go_wp2
                      repeat (go_quiet (fail); try go_wp2)
                      go_meet
                      case rel => exact ⟨_, (true), (by first | rfl | (simp; done) | (simp [*]; done)), H', ⟨by have := HJ2.out; have := HK2.out; first | omega | exact Nat.le_refl _⟩, ⟨by (with_reducible repeat (first | apply Kd.R_alloc | apply Kd.R_drewN | apply Kd.R_drew)); exact HO_5.out⟩, ⟨by (with_reducible repeat (first | apply Kd.R_alloc | apply Kd.R_drewN | apply Kd.R_drew)); exact HO_6.out⟩, ⟨by repeat (first | (with_reducible first | exact HB.out | apply below_alloc | apply pw_below_drewN | apply below_drew1) | exact HB.out)⟩⟩
                  case rest =>
                    clear HC20
                    try clear c1
                    try clear c2
                    try clear p2
                    try clear c5
                    try clear p6
                    try clear c7
                    try clear c9
                    try clear c12
                    try clear c12b0
                    try clear c12b1
                    try clear c13
                    try clear c13b0
                    try clear c13b1
                    try clear c18
                    try clear c18b0
                    try clear c22
                    try clear c22b0
                    try clear c22b1
                    try clear c23
                    try clear c23b0
                    try clear p2
                    obtain ⟨kq, x49_19, rfl, HA, HJ19, HO_5, HO_6, HB⟩ := hcut
                    cases kq with
                    | zero => exact absurd HA.out (by simp [estoverslaw30_ThrottleSum.j2])
                    | succ kj19 =>
                      have H := HA.out
                      clear HA
                      simp only [estoverslaw30_ThrottleSum.j2] at H
                      by_cases c24 : x49_19 = true
                      · subst c24
                        have H1 : (none) = some r := by rw [if_pos rfl] at H; exact H
                        clear H
                        have H := H1
                        clear H1
                        exact absurd H (by simp)
                      · replace c24 := Bool.eq_false_iff.mpr c24
                        subst c24
                        have H1 : (if 0 ≤ x27_2 then (if x27_2 < (x6_2.length : Int) then ((some (x6_2.set (x27_2 : Int).toNat t198 : List Int)).bind fun y200 => (if x27_2 > 0 then (if x27_2 < (l0.length : Int) then (if 0 ≤ ((rd_T43 l0 x27_2).f0) then (if ((rd_T43 l0 x27_2).f0) < (x5_2.length : Int) then (estoverslaw30_ThrottleSum.l0 kj19 l0 a1 (x5_2.set (((rd_T43 l0 x27_2).f0) : Int).toNat (wrap64 ((rd x5_2 ((rd_T43 l0 x27_2).f0)) + t198))) y200 (l0.length : Int) (wrap64 (x27_2 + 1))) else (none)) else (none)) else (none)) else (estoverslaw30_ThrottleSum.l0 kj19 l0 a1 x5_2 y200 (l0.length : Int) (wrap64 (x27_2 + 1))))) else (none)) else (none)) = some r := by rw [if_neg (show ¬ (false = true) by decide)] at H; exact H
                        clear H
                        have H := H1
                        clear H1
                        by_cases c25 : 0 ≤ x27_2
                        · rw [if_pos c25] at H
                          have c25b0 : decide (0 ≤ x27_2) = true := decide_eq_true c25
                          clear c25
                          by_cases c26 : x27_2 < (x6_2.length : Int)
                          · rw [if_pos c26] at H
                            have c26b0 : decide (x27_2 < (x6_2.length : Int)) = true := decide_eq_true c26
                            clear c26
                            obtain ⟨y200, hy200⟩ : ∃ y_ : List Int, y_ = (x6_2.set (x27_2 : Int).toNat t198) := ⟨_, rfl⟩
                            replace H : (if x27_2 > 0 then (if x27_2 < (l0.length : Int) then (if 0 ≤ ((rd_T43 l0 x27_2).f0) then (if ((rd_T43 l0 x27_2).f0) < (x5_2.length : Int) then (estoverslaw30_ThrottleSum.l0 kj19 l0 a1 (x5_2.set (((rd_T43 l0 x27_2).f0) : Int).toNat (wrap64 ((rd x5_2 ((rd_T43 l0 x27_2).f0)) + t198))) y200 (l0.length : Int) (wrap64 (x27_2 + 1))) else (none)) else (none)) else (none)) else (estoverslaw30_ThrottleSum.l0 kj19 l0 a1 x5_2 y200 (l0.length : Int) (wrap64 (x27_2 + 1)))) = some r := by first | (rw [hy200]; with_reducible exact H) | (have H2_ := (Option.bind_some _ _).symm.trans H; rw [hy200]; with_reducible exact H2_) | (have H2_ := (Option.bind_some _ _).symm.trans H; with_reducible exact H2_) | with_reducible exact H | (rw [hy200]; exact H) | exact H
                            have Ny200 := Aside0.mk hy200
                            clear hy200
                            by_cases c28 : x27_2 > 0
                            · rw [if_pos c28] at H
                              have c28b0 : decide (0 < x27_2) = true := decide_eq_true c28
                              clear c28
                              by_cases c29 : x27_2 < (l0.length : Int)
                              · rw [if_pos c29] at H
                                have c29b0 : decide (x27_2 < (l0.length : Int)) = true := decide_eq_true c29
                                clear c29
                                by_cases c30 : 0 ≤ ((rd_T43 l0 x27_2).f0)
                                · rw [if_pos c30] at H
                                  have c30b0 : decide (0 ≤ ((rd_T43 l0 x27_2).f0)) = true := decide_eq_true c30
                                  clear c30
                                  by_cases c31 : ((rd_T43 l0 x27_2).f0) < (x5_2.length : Int)
                                  · rw [if_pos c31] at H
                                    have c31b0 : decide (((rd_T43 l0 x27_2).f0) < (x5_2.length : Int)) = true := decide_eq_true c31
                                    clear c31
                                    obtain ⟨y203, hy203⟩ : ∃ y_ : List Int, y_ = (x5_2.set (((rd_T43 l0 x27_2).f0) : Int).toNat (wrap64 ((rd x5_2 ((rd_T43 l0 x27_2).f0)) + t198))) := ⟨_, rfl⟩
                                    replace H : (estoverslaw30_ThrottleSum.l0 kj19 l0 a1 y203 y200 (l0.length : Int) (wrap64 (x27_2 + 1))) = some r := by first | (rw [hy203]; with_reducible exact H) | (have H2_ := (Option.bind_some _ _).symm.trans H; rw [hy203]; with_reducible exact H2_) | (have H2_ := (Option.bind_some _ _).symm.trans H; with_reducible exact H2_) | with_reducible exact H | (rw [hy203]; exact H) | exact H
                                    have Ny203 := Aside0.mk hy203
                                    clear hy203
                                    have H' := Aside0.mk H
                                    clear H
                                    have p27 : 0 ≤ (x27_2 : Int) := of_decide_eq_true (by first | (with_reducible assumption) | assumption)
                                    have q27 : (x27_2 : Int) < ((x6_2.length : Int) : Int) := of_decide_eq_true (by first | (with_reducible assumption) | assumption)
                                    obtain ⟨go27, co27, eo27, gb27, gl27, cl27, HG27⟩ := Kd.R_form HO_6.out (by omega)
                                    (first | cases eo27 | (injection eo27 with ea_ en_ ec_; (first | subst ea_ | (injection ea_ with ea_; subst ea_)); subst ec_; clear en_))
                                    have GB27 := Aside0.mk gb27
                                    have GG27 := Aside0.mk HG27
                                    clear gb27 gl27 HG27
                                    obtain ⟨hx27_0, hf27_0⟩ := Kd.R_celln 0 HO_6.out (x27_2 : Int) p27 q27
                                    replace p27 := eq_true p27
                                    replace q27 := eq_true q27
                                    have HP33 := Kd.R_putg HO_6.out (x27_2 : Int) t198
                                    go_wp2_with (first | ((with_reducible refine gate_store (t := 3) (p := 53) rfl ?_); (try (rw [drewN_self wc]; generalize hq_ : World.drewN wc _ = wc; have n0_ := Aside0.mk (Kd.R_at hq_ HO_5.out); have n1_ := Aside0.mk (Kd.R_at hq_ HO_6.out); have n2_ := Aside0.mk (below_at hq_ HB.out); clear hq_ HO_5 HO_6 HB; have HO_5 := n0_; have HO_6 := n1_; have HB := n2_; clear n0_ n1_ n2_; (try (have HP33 := Kd.R_putg HO_6.out (x27_2 : Int) t198)))); refine store_event (t := 3) (p := 53) (v := ?vo_w34) (w1 := (wc.setCell ⟨go27, (x27_2 : Int).toNat, none⟩ (.int .i64 t198))) ?hg ?ho ?hn ?hr ?_; (case ho => rfl); (case hg => rfl); (case hn => rfl); (case hr => first | (go_simp; done) | (go_simp; rfl)); intro w34 hw; have hg : wc.grownBy w34 (some go27) := (by rw [hw]; exact HP33.2); have hp_ : Kd.R (Kd.int .i64) 3 w34 w.heap.size (fun k_ => some k_ ≠ (v193 : Value).ownBlock) (.slice (some ⟨go27, 0, none⟩) x6_2.length co27) y200 := (by rw [hw, Ny200.out]; exact HP33.1); clear HP33; have n0_ := Aside0.mk (Kd.R_after (v := (.slice (some ⟨go27, 0, none⟩) x6_2.length co27)) (v1 := (.slice (some ⟨go27, 0, none⟩) x6_2.length co27)) (ok := (fun _ => True)) (by (with_reducible repeat (first | apply Kd.R_alloc | apply Kd.R_drewN | apply Kd.R_drew)); exact Kd.R_mono HO_5.out (fun _ hk => ⟨trivial, hk⟩)) hg (.inl rfl)); have n1_ := Aside0.mk (hp_); have n2_ := Aside0.mk ((by rw [hw]; exact below_set (HB.out) GB27.out : Below w.heap.size w w34)); clear HO_5; clear HO_6; clear HB; have HO_5 := n0_; have HO_6 := n1_; have HB := n2_; clear n0_ n1_ n2_; clear hg hw hp_; have p201 : 0 ≤ (x27_2 : Int) := of_decide_eq_true (by first | (with_reducible assumption) | assumption); have q201 : x27_2 < (l0.length : Int) := of_decide_eq_true (by first | (with_reducible assumption) | assumption); obtain ⟨ad201, e201, hx201_0, hx201_1, hx201_2, hx201_3, hx201_4⟩ := at_T43 HR0.out x27_2 p201 q201; cases e201; replace hx201_0 := (HB.out.cell (World.block_lt_of_cell? w _ hx201_0)).trans hx201_0; replace hx201_1 := (HB.out.cell (World.block_lt_of_cell? w _ hx201_1)).trans hx201_1; replace hx201_2 := (HB.out.cell (World.block_lt_of_cell? w _ hx201_2)).trans hx201_2; replace hx201_3 := (HB.out.cell (World.block_lt_of_cell? w _ hx201_3)).trans hx201_3; replace hx201_4 := (HB.out.cell (World.block_lt_of_cell? w _ hx201_4)).trans hx201_4; replace p201 := eq_true p201; replace q201 := eq_true q201; obtain ⟨Ao35, co35, eo35⟩ := Kd.R_slice HO_5.out; subst eo35; have p202 : 0 ≤ (((rd_T43 l0 x27_2).f0) : Int) := of_decide_eq_true (by first | (with_reducible assumption) | assumption); have q202 : ((rd_T43 l0 x27_2).f0) < (x5_2.length : Int) := of_decide_eq_true (by first | (with_reducible assumption) | assumption); obtain ⟨ad202, e202, hx202_0⟩ := Kd.at_int (Kd.R_reads' HO_5.out).2.2 ((rd_T43 l0 x27_2).f0) p202 q202; cases e202; replace p202 := eq_true p202; replace q202 := eq_true q202; have p32 : 0 ≤ (((rd_T43 l0 x27_2).f0) : Int) := of_decide_eq_true (by first | (with_reducible assumption) | assumption); have q32 : (((rd_T43 l0 x27_2).f0) : Int) < ((x5_2.length : Int) : Int) := of_decide_eq_true (by first | (with_reducible assumption) | assumption); obtain ⟨go32, co32, eo32, gb32, gl32, cl32, HG32⟩ := Kd.R_form HO_5.out (by omega); (first | cases eo32 | (injection eo32 with ea_ en_ ec_; (first | subst ea_ | (injection ea_ with ea_; subst ea_)); subst ec_; clear en_)); have GB32 := Aside0.mk gb32; have GG32 := Aside0.mk HG32; clear gb32 gl32 HG32; (first | simp only [add_plain] at hx202_0 | skip); obtain ⟨hx32_0, hf32_0⟩ := Kd.R_celln 0 HO_5.out (((rd_T43 l0 x27_2).f0) : Int) p32 q32; replace p32 := eq_true p32; replace q32 := eq_true q32; have n_ := Aside0.mk (Kd.R_mono (ok' := (fun k_ => some k_ ≠ (.slice (some ⟨go27, 0, none⟩) x6_2.length co27 : Value).ownBlock)) HO_5.out (fun k_ hk => hk.2)); clear HO_5; have HO_5 := n_; clear n_; obtain ⟨hy36_, hz36_⟩ := Kd.R_celln 0 HO_5.out (((rd_T43 l0 x27_2).f0) : Int) (of_decide_eq_true (by first | (with_reducible assumption) | assumption)) (of_decide_eq_true (by first | (with_reducible assumption) | assumption)); have HP36 := Kd.R_putg HO_5.out (((rd_T43 l0 x27_2).f0) : Int) (wrap64 ((rd x5_2 ((rd_T43 l0 x27_2).f0)) + t198))) | ((with_reducible refine gate_store (t := 3) (p := 66) rfl ?_); (try (rw [drewN_self w34]; generalize hq_ : World.drewN w34 _ = w34; have n0_ := Aside0.mk (Kd.R_at hq_ HO_5.out); have n1_ := Aside0.mk (Kd.R_at hq_ HO_6.out); have n2_ := Aside0.mk (below_at hq_ HB.out); clear hq_ HO_5 HO_6 HB; have HO_5 := n0_; have HO_6 := n1_; have HB := n2_; clear n0_ n1_ n2_; (try (have n_ := Aside0.mk (Kd.R_mono (ok' := (fun k_ => some k_ ≠ (.slice (some ⟨go27, 0, none⟩) x6_2.length co27 : Value).ownBlock)) HO_5.out (fun k_ hk => hk.2)); clear HO_5; have HO_5 := n_; clear n_)); (try (obtain ⟨hy36_, hz36_⟩ := Kd.R_celln 0 HO_5.out (((rd_T43 l0 x27_2).f0) : Int) (of_decide_eq_true (by first | (with_reducible assumption) | assumption)) (of_decide_eq_true (by first | (with_reducible assumption) | assumption)))); (try (have HP36 := Kd.R_putg HO_5.out (((rd_T43 l0 x27_2).f0) : Int) (wrap64 ((rd x5_2 ((rd_T43 l0 x27_2).f0)) + t198)))))); refine store_event (t := 3) (p := 66) (v := ?vo_w37) (w1 := (w34.setCell ⟨go32, (((rd_T43 l0 x27_2).f0) : Int).toNat, none⟩ (.int .i64 (wrap64 ((rd x5_2 ((rd_T43 l0 x27_2).f0)) + t198))))) ?hg ?ho ?hn ?hr ?_; (case ho => rfl); (case hg => rfl); (case hn => rfl); (case hr => first | (go_simp; done) | (go_simp; rfl)); intro w37 hw; have hg : w34.grownBy w37 (some go32) := (by rw [hw]; exact HP36.2); have hp_ : Kd.R (Kd.int .i64) 3 w37 w.heap.size (fun k_ => some k_ ≠ (.slice (some ⟨go27, 0, none⟩) x6_2.length co27 : Value).ownBlock) (.slice (some ⟨go32, 0, none⟩) x5_2.length co35) y203 := (by rw [hw, Ny203.out]; exact HP36.1); clear HP36; have n0_ := Aside0.mk (hp_); have n1_ := Aside0.mk (Kd.R_after (v := (.slice (some ⟨go32, 0, none⟩) x5_2.length co35)) (v1 := (.slice (some ⟨go32, 0, none⟩) x5_2.length co35)) (ok := (fun _ => True)) (by (with_reducible repeat (first | apply Kd.R_alloc | apply Kd.R_drewN | apply Kd.R_drew)); exact Kd.R_mono HO_6.out (fun _ hk => ⟨trivial, hk⟩)) hg (.inl rfl)); have n2_ := Aside0.mk ((by rw [hw]; exact below_set (HB.out) GB32.out : Below w.heap.size w w37)); clear HO_5; clear HO_6; clear HB; have HO_5 := n0_; have HO_6 := n1_; have HB := n2_; clear n0_ n1_ n2_; clear hg hw hp_))
                                    repeat (go_quiet (first | ((with_reducible refine gate_store (t := 3) (p := 53) rfl ?_); (try (rw [drewN_self wc]; generalize hq_ : World.drewN wc _ = wc; have n0_ := Aside0.mk (Kd.R_at hq_ HO_5.out); have n1_ := Aside0.mk (Kd.R_at hq_ HO_6.out); have n2_ := Aside0.mk (below_at hq_ HB.out); clear hq_ HO_5 HO_6 HB; have HO_5 := n0_; have HO_6 := n1_; have HB := n2_; clear n0_ n1_ n2_; (try (have HP33 := Kd.R_putg HO_6.out (x27_2 : Int) t198)))); refine store_event (t := 3) (p := 53) (v := ?vo_w34) (w1 := (wc.setCell ⟨go27, (x27_2 : Int).toNat, none⟩ (.int .i64 t198))) ?hg ?ho ?hn ?hr ?_; (case ho => rfl); (case hg => rfl); (case hn => rfl); (case hr => first | (go_simp; done) | (go_simp; rfl)); intro w34 hw; have hg : wc.grownBy w34 (some go27) := (by rw [hw]; exact HP33.2); have hp_ : Kd.R (Kd.int .i64) 3 w34 w.heap.size (fun k_ => some k_ ≠ (v193 : Value).ownBlock) (.slice (some ⟨go27, 0, none⟩) x6_2.length co27) y200 := (by rw [hw, Ny200.out]; exact HP33.1); clear HP33; have n0_ := Aside0.mk (Kd.R_after (v := (.slice (some ⟨go27, 0, none⟩) x6_2.length co27)) (v1 := (.slice (some ⟨go27, 0, none⟩) x6_2.length co27)) (ok := (fun _ => True)) (by (with_reducible repeat (first | apply Kd.R_alloc | apply Kd.R_drewN | apply Kd.R_drew)); exact Kd.R_mono HO_5.out (fun _ hk => ⟨trivial, hk⟩)) hg (.inl rfl)); have n1_ := Aside0.mk (hp_); have n2_ := Aside0.mk ((by rw [hw]; exact below_set (HB.out) GB27.out : Below w.heap.size w w34)); clear HO_5; clear HO_6; clear HB; have HO_5 := n0_; have HO_6 := n1_; have HB := n2_; clear n0_ n1_ n2_; clear hg hw hp_; have p201 : 0 ≤ (x27_2 : Int) := of_decide_eq_true (by first | (with_reducible assumption) | assumption); have q201 : x27_2 < (l0.length : Int) := of_decide_eq_true (by first | (with_reducible assumption) | assumption); obtain ⟨ad201, e201, hx201_0, hx201_1, hx201_2, hx201_3, hx201_4⟩ := at_T43 HR0.out x27_2 p201 q201; cases e201; replace hx201_0 := (HB.out.cell (World.block_lt_of_cell? w _ hx201_0)).trans hx201_0; replace hx201_1 := (HB.out.cell (World.block_lt_of_cell? w _ hx201_1)).trans hx201_1; replace hx201_2 := (HB.out.cell (World.block_lt_of_cell? w _ hx201_2)).trans hx201_2; replace hx201_3 := (HB.out.cell (World.block_lt_of_cell? w _ hx201_3)).trans hx201_3; replace hx201_4 := (HB.out.cell (World.block_lt_of_cell? w _ hx201_4)).trans hx201_4; replace p201 := eq_true p201; replace q201 := eq_true q201; obtain ⟨Ao35, co35, eo35⟩ := Kd.R_slice HO_5.out; subst eo35; have p202 : 0 ≤ (((rd_T43 l0 x27_2).f0) : Int) := of_decide_eq_true (by first | (with_reducible assumption) | assumption); have q202 : ((rd_T43 l0 x27_2).f0) < (x5_2.length : Int) := of_decide_eq_true (by first | (with_reducible assumption) | assumption); obtain ⟨ad202, e202, hx202_0⟩ := Kd.at_int (Kd.R_reads' HO_5.out).2.2 ((rd_T43 l0 x27_2).f0) p202 q202; cases e202; replace p202 := eq_true p202; replace q202 := eq_true q202; have p32 : 0 ≤ (((rd_T43 l0 x27_2).f0) : Int) := of_decide_eq_true (by first | (with_reducible assumption) | assumption); have q32 : (((rd_T43 l0 x27_2).f0) : Int) < ((x5_2.length : Int) : Int) := of_decide_eq_true (by first | (with_reducible assumption) | assumption); obtain ⟨go32, co32, eo32, gb32, gl32, cl32, HG32⟩ := Kd.R_form HO_5.out (by omega); (first | cases eo32 | (injection eo32 with ea_ en_ ec_; (first | subst ea_ | (injection ea_ with ea_; subst ea_)); subst ec_; clear en_)); have GB32 := Aside0.mk gb32; have GG32 := Aside0.mk HG32; clear gb32 gl32 HG32; (first | simp only [add_plain] at hx202_0 | skip); obtain ⟨hx32_0, hf32_0⟩ := Kd.R_celln 0 HO_5.out (((rd_T43 l0 x27_2).f0) : Int) p32 q32; replace p32 := eq_true p32; replace q32 := eq_true q32; have n_ := Aside0.mk (Kd.R_mono (ok' := (fun k_ => some k_ ≠ (.slice (some ⟨go27, 0, none⟩) x6_2.length co27 : Value).ownBlock)) HO_5.out (fun k_ hk => hk.2)); clear HO_5; have HO_5 := n_; clear n_; obtain ⟨hy36_, hz36_⟩ := Kd.R_celln 0 HO_5.out (((rd_T43 l0 x27_2).f0) : Int) (of_decide_eq_true (by first | (with_reducible assumption) | assumption)) (of_decide_eq_true (by first | (with_reducible assumption) | assumption)); have HP36 := Kd.R_putg HO_5.out (((rd_T43 l0 x27_2).f0) : Int) (wrap64 ((rd x5_2 ((rd_T43 l0 x27_2).f0)) + t198))) | ((with_reducible refine gate_store (t := 3) (p := 66) rfl ?_); (try (rw [drewN_self w34]; generalize hq_ : World.drewN w34 _ = w34; have n0_ := Aside0.mk (Kd.R_at hq_ HO_5.out); have n1_ := Aside0.mk (Kd.R_at hq_ HO_6.out); have n2_ := Aside0.mk (below_at hq_ HB.out); clear hq_ HO_5 HO_6 HB; have HO_5 := n0_; have HO_6 := n1_; have HB := n2_; clear n0_ n1_ n2_; (try (have n_ := Aside0.mk (Kd.R_mono (ok' := (fun k_ => some k_ ≠ (.slice (some ⟨go27, 0, none⟩) x6_2.length co27 : Value).ownBlock)) HO_5.out (fun k_ hk => hk.2)); clear HO_5; have HO_5 := n_; clear n_)); (try (obtain ⟨hy36_, hz36_⟩ := Kd.R_celln 0 HO_5.out (((rd_T43 l0 x27_2).f0) : Int) (of_decide_eq_true (by first | (with_reducible assumption) | assumption)) (of_decide_eq_true (by first | (with_reducible assumption) | assumption)))); (try (have HP36 := Kd.R_putg HO_5.out (((rd_T43 l0 x27_2).f0) : Int) (wrap64 ((rd x5_2 ((rd_T43 l0 x27_2).f0)) + t198)))))); refine store_event (t := 3) (p := 66) (v := ?vo_w37) (w1 := (w34.setCell ⟨go32, (((rd_T43 l0 x27_2).f0) : Int).toNat, none⟩ (.int .i64 (wrap64 ((rd x5_2 ((rd_T43 l0 x27_2).f0)) + t198))))) ?hg ?ho ?hn ?hr ?_; (case ho => rfl); (case hg => rfl); (case hn => rfl); (case hr => first | (go_simp; done) | (go_simp; rfl)); intro w37 hw; have hg : w34.grownBy w37 (some go32) := (by rw [hw]; exact HP36.2); have hp_ : Kd.R (Kd.int .i64) 3 w37 w.heap.size (fun k_ => some k_ ≠ (.slice (some ⟨go27, 0, none⟩) x6_2.length co27 : Value).ownBlock) (.slice (some ⟨go32, 0, none⟩) x5_2.length co35) y203 := (by rw [hw, Ny203.out]; exact HP36.1); clear HP36; have n0_ := Aside0.mk (hp_); have n1_ := Aside0.mk (Kd.R_after (v := (.slice (some ⟨go32, 0, none⟩) x5_2.length co35)) (v1 := (.slice (some ⟨go32, 0, none⟩) x5_2.length co35)) (ok := (fun _ => True)) (by (with_reducible repeat (first | apply Kd.R_alloc | apply Kd.R_drewN | apply Kd.R_drew)); exact Kd.R_mono HO_6.out (fun _ hk => ⟨trivial, hk⟩)) hg (.inl rfl)); have n2_ := Aside0.mk ((by rw [hw]; exact below_set (HB.out) GB32.out : Below w.heap.size w w37)); clear HO_5; clear HO_6; clear HB; have HO_5 := n0_; have HO_6 := n1_; have HB := n2_; clear n0_ n1_ n2_; clear hg hw hp_)); try go_wp2_with (first | ((with_reducible refine gate_store (t := 3) (p := 53) rfl ?_); (try (rw [drewN_self wc]; generalize hq_ : World.drewN wc _ = wc; have n0_ := Aside0.mk (Kd.R_at hq_ HO_5.out); have n1_ := Aside0.mk (Kd.R_at hq_ HO_6.out); have n2_ := Aside0.mk (below_at hq_ HB.out); clear hq_ HO_5 HO_6 HB; have HO_5 := n0_; have HO_6 := n1_; have HB := n2_; clear n0_ n1_ n2_; (try (have HP33 := Kd.R_putg HO_6.out (x27_2 : Int) t198)))); refine store_event (t := 3) (p := 53) (v := ?vo_w34) (w1 := (wc.setCell ⟨go27, (x27_2 : Int).toNat, none⟩ (.int .i64 t198))) ?hg ?ho ?hn ?hr ?_; (case ho => rfl); (case hg => rfl); (case hn => rfl); (case hr => first | (go_simp; done) | (go_simp; rfl)); intro w34 hw; have hg : wc.grownBy w34 (some go27) := (by rw [hw]; exact HP33.2); have hp_ : Kd.R (Kd.int .i64) 3 w34 w.heap.size (fun k_ => some k_ ≠ (v193 : Value).ownBlock) (.slice (some ⟨go27, 0, none⟩) x6_2.length co27) y200 := (by rw [hw, Ny200.out]; exact HP33.1); clear HP33; have n0_ := Aside0.mk (Kd.R_after (v := (.slice (some ⟨go27, 0, none⟩) x6_2.length co27)) (v1 := (.slice (some ⟨go27, 0, none⟩) x6_2.length co27)) (ok := (fun _ => True)) (by (with_reducible repeat (first | apply Kd.R_alloc | apply Kd.R_drewN | apply Kd.R_drew)); exact Kd.R_mono HO_5.out (fun _ hk => ⟨trivial, hk⟩)) hg (.inl rfl)); have n1_ := Aside0.mk (hp_); have n2_ := Aside0.mk ((by rw [hw]; exact below_set (HB.out) GB27.out : Below w.heap.size w w34)); clear HO_5; clear HO_6; clear HB; have HO_5 := n0_; have HO_6 := n1_; have HB := n2_; clear n0_ n1_ n2_; clear hg hw hp_; have p201 : 0 ≤ (x27_2 : Int) := of_decide_eq_true (by first | (with_reducible assumption) | assumption); have q201 : x27_2 < (l0.length : Int) := of_decide_eq_true (by first | (with_reducible assumption) | assumption); obtain ⟨ad201, e201, hx201_0, hx201_1, hx201_2, hx201_3, hx201_4⟩ := at_T43 HR0.out x27_2 p201 q201; cases e201; replace hx201_0 := (HB.out.cell (World.block_lt_of_cell? w _ hx201_0)).trans hx201_0; replace hx201_1 := (HB.out.cell (World.block_lt_of_cell? w _ hx201_1)).trans hx201_1; replace hx201_2 := (HB.out.cell (World.block_lt_of_cell? w _ hx201_2)).trans hx201_2; replace hx201_3 := (HB.out.cell (World.block_lt_of_cell? w _ hx201_3)).trans hx201_3; replace hx201_4 := (HB.out.cell (World.block_lt_of_cell? w _ hx201_4)).trans hx201_4; replace p201 := eq_true p201; replace q201 := eq_true q201; obtain ⟨Ao35, co35, eo35⟩ := Kd.R_slice HO_5.out; subst eo35; have p202 : 0 ≤ (((rd_T43 l0 x27_2).f0) : Int) := of_decide_eq_true (by first | (with_reducible assumption) | assumption); have q202 : ((rd_T43 l0 x27_2).f0) < (x5_2.length : Int) := of_decide_eq_true (by first | (with_reducible assumption) | assumption); obtain ⟨ad202, e202, hx202_0⟩ := Kd.at_int (Kd.R_reads' HO_5.out).2.2 ((rd_T43 l0 x27_2).f0) p202 q202; cases e202; replace p202 := eq_true p202; replace q202 := eq_true q202; have p32 : 0 ≤ (((rd_T43 l0 x27_2).f0) : Int) := of_decide_eq_true (by first | (with_reducible assumption) | assumption); have q32 : (((rd_T43 l0 x27_2).f0) : Int) < ((x5_2.length : Int) : Int) := of_decide_eq_true (by first | (with_reducible assumption) | assumption); obtain ⟨go32, co32, eo32, gb32, gl32, cl32, HG32⟩ := Kd.R_form HO_5.out (by omega); (first | cases eo32 | (injection eo32 with ea_ en_ ec_; (first | subst ea_ | (injection ea_ with ea_; subst ea_)); subst ec_; clear en_)); have GB32 := Aside0.mk gb32; have GG32 := Aside0.mk HG32; clear gb32 gl32 HG32; (first | simp only [add_plain] at hx202_0 | skip); obtain ⟨hx32_0, hf32_0⟩ := Kd.R_celln 0 HO_5.out (((rd_T43 l0 x27_2).f0) : Int) p32 q32; replace p32 := eq_true p32; replace q32 := eq_true q32; have n_ := Aside0.mk (Kd.R_mono (ok' := (fun k_ => some k_ ≠ (.slice (some ⟨go27, 0, none⟩) x6_2.length co27 : Value).ownBlock)) HO_5.out (fun k_ hk => hk.2)); clear HO_5; have HO_5 := n_; clear n_; obtain ⟨hy36_, hz36_⟩ := Kd.R_celln 0 HO_5.out (((rd_T43 l0 x27_2).f0) : Int) (of_decide_eq_true (by first | (with_reducible assumption) | assumption)) (of_decide_eq_true (by first | (with_reducible assumption) | assumption)); have HP36 := Kd.R_putg HO_5.out (((rd_T43 l0 x27_2).f0) : Int) (wrap64 ((rd x5_2 ((rd_T43 l0 x27_2).f0)) + t198))) | ((with_reducible refine gate_store (t := 3) (p := 66) rfl ?_); (try (rw [drewN_self w34]; generalize hq_ : World.drewN w34 _ = w34; have n0_ := Aside0.mk (Kd.R_at hq_ HO_5.out); have n1_ := Aside0.mk (Kd.R_at hq_ HO_6.out); have n2_ := Aside0.mk (below_at hq_ HB.out); clear hq_ HO_5 HO_6 HB; have HO_5 := n0_; have HO_6 := n1_; have HB := n2_; clear n0_ n1_ n2_; (try (have n_ := Aside0.mk (Kd.R_mono (ok' := (fun k_ => some k_ ≠ (.slice (some ⟨go27, 0, none⟩) x6_2.length co27 : Value).ownBlock)) HO_5.out (fun k_ hk => hk.2)); clear HO_5; have HO_5 := n_; clear n_)); (try (obtain ⟨hy36_, hz36_⟩ := Kd.R_celln 0 HO_5.out (((rd_T43 l0 x27_2).f0) : Int) (of_decide_eq_true (by first | (with_reducible assumption) | assumption)) (of_decide_eq_true (by first | (with_reducible assumption) | assumption)))); (try (have HP36 := Kd.R_putg HO_5.out (((rd_T43 l0 x27_2).f0) : Int) (wrap64 ((rd x5_2 ((rd_T43 l0 x27_2).f0)) + t198)))))); refine store_event (t := 3) (p := 66) (v := ?vo_w37) (w1 := (w34.setCell ⟨go32, (((rd_T43 l0 x27_2).f0) : Int).toNat, none⟩ (.int .i64 (wrap64 ((rd x5_2 ((rd_T43 l0 x27_2).f0)) + t198))))) ?hg ?ho ?hn ?hr ?_; (case ho => rfl); (case hg => rfl); (case hn => rfl); (case hr => first | (go_simp; done) | (go_simp; rfl)); intro w37 hw; have hg : w34.grownBy w37 (some go32) := (by rw [hw]; exact HP36.2); have hp_ : Kd.R (Kd.int .i64) 3 w37 w.heap.size (fun k_ => some k_ ≠ (.slice (some ⟨go27, 0, none⟩) x6_2.length co27 : Value).ownBlock) (.slice (some ⟨go32, 0, none⟩) x5_2.length co35) y203 := (by rw [hw, Ny203.out]; exact HP36.1); clear HP36; have n0_ := Aside0.mk (hp_); have n1_ := Aside0.mk (Kd.R_after (v := (.slice (some ⟨go32, 0, none⟩) x5_2.length co35)) (v1 := (.slice (some ⟨go32, 0, none⟩) x5_2.length co35)) (ok := (fun _ => True)) (by (with_reducible repeat (first | apply Kd.R_alloc | apply Kd.R_drewN | apply Kd.R_drew)); exact Kd.R_mono HO_6.out (fun _ hk => ⟨trivial, hk⟩)) hg (.inl rfl)); have n2_ := Aside0.mk ((by rw [hw]; exact below_set (HB.out) GB32.out : Below w.heap.size w w37)); clear HO_5; clear HO_6; clear HB; have HO_5 := n0_; have HO_6 := n1_; have HB := n2_; clear n0_ n1_ n2_; clear hg hw hp_)))
                                    go_roundg kj19
                                    case measure => have := HJ2.out; have := HK2.out; have := HJ19.out; omega
                                    case rel => exact ⟨(y203), (y200), (wrap64 (x27_2 + 1)), (by first | rfl | (simp; done) | (simp [*]; done)), H', ⟨by have := HJ2.out; have := HK2.out; have := HJ19.out; omega⟩, ⟨by (with_reducible repeat (first | apply Kd.R_alloc | apply Kd.R_drewN | apply Kd.R_drew)); exact HO_5.out⟩, ⟨by (with_reducible repeat (first | apply Kd.R_alloc | apply Kd.R_drewN | apply Kd.R_drew)); exact Kd.R_mono HO_6.out (fun _ hk => hk.2)⟩, ⟨by repeat (first | (with_reducible first | exact HB.out | apply below_alloc | apply pw_below_drewN | apply below_drew1) | exact HB.out)⟩⟩
                                  · rw [if_neg c31] at H
                                    exact absurd H (by simp)
                                · rw [if_neg c30] at H
                                  exact absurd H (by simp)
                              · rw [if_neg c29] at H
                                exact absurd H (by simp)
                            · rw [if_neg c28] at H
                              have c28b0 : decide (0 < x27_2) = false := decide_eq_false c28
                              clear c28
                              have H' := Aside0.mk H
                              clear H
                              have p27 : 0 ≤ (x27_2 : Int) := of_decide_eq_true (by first | (with_reducible assumption) | assumption)
                              have q27 : (x27_2 : Int) < ((x6_2.length : Int) : Int) := of_decide_eq_true (by first | (with_reducible assumption) | assumption)
                              obtain ⟨go27, co27, eo27, gb27, gl27, cl27, HG27⟩ := Kd.R_form HO_6.out (by omega)
                              (first | cases eo27 | (injection eo27 with ea_ en_ ec_; (first | subst ea_ | (injection ea_ with ea_; subst ea_)); subst ec_; clear en_))
                              have GB27 := Aside0.mk gb27
                              have GG27 := Aside0.mk HG27
                              clear gb27 gl27 HG27
                              obtain ⟨hx27_0, hf27_0⟩ := Kd.R_celln 0 HO_6.out (x27_2 : Int) p27 q27
                              replace p27 := eq_true p27
                              replace q27 := eq_true q27
                              have HP38 := Kd.R_putg HO_6.out (x27_2 : Int) t198
                              go_wp2_with (first | ((with_reducible refine gate_store (t := 3) (p := 53) rfl ?_); (try (rw [drewN_self wc]; generalize hq_ : World.drewN wc _ = wc; have n0_ := Aside0.mk (Kd.R_at hq_ HO_5.out); have n1_ := Aside0.mk (Kd.R_at hq_ HO_6.out); have n2_ := Aside0.mk (below_at hq_ HB.out); clear hq_ HO_5 HO_6 HB; have HO_5 := n0_; have HO_6 := n1_; have HB := n2_; clear n0_ n1_ n2_; (try (have HP38 := Kd.R_putg HO_6.out (x27_2 : Int) t198)))); refine store_event (t := 3) (p := 53) (v := ?vo_w39) (w1 := (wc.setCell ⟨go27, (x27_2 : Int).toNat, none⟩ (.int .i64 t198))) ?hg ?ho ?hn ?hr ?_; (case ho => rfl); (case hg => rfl); (case hn => rfl); (case hr => first | (go_simp; done) | (go_simp; rfl)); intro w39 hw; have hg : wc.grownBy w39 (some go27) := (by rw [hw]; exact HP38.2); have hp_ : Kd.R (Kd.int .i64) 3 w39 w.heap.size (fun k_ => some k_ ≠ (v193 : Value).ownBlock) (.slice (some ⟨go27, 0, none⟩) x6_2.length co27) y200 := (by rw [hw, Ny200.out]; exact HP38.1); clear HP38; have n0_ := Aside0.mk (Kd.R_after (v := (.slice (some ⟨go27, 0, none⟩) x6_2.length co27)) (v1 := (.slice (some ⟨go27, 0, none⟩) x6_2.length co27)) (ok := (fun _ => True)) (by (with_reducible repeat (first | apply Kd.R_alloc | apply Kd.R_drewN | apply Kd.R_drew)); exact Kd.R_mono HO_5.out (fun _ hk => ⟨trivial, hk⟩)) hg (.inl rfl)); have n1_ := Aside0.mk (hp_); have n2_ := Aside0.mk ((by rw [hw]; exact below_set (HB.out) GB27.out : Below w.heap.size w w39)); clear HO_5; clear HO_6; clear HB; have HO_5 := n0_; have HO_6 := n1_; have HB := n2_; clear n0_ n1_ n2_; clear hg hw hp_))
                              repeat (go_quiet (first | ((with_reducible refine gate_store (t := 3) (p := 53) rfl ?_); (try (rw [drewN_self wc]; generalize hq_ : World.drewN wc _ = wc; have n0_ := Aside0.mk (Kd.R_at hq_ HO_5.out); have n1_ := Aside0.mk (Kd.R_at hq_ HO_6.out); have n2_ := Aside0.mk (below_at hq_ HB.out); clear hq_ HO_5 HO_6 HB; have HO_5 := n0_; have HO_6 := n1_; have HB := n2_; clear n0_ n1_ n2_; (try (have HP38 := Kd.R_putg HO_6.out (x27_2 : Int) t198)))); refine store_event (t := 3) (p := 53) (v := ?vo_w39) (w1 := (wc.setCell ⟨go27, (x27_2 : Int).toNat, none⟩ (.int .i64 t198))) ?hg ?ho ?hn ?hr ?_; (case ho => rfl); (case hg => rfl); (case hn => rfl); (case hr => first | (go_simp; done) | (go_simp; rfl)); intro w39 hw; have hg : wc.grownBy w39 (some go27) := (by rw [hw]; exact HP38.2); have hp_ : Kd.R (Kd.int .i64) 3 w39 w.heap.size (fun k_ => some k_ ≠ (v193 : Value).ownBlock) (.slice (some ⟨go27, 0, none⟩) x6_2.length co27) y200 := (by rw [hw, Ny200.out]; exact HP38.1); clear HP38; have n0_ := Aside0.mk (Kd.R_after (v := (.slice (some ⟨go27, 0, none⟩) x6_2.length co27)) (v1 := (.slice (some ⟨go27, 0, none⟩) x6_2.length co27)) (ok := (fun _ => True)) (by (with_reducible repeat (first | apply Kd.R_alloc | apply Kd.R_drewN | apply Kd.R_drew)); exact Kd.R_mono HO_5.out (fun _ hk => ⟨trivial, hk⟩)) hg (.inl rfl)); have n1_ := Aside0.mk (hp_); have n2_ := Aside0.mk ((by rw [hw]; exact below_set (HB.out) GB27.out : Below w.heap.size w w39)); clear HO_5; clear HO_6; clear HB; have HO_5 := n0_; have HO_6 := n1_; have HB := n2_; clear n0_ n1_ n2_; clear hg hw hp_)); try go_wp2_with (first | ((with_reducible refine gate_store (t := 3) (p := 53) rfl ?_); (try (rw [drewN_self wc]; generalize hq_ : World.drewN wc _ = wc; have n0_ := Aside0.mk (Kd.R_at hq_ HO_5.out); have n1_ := Aside0.mk (Kd.R_at hq_ HO_6.out); have n2_ := Aside0.mk (below_at hq_ HB.out); clear hq_ HO_5 HO_6 HB; have HO_5 := n0_; have HO_6 := n1_; have HB := n2_; clear n0_ n1_ n2_; (try (have HP38 := Kd.R_putg HO_6.out (x27_2 : Int) t198)))); refine store_event (t := 3) (p := 53) (v := ?vo_w39) (w1 := (wc.setCell ⟨go27, (x27_2 : Int).toNat, none⟩ (.int .i64 t198))) ?hg ?ho ?hn ?hr ?_; (case ho => rfl); (case hg => rfl); (case hn => rfl); (case hr => first | (go_simp; done) | (go_simp; rfl)); intro w39 hw; have hg : wc.grownBy w39 (some go27) := (by rw [hw]; exact HP38.2); have hp_ : Kd.R (Kd.int .i64) 3 w39 w.heap.size (fun k_ => some k_ ≠ (v193 : Value).ownBlock) (.slice (some ⟨go27, 0, none⟩) x6_2.length co27) y200 := (by rw [hw, Ny200.out]; exact HP38.1); clear HP38; have n0_ := Aside0.mk (Kd.R_after (v := (.slice (some ⟨go27, 0, none⟩) x6_2.length co27)) (v1 := (.slice (some ⟨go27, 0, none⟩) x6_2.length co27)) (ok := (fun _ => True)) (by (with_reducible repeat (first | apply Kd.R_alloc | apply Kd.R_drewN | apply Kd.R_drew)); exact Kd.R_mono HO_5.out (fun _ hk => ⟨trivial, hk⟩)) hg (.inl rfl)); have n1_ := Aside0.mk (hp_); have n2_ := Aside0.mk ((by rw [hw]; exact below_set (HB.out) GB27.out : Below w.heap.size w w39)); clear HO_5; clear HO_6; clear HB; have HO_5 := n0_; have HO_6 := n1_; have HB := n2_; clear n0_ n1_ n2_; clear hg hw hp_)))
                              go_roundg kj19
                              case measure => have := HJ2.out; have := HK2.out; have := HJ19.out; omega
                              case rel => exact ⟨(x5_2), (y200), (wrap64 (x27_2 + 1)), (by first | rfl | (simp; done) | (simp [*]; done)), H', ⟨by have := HJ2.out; have := HK2.out; have := HJ19.out; omega⟩, ⟨by (with_reducible repeat (first | apply Kd.R_alloc | apply Kd.R_drewN | apply Kd.R_drew)); exact Kd.R_mono HO_5.out (fun _ hk => hk.2)⟩, ⟨by (with_reducible repeat (first | apply Kd.R_alloc | apply Kd.R_drewN | apply Kd.R_drew)); exact HO_6.out⟩, ⟨by repeat (first | (with_reducible first | exact HB.out | apply below_alloc | apply pw_below_drewN | apply below_drew1) | exact HB.out)⟩⟩
                          · rw [if_neg c26] at H
                            exact absurd H (by simp)
                        · rw [if_neg c25] at H
                          exact absurd H (by simp)
                · rw [if_neg c18] at H
                  have c18b0 : decide (x27_2 < (l0.length : Int)) = false := decide_eq_false c18
                  clear c18
                  by_cases c40 : 0 < (l0.length : Int)
                  · rw [if_pos c40] at H
                    have c40b0 : decide (0 < (l0.length : Int)) = true := decide_eq_true c40
                    have c40b1 : decide (0 < l0.length) = true := decide_eq_true (by omega)
                    clear c40
                    by_cases c41 : ((rd_T43 l0 0).f1) = 0
                    · rw [if_pos c41] at H
                      have c41b0 : (((rd_T43 l0 0).f1) == 0) = true := beq_iff_eq.mpr c41
                      have c41b1 : (((rd_T43 l0 0).f1) != 0) = false := bne_eq_false_iff_eq.mpr c41
                      clear c41
                      by_cases c42 : 0 < (x6_2.length : Int)
                      · rw [if_pos c42] at H
                        have c42b0 : decide (0 < (x6_2.length : Int)) = true := decide_eq_true c42
                        have c42b1 : decide (0 < x6_2.length) = true := decide_eq_true (by omega)
                        clear c42
                        obtain rfl := Option.some.inj H
                        have p204 : 0 ≤ (0 : Int) := (by omega)
                        have q204 : 0 < (l0.length : Int) := of_decide_eq_true (by first | (with_reducible assumption) | assumption)
                        obtain ⟨ad204, e204, hx204_0, hx204_1, hx204_2, hx204_3, hx204_4⟩ := at_T43 HR0.out 0 p204 q204
                        cases e204
                        have qi204 : (0 < l0.length) = True := eq_true (by omega)
                        (try rw [show ((0 : Int)).toNat = 0 from rfl] at hx204_0)
                        (try rw [show 0 * 5 = 0 from rfl] at hx204_0)
                        (try rw [Addr.add_zero'] at hx204_0)
                        (try rw [show ((0 : Int)).toNat = 0 from rfl] at hx204_1)
                        (try rw [show 0 * 5 = 0 from rfl] at hx204_1)
                        (try rw [Addr.add_zero'] at hx204_1)
                        (try rw [show ((0 : Int)).toNat = 0 from rfl] at hx204_2)
                        (try rw [show 0 * 5 = 0 from rfl] at hx204_2)
                        (try rw [Addr.add_zero'] at hx204_2)
                        (try rw [show ((0 : Int)).toNat = 0 from rfl] at hx204_3)
                        (try rw [show 0 * 5 = 0 from rfl] at hx204_3)
                        (try rw [Addr.add_zero'] at hx204_3)
                        (try rw [show ((0 : Int)).toNat = 0 from rfl] at hx204_4)
                        (try rw [show 0 * 5 = 0 from rfl] at hx204_4)
                        (try rw [Addr.add_zero'] at hx204_4)
                        replace hx204_0 := (HB.out.cell (World.block_lt_of_cell? w _ hx204_0)).trans hx204_0
                        replace hx204_1 := (HB.out.cell (World.block_lt_of_cell? w _ hx204_1)).trans hx204_1
                        replace hx204_2 := (HB.out.cell (World.block_lt_of_cell? w _ hx204_2)).trans hx204_2
                        replace hx204_3 := (HB.out.cell (World.block_lt_of_cell? w _ hx204_3)).trans hx204_3
                        replace hx204_4 := (HB.out.cell (World.block_lt_of_cell? w _ hx204_4)).trans hx204_4
                        replace p204 := eq_true p204
                        replace q204 := eq_true q204
                        obtain ⟨Ao43, co43, eo43⟩ := Kd.R_slice HO_6.out
                        subst eo43
                        have p205 : 0 ≤ (0 : Int) := (by omega)
                        have q205 : 0 < (x6_2.length : Int) := of_decide_eq_true (by first | (with_reducible assumption) | assumption)
                        obtain ⟨ad205, e205, hx205_0⟩ := Kd.at_int (Kd.R_reads' HO_6.out).2.2 0 p205 q205
                        cases e205
                        have qi205 : (0 < x6_2.length) = True := eq_true (by omega)
                        (try rw [show ((0 : Int)).toNat = 0 from rfl] at hx205_0)
                        (try rw [Addr.add_zero'] at hx205_0)
                        replace p205 := eq_true p205
                        replace q205 := eq_true q205
                        go_wp2
                        repeat (go_quiet (fail); try go_wp2)
                        go_ret
                        exact ⟨by first | rfl | (simp [errW_none, errW_some] <;> rfl) | (simp [*, errW_none, errW_some] <;> rfl), by repeat (first | (with_reducible first | exact HB.out | apply below_alloc | apply pw_below_drewN | apply below_drew1) | exact HB.out)⟩
                      · rw [if_neg c42] at H
                        exact absurd H (by simp)
                    · rw [if_neg c41] at H
                      have c41b0 : (((rd_T43 l0 0).f1) == 0) = false := beq_eq_false_iff_ne.mpr c41
                      have c41b1 : (((rd_T43 l0 0).f1) != 0) = true := bne_iff_ne.mpr c41
                      have H' := Aside0.mk H
                      clear H
                      have p204 : 0 ≤ (0 : Int) := (by omega)
                      have q204 : 0 < (l0.length : Int) := of_decide_eq_true (by first | (with_reducible assumption) | assumption)
                      obtain ⟨ad204, e204, hx204_0, hx204_1, hx204_2, hx204_3, hx204_4⟩ := at_T43 HR0.out 0 p204 q204
                      cases e204
                      have qi204 : (0 < l0.length) = True := eq_true (by omega)
                      (try rw [show ((0 : Int)).toNat = 0 from rfl] at hx204_0)
                      (try rw [show 0 * 5 = 0 from rfl] at hx204_0)
                      (try rw [Addr.add_zero'] at hx204_0)
                      (try rw [show ((0 : Int)).toNat = 0 from rfl] at hx204_1)
                      (try rw [show 0 * 5 = 0 from rfl] at hx204_1)
                      (try rw [Addr.add_zero'] at hx204_1)
                      (try rw [show ((0 : Int)).toNat = 0 from rfl] at hx204_2)
                      (try rw [show 0 * 5 = 0 from rfl] at hx204_2)
                      (try rw [Addr.add_zero'] at hx204_2)
                      (try rw [show ((0 : Int)).toNat = 0 from rfl] at hx204_3)
                      (try rw [show 0 * 5 = 0 from rfl] at hx204_3)
                      (try rw [Addr.add_zero'] at hx204_3)
                      (try rw [show ((0 : Int)).toNat = 0 from rfl] at hx204_4)
                      (try rw [show 0 * 5 = 0 from rfl] at hx204_4)
                      (try rw [Addr.add_zero'] at hx204_4)
                      replace hx204_0 := (HB.out.cell (World.block_lt_of_cell? w _ hx204_0)).trans hx204_0
                      replace hx204_1 := (HB.out.cell (World.block_lt_of_cell? w _ hx204_1)).trans hx204_1
                      replace hx204_2 := (HB.out.cell (World.block_lt_of_cell? w _ hx204_2)).trans hx204_2
                      replace hx204_3 := (HB.out.cell (World.block_lt_of_cell? w _ hx204_3)).trans hx204_3
                      replace hx204_4 := (HB.out.cell (World.block_lt_of_cell? w _ hx204_4)).trans hx204_4
                      replace p204 := eq_true p204
                      replace q204 := eq_true q204
                      obtain ⟨Ao44, co44, eo44⟩ := Kd.R_slice HO_5.out
                      subst eo44
                      go_wp2
                      repeat (go_quiet (fail); try go_wp2)
                      go_loopg [81] k2 (fun kq v81 w' => ∃ (x81_3 : Int), v81 = .int .i64 x81_3 ∧ Aside0 (estoverslaw30_ThrottleSum.l1 kq a1 x5_2 x6_2 (x5_2.length : Int) x81_3 = some r) ∧ Aside0 (kq ≤ k2) ∧ Aside0 (Kd.R (Kd.int .i64) 3 w' w.heap.size (fun k_ => some k_ ≠ (v196 : Value).ownBlock) (.slice Ao44 x5_2.length co44) x5_2) ∧ Aside0 (Kd.R (Kd.int .i64) 3 w' w.heap.size (fun k_ => some k_ ≠ ((.slice Ao44 x5_2.length co44) : Value).ownBlock) v196 x6_2) ∧ Aside0 (Below w.heap.size w w'))
                      case atStart => exact ⟨(0), (by first | rfl | (simp; done) | (simp [*]; done)), H', ⟨Nat.le_refl _⟩, ⟨by (with_reducible repeat (first | apply Kd.R_alloc | apply Kd.R_drewN | apply Kd.R_drew)); exact HO_5.out⟩, ⟨by (with_reducible repeat (first | apply Kd.R_alloc | apply Kd.R_drewN | apply Kd.R_drew)); exact HO_6.out⟩, ⟨by repeat (first | (with_reducible first | exact HB.out | apply below_alloc | apply pw_below_drewN | apply below_drew1) | exact HB.out)⟩⟩
                      case round =>
                        clear H'
                        try clear c1
                        try clear c2
                        try clear p2
                        try clear q2
                        try clear hx2
                        try clear qi2
                        try clear hf2
                        try clear c3
                        try clear p3
                        try clear q3
                        try clear hx3
                        try clear hf3
                        try clear c4
                        try clear c5
                        try clear p6
                        try clear c7
                        try clear c9
                        try clear c12
                        try clear c12b0
                        try clear c12b1
                        try clear c13
                        try clear c13b0
                        try clear c13b1
                        try clear c18
                        try clear c18b0
                        try clear p20
                        try clear q20
                        try clear hx20
                        try clear qi20
                        try clear c22
                        try clear c22b0
                        try clear c22b1
                        try clear c23
                        try clear c23b0
                        try clear c24
                        try clear c25
                        try clear c25b0
                        try clear c26
                        try clear c26b0
                        try clear p27
                        try clear q27
                        try clear hx27
                        try clear hf27
                        try clear c28
                        try clear c28b0
                        try clear c29
                        try clear c29b0
                        try clear c30
                        try clear c30b0
                        try clear c31
                        try clear c31b0
                        try clear p32
                        try clear q32
                        try clear hx32
                        try clear hf32
                        try clear c40
                        try clear c40b0
                        try clear c40b1
                        try clear c41
                        try clear c41b0
                        try clear c41b1
                        try clear c42
                        try clear c42b0
                        try clear c42b1
                        try clear hx201_0
                        try clear hx201_1
                        try clear hx201_2
                        try clear hx201_3
                        try clear hx201_4
                        try clear hx202_0
                        try clear hx204_0
                        try clear hx204_1
                        try clear hx204_2
                        try clear hx204_3
                        try clear hx204_4
                        try clear hx205_0
                        try clear hx27_0
                        try clear hx32_0
                        try clear p2
                        try clear p201
                        try clear p202
                        try clear p204
                        try clear p205
                        try clear p27
                        try clear p32
                        try clear p6
                        try clear q201
                        try clear q202
                        try clear q204
                        try clear q205
                        try clear q27
                        try clear q32
                        obtain ⟨x81_3, rfl, HA, HK3, HO_5, HO_6, HB⟩ := hrel
                        cases gk with
                        | zero => exact absurd HA.out (by simp [estoverslaw30_ThrottleSum.l1])
                        | succ k3 =>
                          have H := HA.out
                          clear HA
                          simp only [estoverslaw30_ThrottleSum.l1] at H
                          by_cases c45 : x81_3 < (x5_2.length : Int)
                          · rw [if_pos c45] at H
                            have c45b0 : decide (x81_3 < (x5_2.length : Int)) = true := decide_eq_true c45
                            clear c45
                            by_cases c46 : 0 ≤ x81_3
                            · rw [if_pos c46] at H
                              have c46b0 : decide (0 ≤ x81_3) = true := decide_eq_true c46
                              clear c46
                              by_cases c47 : x81_3 < (x5_2.length : Int)
                              · rw [if_pos c47] at H
                                have c47b0 : decide (x81_3 < (x5_2.length : Int)) = true := decide_eq_true c47
                                clear c47
                                by_cases c48 : x81_3 < (x6_2.length : Int)
                                · rw [if_pos c48] at H
                                  have c48b0 : decide (x81_3 < (x6_2.length : Int)) = true := decide_eq_true c48
                                  clear c48
                                  by_cases c49 : (rd x5_2 x81_3) > (rd x6_2 x81_3)
                                  · rw [if_pos c49] at H
                                    exact absurd H (by simp)
                                  · rw [if_neg c49] at H
                                    have c49b0 : decide ((rd x6_2 x81_3) < (rd x5_2 x81_3)) = false := decide_eq_false c49
                                    clear c49
                                    have H' := Aside0.mk H
                                    clear H
                                    have p206 : 0 ≤ (x81_3 : Int) := of_decide_eq_true (by first | (with_reducible assumption) | assumption)
                                    have q206 : x81_3 < (x5_2.length : Int) := of_decide_eq_true (by first | (with_reducible assumption) | assumption)
                                    obtain ⟨ad206, e206, hx206_0⟩ := Kd.at_int (Kd.R_reads' HO_5.out).2.2 x81_3 p206 q206
                                    cases e206
                                    replace p206 := eq_true p206
                                    replace q206 := eq_true q206
                                    obtain ⟨Ao50, co50, eo50⟩ := Kd.R_slice HO_6.out
                                    subst eo50
                                    have p207 : 0 ≤ (x81_3 : Int) := of_decide_eq_true (by first | (with_reducible assumption) | assumption)
                                    have q207 : x81_3 < (x6_2.length : Int) := of_decide_eq_true (by first | (with_reducible assumption) | assumption)
                                    obtain ⟨ad207, e207, hx207_0⟩ := Kd.at_int (Kd.R_reads' HO_6.out).2.2 x81_3 p207 q207
                                    cases e207
                                    replace p207 := eq_true p207
                                    replace q207 := eq_true q207
                                    go_wp2
                                    repeat (go_quiet (fail); try go_wp2)
                                    go_roundg k3
                                    case measure => have := HJ2.out; have := HK2.out; have := HK3.out; omega
                                    case rel => exact ⟨(wrap64 (x81_3 + 1)), (by first | rfl | (simp; done) | (simp [*]; done)), H', ⟨by have := HJ2.out; have := HK2.out; have := HK3.out; omega⟩, ⟨by (with_reducible repeat (first | apply Kd.R_alloc | apply Kd.R_drewN | apply Kd.R_drew)); exact HO_5.out⟩, ⟨by (with_reducible repeat (first | apply Kd.R_alloc | apply Kd.R_drewN | apply Kd.R_drew)); exact HO_6.out⟩, ⟨by repeat (first | (with_reducible first | exact HB.out | apply below_alloc | apply pw_below_drewN | apply below_drew1) | exact HB.out)⟩⟩
                                · rw [if_neg c48] at H
                                  exact absurd H (by simp)
                              · rw [if_neg c47] at H
                                exact absurd H (by simp)
                            · rw [if_neg c46] at H
                              exact absurd H (by simp)
                          · rw [if_neg c45] at H
                            have c45b0 : decide (x81_3 < (x5_2.length : Int)) = false := decide_eq_false c45
                            clear c45
                            by_cases c51 : 0 < (x6_2.length : Int)
                            · rw [if_pos c51] at H
                              have c51b0 : decide (0 < (x6_2.length : Int)) = true := decide_eq_true c51
                              have c51b1 : decide (0 < x6_2.length) = true := decide_eq_true (by omega)
                              clear c51
                              obtain rfl := Option.some.inj H
                              obtain ⟨Ao52, co52, eo52⟩ := Kd.R_slice HO_6.out
                              subst eo52
                              have p208 : 0 ≤ (0 : Int) := (by omega)
                              have q208 : 0 < (x6_2.length : Int) := of_decide_eq_true (by first | (with_reducible assumption) | assumption)
                              obtain ⟨ad208, e208, hx208_0⟩ := Kd.at_int (Kd.R_reads' HO_6.out).2.2 0 p208 q208
                              cases e208
                              have qi208 : (0 < x6_2.length) = True := eq_true (by omega)
                              (try rw [show ((0 : Int)).toNat = 0 from rfl] at hx208_0)
                              (try rw [Addr.add_zero'] at hx208_0)
                              replace p208 := eq_true p208
                              replace q208 := eq_true q208
                              go_wp2
                              repeat (go_quiet (fail); try go_wp2)
                              go_ret
                              exact ⟨by first | rfl | (simp [errW_none, errW_some] <;> rfl) | (simp [*, errW_none, errW_some] <;> rfl), by repeat (first | (with_reducible first | exact HB.out | apply below_alloc | apply pw_below_drewN | apply below_drew1) | exact HB.out)⟩
                            · rw [if_neg c51] at H
                              exact absurd H (by simp)
                  · rw [if_neg c40] at H
                    exact absurd H (by simp)
          · rw [if_neg c13] at H
            exact absurd H (by simp)
        · rw [if_neg c12] at H
          exact absurd H (by simp)

end Go.Proofs.Ytpomppjeknmciaa.PThrottleSum
