-- Printed by a copy of the kit's printer that this session has patched (wip/tools/patch_print.py): the session's own text. Lean checks it.
import Derived.Test.YtpomppjeknmciaaPThrottleLimitsx0
import Derived.Test.YtpomppjeknmciaaPThrottleLimitsx1
import Derived.Test.YtpomppjeknmciaaPThrottleLimitsx4
import Derived.Test.YtpomppjeknmciaaPThrottleLimitsx5
namespace Go.Proofs.Ytpomppjeknmciaa.PThrottleLimits
open Go.RowKit Go.Proofs.YtpomppjeknmciaaW.PrintWords Go.Proofs.YtpomppjeknmciaaW.PrintLast Go.Proofs.YtpomppjeknmciaaW.PrintMore
attribute [local go_sem] max2_int min2_int max_two min_two max_three min_three max_four min_four   -- for this text's walks alone
set_option linter.unusedVariables false
set_option linter.unusedSimpArgs false

/-! ### estoverslaw30_ThrottleLimits: function 6 -/
mutual
def estoverslaw30_ThrottleLimits.j0 : Nat → List Int → Int → Bool → Option (Bool)
  | 0, _, _, _ => none
  | k + 1, x0, x1, x17 => if x17 = true then ((estoverslaw30_awake.f k).bind fun t169 => (some t169)) else (if 20 ≤ 1954687338268 then ((some (List.replicate 20 z35 : List (S35))).bind fun y170 => (estoverslaw30_ThrottleLimits.l0 k x0 x1 y170 (y170.length : Int) 0)) else (none))
def estoverslaw30_ThrottleLimits.l0 : Nat → List Int → Int → List (S35) → Int → Int → Option (Bool)
  | 0, _, _, _, _, _ => none
  | k + 1, x0, x1, x5, x21, x22 => if x22 < x21 then (if 0 ≤ x22 then (if x22 < (x5.length : Int) then (estoverslaw30_ThrottleLimits.l0 k x0 x1 (x5.set (x22 : Int).toNat (⟨4, (rd_T35 x5 x22).f1, (rd_T35 x5 x22).f2, (rd_T35 x5 x22).f3, (rd_T35 x5 x22).f4, (rd_T35 x5 x22).f5, (rd_T35 x5 x22).f6, (rd_T35 x5 x22).f7, (rd_T35 x5 x22).f8, (rd_T35 x5 x22).f9, (rd_T35 x5 x22).f10, (rd_T35 x5 x22).f11, (rd_T35 x5 x22).f12, (rd_T35 x5 x22).f13, (rd_T35 x5 x22).f14, (rd_T35 x5 x22).f15⟩ : S35)) x21 (wrap64 (x22 + 1))) else (none)) else (none)) else (estoverslaw30_ThrottleLimits.l1 k x1 x5 x0 (x0.length : Int) 0)
def estoverslaw30_ThrottleLimits.l1 : Nat → Int → List (S35) → List Int → Int → Int → Option (Bool)
  | 0, _, _, _, _, _ => none
  | k + 1, x1, x5, x30, x31, x32 => if x32 < x31 then (if 0 ≤ x32 then (if x32 < (x30.length : Int) then (if (rd x30 x32) ≥ 160 then (if 0 ≤ (wrap64 (Int.tmod (rd x30 x32) 20)) then (if (wrap64 (Int.tmod (rd x30 x32) 20)) < (x5.length : Int) then (estoverslaw30_ThrottleLimits.j3 k x1 x5 (rd x30 x32) (wrap64 (Int.tmod (rd x30 x32) 20)) x30 x31 x32 ((rd_T35 x5 (wrap64 (Int.tmod (rd x30 x32) 20))).f10)) else (none)) else (none)) else (estoverslaw30_ThrottleLimits.j3 k x1 x5 (rd x30 x32) (wrap64 (Int.tmod (rd x30 x32) 20)) x30 x31 x32 false)) else (none)) else (none)) else (some true)
def estoverslaw30_ThrottleLimits.j4 : Nat → Int → List (S35) → List Int → Int → Int → Option (Bool)
  | 0, _, _, _, _, _ => none
  | k + 1, x1, x5, x30, x31, x32 => (throttle_Count.f k x5).bind fun t181 => (if t181 < 0 then (none) else (if t181 > (wrap64 (x1)) then (none) else ((throttle_Background.f t181 (wrap64 (x1))).bind fun t182 => (if t182 = true then (estoverslaw30_ThrottleLimits.l1 k x1 x5 x30 x31 (wrap64 (x32 + 1))) else (if x1 > 0 then ((throttle_Allowed.f k x5 (wrap64 (x1))).bind fun t183 => (if t183 = true then (estoverslaw30_ThrottleLimits.l1 k x1 x5 x30 x31 (wrap64 (x32 + 1))) else (none))) else (estoverslaw30_ThrottleLimits.l1 k x1 x5 x30 x31 (wrap64 (x32 + 1))))))))
def estoverslaw30_ThrottleLimits.j3 : Nat → Int → List (S35) → Int → Int → List Int → Int → Int → Bool → Option (Bool)
  | 0, _, _, _, _, _, _, _, _ => none
  | k + 1, x1, x5, x8, x9, x30, x31, x32, x39 => if x39 = true then (if 0 ≤ x9 then (if x9 < (x5.length : Int) then (estoverslaw30_ThrottleLimits.j4 k x1 (x5.set (x9 : Int).toNat (⟨(rd_T35 x5 x9).f0, 4, (rd_T35 x5 x9).f2, (rd_T35 x5 x9).f3, (rd_T35 x5 x9).f4, (rd_T35 x5 x9).f5, (rd_T35 x5 x9).f6, (rd_T35 x5 x9).f7, (rd_T35 x5 x9).f8, (rd_T35 x5 x9).f9, (rd_T35 x5 x9).f10, (rd_T35 x5 x9).f11, (rd_T35 x5 x9).f12, (rd_T35 x5 x9).f13, (rd_T35 x5 x9).f14, (rd_T35 x5 x9).f15⟩ : S35)) x30 x31 x32) else (none)) else (none)) else (if x8 ≥ 80 then (if 0 ≤ x9 then (if x9 < (x5.length : Int) then ((some (x5.set (x9 : Int).toNat (⟨(rd_T35 x5 x9).f0, (rd_T35 x5 x9).f1, (rd_T35 x5 x9).f2, (rd_T35 x5 x9).f3, (rd_T35 x5 x9).f4, (rd_T35 x5 x9).f5, (rd_T35 x5 x9).f6, (rd_T35 x5 x9).f7, (rd_T35 x5 x9).f8, (rd_T35 x5 x9).f9, false, (rd_T35 x5 x9).f11, (rd_T35 x5 x9).f12, (rd_T35 x5 x9).f13, (rd_T35 x5 x9).f14, (rd_T35 x5 x9).f15⟩ : S35) : List (S35))).bind fun y177 => (estoverslaw30_ThrottleLimits.j4 k x1 (y177.set (x9 : Int).toNat (⟨(rd_T35 y177 x9).f0, 0, (rd_T35 y177 x9).f2, (rd_T35 y177 x9).f3, (rd_T35 y177 x9).f4, (rd_T35 y177 x9).f5, (rd_T35 y177 x9).f6, (rd_T35 y177 x9).f7, (rd_T35 y177 x9).f8, (rd_T35 y177 x9).f9, (rd_T35 y177 x9).f10, (rd_T35 y177 x9).f11, (rd_T35 y177 x9).f12, (rd_T35 y177 x9).f13, (rd_T35 y177 x9).f14, (rd_T35 y177 x9).f15⟩ : S35)) x30 x31 x32)) else (none)) else (none)) else ((throttle_Allowed.f k x5 (wrap64 (x1))).bind fun t179 => (if t179 = true then (if 0 ≤ x9 then (if x9 < (x5.length : Int) then (estoverslaw30_ThrottleLimits.j4 k x1 (x5.set (x9 : Int).toNat (⟨(rd_T35 x5 x9).f0, (rd_T35 x5 x9).f1, (rd_T35 x5 x9).f2, (rd_T35 x5 x9).f3, (rd_T35 x5 x9).f4, (rd_T35 x5 x9).f5, (rd_T35 x5 x9).f6, (rd_T35 x5 x9).f7, (rd_T35 x5 x9).f8, (rd_T35 x5 x9).f9, true, (rd_T35 x5 x9).f11, (rd_T35 x5 x9).f12, (rd_T35 x5 x9).f13, (rd_T35 x5 x9).f14, (rd_T35 x5 x9).f15⟩ : S35)) x30 x31 x32) else (none)) else (none)) else (estoverslaw30_ThrottleLimits.j4 k x1 x5 x30 x31 x32))))
end
def estoverslaw30_ThrottleLimits.f (k : Nat) (l0 : List Int) (a1 : Int) : Option (Bool) := (estoverslaw30_awake.f k).bind fun t168 => (if t168 = true then (estoverslaw30_ThrottleLimits.j0 k l0 a1 (decide ((l0.length : Int) > 100))) else (estoverslaw30_ThrottleLimits.j0 k l0 a1 true))
theorem estoverslaw30_ThrottleLimits.mono_l : ∀ k, (∀ y0 y1 y2, LeO (estoverslaw30_ThrottleLimits.j0 k y0 y1 y2) (estoverslaw30_ThrottleLimits.j0 (k + 1) y0 y1 y2)) ∧ (∀ y0 y1 y2 y3 y4, LeO (estoverslaw30_ThrottleLimits.l0 k y0 y1 y2 y3 y4) (estoverslaw30_ThrottleLimits.l0 (k + 1) y0 y1 y2 y3 y4)) ∧ (∀ y0 y1 y2 y3 y4, LeO (estoverslaw30_ThrottleLimits.l1 k y0 y1 y2 y3 y4) (estoverslaw30_ThrottleLimits.l1 (k + 1) y0 y1 y2 y3 y4)) ∧ (∀ y0 y1 y2 y3 y4, LeO (estoverslaw30_ThrottleLimits.j4 k y0 y1 y2 y3 y4) (estoverslaw30_ThrottleLimits.j4 (k + 1) y0 y1 y2 y3 y4)) ∧ (∀ y0 y1 y2 y3 y4 y5 y6 y7, LeO (estoverslaw30_ThrottleLimits.j3 k y0 y1 y2 y3 y4 y5 y6 y7) (estoverslaw30_ThrottleLimits.j3 (k + 1) y0 y1 y2 y3 y4 y5 y6 y7))
  | 0 => ⟨fun _ _ _ r h => by simp [estoverslaw30_ThrottleLimits.j0] at h, fun _ _ _ _ _ r h => by simp [estoverslaw30_ThrottleLimits.l0] at h, fun _ _ _ _ _ r h => by simp [estoverslaw30_ThrottleLimits.l1] at h, fun _ _ _ _ _ r h => by simp [estoverslaw30_ThrottleLimits.j4] at h, fun _ _ _ _ _ _ _ _ r h => by simp [estoverslaw30_ThrottleLimits.j3] at h⟩
  | k + 1 => by
    obtain ⟨ih0, ih1, ih2, ih3, ih4⟩ := estoverslaw30_ThrottleLimits.mono_l k
    refine ⟨?_, ?_, ?_, ?_, ?_⟩
    · intro y0 y1 y2
      unfold estoverslaw30_ThrottleLimits.j0
      repeat' first
      | (with_reducible exact ih0 _ _ _)
      | (with_reducible exact ih1 _ _ _ _ _)
      | (with_reducible exact ih2 _ _ _ _ _)
      | (with_reducible exact ih3 _ _ _ _ _)
      | (with_reducible exact ih4 _ _ _ _ _ _ _ _)
      | (with_reducible exact estoverslaw30_awake.mono _)
      | (with_reducible exact throttle_Allowed.mono _ _ _)
      | (with_reducible exact throttle_Count.mono _ _)
      | (with_reducible exact LeO.refl _)
      | (with_reducible exact LeO.none _)
      | (with_reducible refine LeO.ite ?_ ?_)
      | (with_reducible refine LeO.bind ?_ (fun _ => ?_))
      | exact ih0 _ _ _
      | exact ih1 _ _ _ _ _
      | exact ih2 _ _ _ _ _
      | exact ih3 _ _ _ _ _
      | exact ih4 _ _ _ _ _ _ _ _
      | exact estoverslaw30_awake.mono _
      | exact throttle_Allowed.mono _ _ _
      | exact throttle_Count.mono _ _
      | exact LeO.none _
      | refine LeO.ite ?_ ?_
      | refine LeO.bind ?_ (fun _ => ?_)
    · intro y0 y1 y2 y3 y4
      unfold estoverslaw30_ThrottleLimits.l0
      repeat' first
      | (with_reducible exact ih0 _ _ _)
      | (with_reducible exact ih1 _ _ _ _ _)
      | (with_reducible exact ih2 _ _ _ _ _)
      | (with_reducible exact ih3 _ _ _ _ _)
      | (with_reducible exact ih4 _ _ _ _ _ _ _ _)
      | (with_reducible exact estoverslaw30_awake.mono _)
      | (with_reducible exact throttle_Allowed.mono _ _ _)
      | (with_reducible exact throttle_Count.mono _ _)
      | (with_reducible exact LeO.refl _)
      | (with_reducible exact LeO.none _)
      | (with_reducible refine LeO.ite ?_ ?_)
      | (with_reducible refine LeO.bind ?_ (fun _ => ?_))
      | exact ih0 _ _ _
      | exact ih1 _ _ _ _ _
      | exact ih2 _ _ _ _ _
      | exact ih3 _ _ _ _ _
      | exact ih4 _ _ _ _ _ _ _ _
      | exact estoverslaw30_awake.mono _
      | exact throttle_Allowed.mono _ _ _
      | exact throttle_Count.mono _ _
      | exact LeO.none _
      | refine LeO.ite ?_ ?_
      | refine LeO.bind ?_ (fun _ => ?_)
    · intro y0 y1 y2 y3 y4
      unfold estoverslaw30_ThrottleLimits.l1
      repeat' first
      | (with_reducible exact ih0 _ _ _)
      | (with_reducible exact ih1 _ _ _ _ _)
      | (with_reducible exact ih2 _ _ _ _ _)
      | (with_reducible exact ih3 _ _ _ _ _)
      | (with_reducible exact ih4 _ _ _ _ _ _ _ _)
      | (with_reducible exact estoverslaw30_awake.mono _)
      | (with_reducible exact throttle_Allowed.mono _ _ _)
      | (with_reducible exact throttle_Count.mono _ _)
      | (with_reducible exact LeO.refl _)
      | (with_reducible exact LeO.none _)
      | (with_reducible refine LeO.ite ?_ ?_)
      | (with_reducible refine LeO.bind ?_ (fun _ => ?_))
      | exact ih0 _ _ _
      | exact ih1 _ _ _ _ _
      | exact ih2 _ _ _ _ _
      | exact ih3 _ _ _ _ _
      | exact ih4 _ _ _ _ _ _ _ _
      | exact estoverslaw30_awake.mono _
      | exact throttle_Allowed.mono _ _ _
      | exact throttle_Count.mono _ _
      | exact LeO.none _
      | refine LeO.ite ?_ ?_
      | refine LeO.bind ?_ (fun _ => ?_)
    · intro y0 y1 y2 y3 y4
      unfold estoverslaw30_ThrottleLimits.j4
      repeat' first
      | (with_reducible exact ih0 _ _ _)
      | (with_reducible exact ih1 _ _ _ _ _)
      | (with_reducible exact ih2 _ _ _ _ _)
      | (with_reducible exact ih3 _ _ _ _ _)
      | (with_reducible exact ih4 _ _ _ _ _ _ _ _)
      | (with_reducible exact estoverslaw30_awake.mono _)
      | (with_reducible exact throttle_Allowed.mono _ _ _)
      | (with_reducible exact throttle_Count.mono _ _)
      | (with_reducible exact LeO.refl _)
      | (with_reducible exact LeO.none _)
      | (with_reducible refine LeO.ite ?_ ?_)
      | (with_reducible refine LeO.bind ?_ (fun _ => ?_))
      | exact ih0 _ _ _
      | exact ih1 _ _ _ _ _
      | exact ih2 _ _ _ _ _
      | exact ih3 _ _ _ _ _
      | exact ih4 _ _ _ _ _ _ _ _
      | exact estoverslaw30_awake.mono _
      | exact throttle_Allowed.mono _ _ _
      | exact throttle_Count.mono _ _
      | exact LeO.none _
      | refine LeO.ite ?_ ?_
      | refine LeO.bind ?_ (fun _ => ?_)
    · intro y0 y1 y2 y3 y4 y5 y6 y7
      unfold estoverslaw30_ThrottleLimits.j3
      repeat' first
      | (with_reducible exact ih0 _ _ _)
      | (with_reducible exact ih1 _ _ _ _ _)
      | (with_reducible exact ih2 _ _ _ _ _)
      | (with_reducible exact ih3 _ _ _ _ _)
      | (with_reducible exact ih4 _ _ _ _ _ _ _ _)
      | (with_reducible exact estoverslaw30_awake.mono _)
      | (with_reducible exact throttle_Allowed.mono _ _ _)
      | (with_reducible exact throttle_Count.mono _ _)
      | (with_reducible exact LeO.refl _)
      | (with_reducible exact LeO.none _)
      | (with_reducible refine LeO.ite ?_ ?_)
      | (with_reducible refine LeO.bind ?_ (fun _ => ?_))
      | exact ih0 _ _ _
      | exact ih1 _ _ _ _ _
      | exact ih2 _ _ _ _ _
      | exact ih3 _ _ _ _ _
      | exact ih4 _ _ _ _ _ _ _ _
      | exact estoverslaw30_awake.mono _
      | exact throttle_Allowed.mono _ _ _
      | exact throttle_Count.mono _ _
      | exact LeO.none _
      | refine LeO.ite ?_ ?_
      | refine LeO.bind ?_ (fun _ => ?_)
theorem estoverslaw30_ThrottleLimits.mono : ∀ a0 a1 k, LeO (estoverslaw30_ThrottleLimits.f k a0 a1) (estoverslaw30_ThrottleLimits.f (k + 1) a0 a1) := by
  intro a0 a1 k
  obtain ⟨ih0, ih1, ih2, ih3, ih4⟩ := estoverslaw30_ThrottleLimits.mono_l k
  unfold estoverslaw30_ThrottleLimits.f
  repeat' first
      | (with_reducible exact ih0 _ _ _)
      | (with_reducible exact ih1 _ _ _ _ _)
      | (with_reducible exact ih2 _ _ _ _ _)
      | (with_reducible exact ih3 _ _ _ _ _)
      | (with_reducible exact ih4 _ _ _ _ _ _ _ _)
      | (with_reducible exact estoverslaw30_awake.mono _)
      | (with_reducible exact throttle_Allowed.mono _ _ _)
      | (with_reducible exact throttle_Count.mono _ _)
      | (with_reducible exact LeO.refl _)
      | (with_reducible exact LeO.none _)
      | (with_reducible refine LeO.ite ?_ ?_)
      | (with_reducible refine LeO.bind ?_ (fun _ => ?_))
      | exact ih0 _ _ _
      | exact ih1 _ _ _ _ _
      | exact ih2 _ _ _ _ _
      | exact ih3 _ _ _ _ _
      | exact ih4 _ _ _ _ _ _ _ _
      | exact estoverslaw30_awake.mono _
      | exact throttle_Allowed.mono _ _ _
      | exact throttle_Count.mono _ _
      | exact LeO.none _
      | refine LeO.ite ?_ ?_
      | refine LeO.bind ?_ (fun _ => ?_)
set_option maxHeartbeats 8000000 in
set_option maxRecDepth 100000 in
theorem estoverslaw30_ThrottleLimits.calls (k : Nat) (A0 : Option Addr) (c0 : Nat) (l0 : List Int) (a1 : Int) (r : Bool) (w : World) (hr0 : Kd.C (Kd.int .u8) w A0 l0.length l0) (hc0 : l0.length ≤ c0) (h : estoverslaw30_ThrottleLimits.f k l0 a1 = some r) :
    Calls Try.prog 6 #[.slice A0 l0.length c0, .int .u8 a1] w fun e w' => e = .returned (.bool r) ∧ Below w.heap.size w w' := by
  have HR0 := Aside0.mk hr0
  have HC0 := Aside0.mk hc0
  clear hr0 hc0
  have HB := Aside0.mk (Below.refl w.heap.size w)
  have H : ((estoverslaw30_awake.f k).bind fun t168 => (if t168 = true then (estoverslaw30_ThrottleLimits.j0 k l0 a1 (decide ((l0.length : Int) > 100))) else (estoverslaw30_ThrottleLimits.j0 k l0 a1 true))) = some r := h
  clear h
  have HC3 := Aside0.mk H
  clear H
  go_enter Try.func6, Try.ntmps6
  go_upto_region 1 with (fail)
  go_cut [17] (fun v17 wc => ∃ (kq : Nat) (x17_2 : Bool), v17 = .bool x17_2 ∧ Aside0 (estoverslaw30_ThrottleLimits.j0 kq l0 a1 x17_2 = some r) ∧ Aside0 (kq ≤ k) ∧ Aside0 (Below w.heap.size w wc))
  case first =>
    have H := HC3.out
    clear HC3
    replace H := Option.bind_eq_some_iff.mp H
    obtain ⟨t168, A40, H⟩ := H
    replace H : (if t168 = true then (estoverslaw30_ThrottleLimits.j0 k l0 a1 (decide ((l0.length : Int) > 100))) else (estoverslaw30_ThrottleLimits.j0 k l0 a1 true)) = some r := H
    have A4 := Aside0.mk A40
    clear A40
    by_cases c5 : t168 = true
    · subst c5
      have H1 : (estoverslaw30_ThrottleLimits.j0 k l0 a1 (decide ((l0.length : Int) > 100))) = some r := by rw [if_pos rfl] at H; exact H
      clear H
      have H := H1
      clear H1
      have H' := Aside0.mk H
      clear H
      go_wp2_with (first | ((with_reducible refine gate_callee (f := 16) rfl ?_); refine goesL_ (some 11) rfl rfl Try.func16 (by kernel_rfl) rfl #[] rfl (by (try simp only [List.map_toArray, List.map_cons, List.map_nil]); first | done | rfl | (simp only [List.length_drop, List.length_take]; rfl)) ?_; (with_reducible refine (estoverslaw30_awake.calls k  true _ A4.out).mono ?_); rintro e w6 ⟨rfl, hb⟩; refine ⟨_, rfl, ?_⟩; have n0_ := Aside0.mk (below_step (by repeat (first | (with_reducible first | exact HB.out | apply below_alloc | apply pw_below_drewN | apply below_drew1) | exact HB.out)) hb); clear HB; have HB := n0_; clear n0_; (try clear hb); (try clear hb2); (try clear hk); (try clear hi)))
      go_meet
      case rel => exact ⟨_, (decide ((l0.length : Int) > 100)), (by first | rfl | (simp; done) | (simp [*]; done)), H', ⟨by first | omega | exact Nat.le_refl _⟩, ⟨by repeat (first | (with_reducible first | exact HB.out | apply below_alloc | apply pw_below_drewN | apply below_drew1) | exact HB.out)⟩⟩
    · replace c5 := Bool.eq_false_iff.mpr c5
      subst c5
      have H1 : (estoverslaw30_ThrottleLimits.j0 k l0 a1 true) = some r := by rw [if_neg (show ¬ (false = true) by decide)] at H; exact H
      clear H
      have H := H1
      clear H1
      have H' := Aside0.mk H
      clear H
      go_wp2_with (first | ((with_reducible refine gate_callee (f := 16) rfl ?_); refine goesL_ (some 11) rfl rfl Try.func16 (by kernel_rfl) rfl #[] rfl (by (try simp only [List.map_toArray, List.map_cons, List.map_nil]); first | done | rfl | (simp only [List.length_drop, List.length_take]; rfl)) ?_; (with_reducible refine (estoverslaw30_awake.calls k  false _ A4.out).mono ?_); rintro e w7 ⟨rfl, hb⟩; refine ⟨_, rfl, ?_⟩; have n0_ := Aside0.mk (below_step (by repeat (first | (with_reducible first | exact HB.out | apply below_alloc | apply pw_below_drewN | apply below_drew1) | exact HB.out)) hb); clear HB; have HB := n0_; clear n0_; (try clear hb); (try clear hb2); (try clear hk); (try clear hi)))
      go_meet
      case rel => exact ⟨_, (true), (by first | rfl | (simp; done) | (simp [*]; done)), H', ⟨by first | omega | exact Nat.le_refl _⟩, ⟨by repeat (first | (with_reducible first | exact HB.out | apply below_alloc | apply pw_below_drewN | apply below_drew1) | exact HB.out)⟩⟩
  case rest =>
    clear HC3
    try clear c1
    try clear p2
    try clear c5
    try clear c6
    obtain ⟨kq, x17_2, rfl, HA, HJ2, HB⟩ := hcut
    cases kq with
    | zero => exact absurd HA.out (by simp [estoverslaw30_ThrottleLimits.j0])
    | succ kj2 =>
      have H := HA.out
      clear HA
      simp only [estoverslaw30_ThrottleLimits.j0] at H
      by_cases c8 : x17_2 = true
      · subst c8
        have H1 : ((estoverslaw30_awake.f kj2).bind fun t169 => (some t169)) = some r := by rw [if_pos rfl] at H; exact H
        clear H
        have H := H1
        clear H1
        replace H := Option.bind_eq_some_iff.mp H
        obtain ⟨t169, A90, H⟩ := H
        replace H : (some t169) = some r := H
        have A9 := Aside0.mk A90
        clear A90
        obtain rfl := Option.some.inj H
        go_wp2_with (first | ((with_reducible refine gate_callee (f := 16) rfl ?_); refine goesL_ (some 18) rfl rfl Try.func16 (by kernel_rfl) rfl #[] rfl (by (try simp only [List.map_toArray, List.map_cons, List.map_nil]); first | done | rfl | (simp only [List.length_drop, List.length_take]; rfl)) ?_; (with_reducible refine (estoverslaw30_awake.calls kj2  t169 _ A9.out).mono ?_); rintro e w10 ⟨rfl, hb⟩; refine ⟨_, rfl, ?_⟩; have n0_ := Aside0.mk (below_step (by repeat (first | (with_reducible first | exact HB.out | apply below_alloc | apply pw_below_drewN | apply below_drew1) | exact HB.out)) hb); clear HB; have HB := n0_; clear n0_; (try clear hb); (try clear hb2); (try clear hk); (try clear hi)))
        go_ret
        exact ⟨by first | rfl | (simp [errW_none, errW_some] <;> rfl) | (simp [*, errW_none, errW_some] <;> rfl), by repeat (first | (with_reducible first | exact HB.out | apply below_alloc | apply pw_below_drewN | apply below_drew1) | exact HB.out)⟩
      · replace c8 := Bool.eq_false_iff.mpr c8
        subst c8
        have H1 : (if 20 ≤ 1954687338268 then ((some (List.replicate 20 z35 : List (S35))).bind fun y170 => (estoverslaw30_ThrottleLimits.l0 kj2 l0 a1 y170 (y170.length : Int) 0)) else (none)) = some r := by rw [if_neg (show ¬ (false = true) by decide)] at H; exact H
        clear H
        have H := H1
        clear H1
        by_cases c11 : 20 ≤ 1954687338268
        · rw [if_pos c11] at H
          have c11b0 := eq_true c11
          have c11b1 : decide (20 ≤ 1954687338268) = true := decide_eq_true c11
          clear c11
          obtain ⟨y170, hy170⟩ : ∃ y_ : List (S35), y_ = (List.replicate 20 z35) := ⟨_, rfl⟩
          replace H : (estoverslaw30_ThrottleLimits.l0 kj2 l0 a1 y170 (y170.length : Int) 0) = some r := by first | (rw [hy170]; with_reducible exact H) | (have H2_ := (Option.bind_some _ _).symm.trans H; rw [hy170]; with_reducible exact H2_) | (have H2_ := (Option.bind_some _ _).symm.trans H; with_reducible exact H2_) | with_reducible exact H | (rw [hy170]; exact H) | exact H
          have Ny170 := Aside0.mk hy170
          clear hy170
          have H' := Aside0.mk H
          clear H
          go_wp2_with (first | ((with_reducible refine gate_dst (N := 19) rfl ?_); (try (refine gate_guard (by rfl) ?_; dsimp only)); refine Kd.S_make k35 _ 35 rfl (N := 19) rfl 29 _ _ rfl 20 rfl rfl Try.underlying29 (.agg #[(.int .i64 0), (.int .i64 0), (.int .i64 0), (.int .i64 0), (.int .i64 0), (.int .i64 0), (.int .i64 0), (.int .i64 0), (.int .i64 0), (.int .i64 0), (.bool false), (.bool false), (.bool false), (.int .i64 0), (.slice none 0 0), (.slice none 0 0)]) 144 info35 rfl (by decide) (by omega) z35 (ok := fun _ => True) (okp := fun _ => True) (k35_mkM _ _ _ z35 (Kd.R_nil _ _ _ _ _) (Kd.R_nil _ _ _ _ _)) (fun _ hk => hk) trivial (by omega) (by omega) (Below.refl _ _) (Nat.le_refl _) ?_; intro v171 w12 ho13 hb hg_ hnew_; clear hg_ hnew_; (first | rw [← Ny170.out] at ho13 | (simp only [Int.reduceToNat] at ho13; rw [← Ny170.out] at ho13)); have n0_ := Aside0.mk (Kd.S_lower ho13 (below_size (by repeat (first | (with_reducible first | exact HB.out | apply below_alloc | apply pw_below_drewN | apply below_drew1) | exact HB.out)))); have n1_ := Aside0.mk (below_step (by repeat (first | (with_reducible first | exact HB.out | apply below_alloc | apply pw_below_drewN | apply below_drew1) | exact HB.out)) hb); clear HB; have HO172 := n0_; have HB := n1_; clear n0_ n1_; clear hb ho13; obtain ⟨Ao14, co14, eo14⟩ := Kd.S_slice HO172.out; subst eo14))
          go_loopg [22] kj2 (fun kq v22 w' => ∃ (x5_2 : List (S35)) (x22_2 : Int), v22 = .int .i64 x22_2 ∧ Aside0 (estoverslaw30_ThrottleLimits.l0 kq l0 a1 x5_2 (y170.length : Int) x22_2 = some r) ∧ Aside0 (kq ≤ kj2) ∧ Aside0 (Kd.S k35 35 w' w.heap.size (fun _ => True) (.slice Ao14 y170.length co14) x5_2) ∧ Aside0 (Below w.heap.size w w'))
          case atStart => exact ⟨(y170), (0), (by first | rfl | (simp; done) | (simp [*]; done)), H', ⟨Nat.le_refl _⟩, ⟨by (with_reducible repeat (first | apply Kd.S_alloc | apply Kd.S_drewN | apply Kd.S_drew)); exact HO172.out⟩, ⟨by repeat (first | (with_reducible first | exact HB.out | apply below_alloc | apply pw_below_drewN | apply below_drew1) | exact HB.out)⟩⟩
          case round =>
            clear H'
            try clear c1
            try clear p2
            try clear c5
            try clear c6
            try clear c8
            try clear c11
            try clear c11b0
            try clear c11b1
            try clear p2
            obtain ⟨x5_2, x22_2, rfl, HA, HK2, HO_5, HB⟩ := hrel
            have hl5_2 := (Kd.S_reads' HO_5.out).1
            rw [hl5_2] at HO_5
            (try simp only [hl5_2])
            cases gk with
            | zero => exact absurd HA.out (by simp [estoverslaw30_ThrottleLimits.l0])
            | succ k2 =>
              have H := HA.out
              clear HA
              simp only [estoverslaw30_ThrottleLimits.l0] at H
              by_cases c15 : x22_2 < (y170.length : Int)
              · rw [if_pos c15] at H
                have c15b0 : decide (x22_2 < (y170.length : Int)) = true := decide_eq_true c15
                (try (have c15b0x := c15b0; simp only [hl5_2] at c15b0x))
                clear c15
                by_cases c16 : 0 ≤ x22_2
                · rw [if_pos c16] at H
                  have c16b0 : decide (0 ≤ x22_2) = true := decide_eq_true c16
                  clear c16
                  by_cases c17 : x22_2 < (x5_2.length : Int)
                  · rw [if_pos c17] at H
                    have c17b0 : decide (x22_2 < (x5_2.length : Int)) = true := decide_eq_true c17
                    (try (have c17b0x := c17b0; simp only [hl5_2] at c17b0x))
                    clear c17
                    obtain ⟨y173, hy173⟩ : ∃ y_ : List (S35), y_ = (x5_2.set (x22_2 : Int).toNat (⟨4, (rd_T35 x5_2 x22_2).f1, (rd_T35 x5_2 x22_2).f2, (rd_T35 x5_2 x22_2).f3, (rd_T35 x5_2 x22_2).f4, (rd_T35 x5_2 x22_2).f5, (rd_T35 x5_2 x22_2).f6, (rd_T35 x5_2 x22_2).f7, (rd_T35 x5_2 x22_2).f8, (rd_T35 x5_2 x22_2).f9, (rd_T35 x5_2 x22_2).f10, (rd_T35 x5_2 x22_2).f11, (rd_T35 x5_2 x22_2).f12, (rd_T35 x5_2 x22_2).f13, (rd_T35 x5_2 x22_2).f14, (rd_T35 x5_2 x22_2).f15⟩ : S35)) := ⟨_, rfl⟩
                    replace H : (estoverslaw30_ThrottleLimits.l0 k2 l0 a1 y173 (y170.length : Int) (wrap64 (x22_2 + 1))) = some r := by first | (rw [hy173]; with_reducible exact H) | (have H2_ := (Option.bind_some _ _).symm.trans H; rw [hy173]; with_reducible exact H2_) | (have H2_ := (Option.bind_some _ _).symm.trans H; with_reducible exact H2_) | with_reducible exact H | (rw [hy173]; exact H) | exact H
                    have Ny173 := Aside0.mk hy173
                    clear hy173
                    have H' := Aside0.mk H
                    clear H
                    have p18 : 0 ≤ (x22_2 : Int) := of_decide_eq_true (by first | (with_reducible assumption) | assumption)
                    have q18 : (x22_2 : Int) < ((x5_2.length : Int) : Int) := of_decide_eq_true (by first | (with_reducible assumption) | assumption)
                    obtain ⟨go18, co18, eo18, gb18, gl18, cl18, HG18⟩ := Kd.S_form HO_5.out (by omega)
                    (first | cases eo18 | (injection eo18 with ea_ en_ ec_; (first | subst ea_ | (injection ea_ with ea_; subst ea_)); subst ec_; clear en_))
                    have GB18 := Aside0.mk gb18
                    have GG18 := Aside0.mk HG18
                    clear gb18 gl18 HG18
                    obtain ⟨_, ce18, hcl18, hM18, hcc18, hfr18, _, _⟩ := Kd.S_elem HO_5.out z35 (x22_2 : Int) p18 q18
                    obtain ⟨ve18_14, ve18_15, rfl, ge18_14, ge18_15⟩ := k35_openM hM18
                    have hx18_0 : wr.cell? ⟨go18, (x22_2 : Int).toNat * 16, none⟩ = some (.int .i64 ((rd_T35 x5_2 x22_2).f0)) := hcc18 0 _ rfl
                    have hx18_1 : wr.cell? ⟨go18, (x22_2 : Int).toNat * 16 + 1, none⟩ = some (.int .i64 ((rd_T35 x5_2 x22_2).f1)) := hcc18 1 _ rfl
                    have hx18_2 : wr.cell? ⟨go18, (x22_2 : Int).toNat * 16 + 2, none⟩ = some (.int .i64 ((rd_T35 x5_2 x22_2).f2)) := hcc18 2 _ rfl
                    have hx18_3 : wr.cell? ⟨go18, (x22_2 : Int).toNat * 16 + 3, none⟩ = some (.int .i64 ((rd_T35 x5_2 x22_2).f3)) := hcc18 3 _ rfl
                    have hx18_4 : wr.cell? ⟨go18, (x22_2 : Int).toNat * 16 + 4, none⟩ = some (.int .i64 ((rd_T35 x5_2 x22_2).f4)) := hcc18 4 _ rfl
                    have hx18_5 : wr.cell? ⟨go18, (x22_2 : Int).toNat * 16 + 5, none⟩ = some (.int .i64 ((rd_T35 x5_2 x22_2).f5)) := hcc18 5 _ rfl
                    have hx18_6 : wr.cell? ⟨go18, (x22_2 : Int).toNat * 16 + 6, none⟩ = some (.int .i64 ((rd_T35 x5_2 x22_2).f6)) := hcc18 6 _ rfl
                    have hx18_7 : wr.cell? ⟨go18, (x22_2 : Int).toNat * 16 + 7, none⟩ = some (.int .i64 ((rd_T35 x5_2 x22_2).f7)) := hcc18 7 _ rfl
                    have hx18_8 : wr.cell? ⟨go18, (x22_2 : Int).toNat * 16 + 8, none⟩ = some (.int .i64 ((rd_T35 x5_2 x22_2).f8)) := hcc18 8 _ rfl
                    have hx18_9 : wr.cell? ⟨go18, (x22_2 : Int).toNat * 16 + 9, none⟩ = some (.int .i64 ((rd_T35 x5_2 x22_2).f9)) := hcc18 9 _ rfl
                    have hx18_10 : wr.cell? ⟨go18, (x22_2 : Int).toNat * 16 + 10, none⟩ = some (.bool ((rd_T35 x5_2 x22_2).f10)) := hcc18 10 _ rfl
                    have hx18_11 : wr.cell? ⟨go18, (x22_2 : Int).toNat * 16 + 11, none⟩ = some (.bool ((rd_T35 x5_2 x22_2).f11)) := hcc18 11 _ rfl
                    have hx18_12 : wr.cell? ⟨go18, (x22_2 : Int).toNat * 16 + 12, none⟩ = some (.bool ((rd_T35 x5_2 x22_2).f12)) := hcc18 12 _ rfl
                    have hx18_13 : wr.cell? ⟨go18, (x22_2 : Int).toNat * 16 + 13, none⟩ = some (.int .i64 ((rd_T35 x5_2 x22_2).f13)) := hcc18 13 _ rfl
                    have hx18_14 : wr.cell? ⟨go18, (x22_2 : Int).toNat * 16 + 14, none⟩ = some (ve18_14) := hcc18 14 _ rfl
                    have hx18_15 : wr.cell? ⟨go18, (x22_2 : Int).toNat * 16 + 15, none⟩ = some (ve18_15) := hcc18 15 _ rfl
                    have hf18_0 : wr.frozen? ⟨go18, (x22_2 : Int).toNat * 16, none⟩ = false := hfr18 0
                    have hf18_1 : wr.frozen? ⟨go18, (x22_2 : Int).toNat * 16 + 1, none⟩ = false := hfr18 1
                    have hf18_2 : wr.frozen? ⟨go18, (x22_2 : Int).toNat * 16 + 2, none⟩ = false := hfr18 2
                    have hf18_3 : wr.frozen? ⟨go18, (x22_2 : Int).toNat * 16 + 3, none⟩ = false := hfr18 3
                    have hf18_4 : wr.frozen? ⟨go18, (x22_2 : Int).toNat * 16 + 4, none⟩ = false := hfr18 4
                    have hf18_5 : wr.frozen? ⟨go18, (x22_2 : Int).toNat * 16 + 5, none⟩ = false := hfr18 5
                    have hf18_6 : wr.frozen? ⟨go18, (x22_2 : Int).toNat * 16 + 6, none⟩ = false := hfr18 6
                    have hf18_7 : wr.frozen? ⟨go18, (x22_2 : Int).toNat * 16 + 7, none⟩ = false := hfr18 7
                    have hf18_8 : wr.frozen? ⟨go18, (x22_2 : Int).toNat * 16 + 8, none⟩ = false := hfr18 8
                    have hf18_9 : wr.frozen? ⟨go18, (x22_2 : Int).toNat * 16 + 9, none⟩ = false := hfr18 9
                    have hf18_10 : wr.frozen? ⟨go18, (x22_2 : Int).toNat * 16 + 10, none⟩ = false := hfr18 10
                    have hf18_11 : wr.frozen? ⟨go18, (x22_2 : Int).toNat * 16 + 11, none⟩ = false := hfr18 11
                    have hf18_12 : wr.frozen? ⟨go18, (x22_2 : Int).toNat * 16 + 12, none⟩ = false := hfr18 12
                    have hf18_13 : wr.frozen? ⟨go18, (x22_2 : Int).toNat * 16 + 13, none⟩ = false := hfr18 13
                    have hf18_14 : wr.frozen? ⟨go18, (x22_2 : Int).toNat * 16 + 14, none⟩ = false := hfr18 14
                    have hf18_15 : wr.frozen? ⟨go18, (x22_2 : Int).toNat * 16 + 15, none⟩ = false := hfr18 15
                    clear hcl18 hcc18 hfr18 hM18
                    replace p18 := eq_true p18
                    replace q18 := eq_true q18
                    have HX19 := Aside0.mk (show Kd.S k35 35 wr w.heap.size (fun k_ => ((fun _ => True)) k_ ∧ ¬ ((fun _ => False)) k_) (.slice (some ⟨go18, 0, none⟩) x5_2.length co14) x5_2 from (by (with_reducible repeat (first | apply Kd.S_alloc | apply Kd.S_drewN | apply Kd.S_drew)); exact Kd.S_mono HO_5.out (fun k_ hk => ⟨trivial, fun e_ => e_⟩)))
                    obtain ⟨oki19, ce19, hcl19, hM19, hcc19, hfr19, hoki19, hH19⟩ := Kd.S_elem HX19.out z35 (x22_2 : Int) (of_decide_eq_true (by first | (with_reducible assumption) | assumption)) (by have h_ : (x22_2 : Int) < ((x5_2.length : Int) : Int) := of_decide_eq_true (by first | (with_reducible assumption) | assumption); first | exact h_ | (have e_ := (Kd.S_reads' HO_5.out).1; omega) | simpa using h_)
                    obtain ⟨ve19_14, ve19_15, rfl, ge19_14, ge19_15⟩ := k35_openM hM19
                    have HP19 := Kd.S_seg hH19 (of_decide_eq_true (by first | (with_reducible assumption) | assumption)) (by have h_ : (x22_2 : Int) < ((x5_2.length : Int) : Int) := of_decide_eq_true (by first | (with_reducible assumption) | assumption); first | exact h_ | (have e_ := (Kd.S_reads' HO_5.out).1; omega) | simpa using h_) (seg := [.int .i64 4]) (j := 0) (show 1 ≤ 16 from by decide) (x' := (⟨4, (rd_T35 x5_2 x22_2).f1, (rd_T35 x5_2 x22_2).f2, (rd_T35 x5_2 x22_2).f3, (rd_T35 x5_2 x22_2).f4, (rd_T35 x5_2 x22_2).f5, (rd_T35 x5_2 x22_2).f6, (rd_T35 x5_2 x22_2).f7, (rd_T35 x5_2 x22_2).f8, (rd_T35 x5_2 x22_2).f9, (rd_T35 x5_2 x22_2).f10, (rd_T35 x5_2 x22_2).f11, (rd_T35 x5_2 x22_2).f12, (rd_T35 x5_2 x22_2).f13, (rd_T35 x5_2 x22_2).f14, (rd_T35 x5_2 x22_2).f15⟩ : S35)) (k35_mkM _ _ _ (⟨4, (rd_T35 x5_2 x22_2).f1, (rd_T35 x5_2 x22_2).f2, (rd_T35 x5_2 x22_2).f3, (rd_T35 x5_2 x22_2).f4, (rd_T35 x5_2 x22_2).f5, (rd_T35 x5_2 x22_2).f6, (rd_T35 x5_2 x22_2).f7, (rd_T35 x5_2 x22_2).f8, (rd_T35 x5_2 x22_2).f9, (rd_T35 x5_2 x22_2).f10, (rd_T35 x5_2 x22_2).f11, (rd_T35 x5_2 x22_2).f12, (rd_T35 x5_2 x22_2).f13, (rd_T35 x5_2 x22_2).f14, (rd_T35 x5_2 x22_2).f15⟩ : S35) (Kd.R_mono ge19_14 (fun _ h_ => Or.inl h_)) (Kd.R_mono ge19_15 (fun _ h_ => Or.inl h_))) (fun _ hk => hk) (fun k_ hk_ => hk_.elim)
                    have hx19_0 := hcc19 0 _ rfl
                    (try simp only [show (k35).sz = 16 from rfl, Nat.mul_one, Nat.add_zero] at hx19_0)
                    have hf19_0 := hfr19 0
                    (try simp only [show (k35).sz = 16 from rfl, Nat.mul_one, Nat.add_zero] at hf19_0)
                    clear hcl19 hcc19 hfr19 hM19 hoki19 hH19
                    go_wp2_with (first | ((with_reducible refine gate_store (t := 3) (p := 28) rfl ?_); refine store_event (t := 3) (p := 28) (v := ?vo_w20) (w1 := (wr.setCell ⟨go18, (x22_2 : Int).toNat * 16, none⟩ (.int .i64 4))) ?hg ?ho ?hn ?hr ?_; (case ho => rfl); (case hg => rfl); (case hn => rfl); (case hr => first | (go_simp; done) | (go_simp; rfl)); intro w20 hw; have hg : wr.grownBy w20 (some go18) := (by rw [hw]; exact HP19.2); have hp_ : Kd.S k35 35 w20 w.heap.size (fun _ => True) (.slice (some ⟨go18, 0, none⟩) x5_2.length co14) y173 := (by rw [hw, Ny173.out]; exact HP19.1); clear HP19; have n0_ := Aside0.mk (hp_); have n1_ := Aside0.mk ((by rw [hw]; exact below_set (HB.out) GB18.out : Below w.heap.size w w20)); clear HO_5; clear HB; have HO_5 := n0_; have HB := n1_; clear n0_ n1_; clear hg hw hp_))
                    (try simp only [← hl5_2])
                    go_roundg k2
                    case measure => have := HJ2.out; have := HK2.out; omega
                    case rel => exact ⟨(y173), (wrap64 (x22_2 + 1)), (by first | rfl | (simp; done) | (simp [*]; done)), H', ⟨by have := HJ2.out; have := HK2.out; omega⟩, ⟨by (try simp only [hl5_2]); (with_reducible repeat (first | apply Kd.S_alloc | apply Kd.S_drewN | apply Kd.S_drew)); exact HO_5.out⟩, ⟨by repeat (first | (with_reducible first | exact HB.out | apply below_alloc | apply pw_below_drewN | apply below_drew1) | exact HB.out)⟩⟩
                  · rw [if_neg c17] at H
                    exact absurd H (by simp)
                · rw [if_neg c16] at H
                  exact absurd H (by simp)
              · rw [if_neg c15] at H
                have c15b0 : decide (x22_2 < (y170.length : Int)) = false := decide_eq_false c15
                (try (have c15b0x := c15b0; simp only [hl5_2] at c15b0x))
                clear c15
                have H' := Aside0.mk H
                clear H
                go_wp2
                go_loopg [32] k2 (fun kq v32 w' => ∃ (x5_3 : List (S35)) (x32_3 : Int), v32 = .int .i64 x32_3 ∧ Aside0 (estoverslaw30_ThrottleLimits.l1 kq a1 x5_3 l0 (l0.length : Int) x32_3 = some r) ∧ Aside0 (kq ≤ k2) ∧ Aside0 (Kd.S k35 35 w' w.heap.size (fun _ => True) (.slice Ao14 x5_2.length co14) x5_3) ∧ Aside0 (Below w.heap.size w w'))
                case atStart => exact ⟨(x5_2), (0), (by first | rfl | (simp; done) | (simp [*]; done)), H', ⟨Nat.le_refl _⟩, ⟨by (try simp only [hl5_2]); (with_reducible repeat (first | apply Kd.S_alloc | apply Kd.S_drewN | apply Kd.S_drew)); exact HO_5.out⟩, ⟨by repeat (first | (with_reducible first | exact HB.out | apply below_alloc | apply pw_below_drewN | apply below_drew1) | exact HB.out)⟩⟩
                case round =>
                  clear H'
                  try clear c1
                  try clear p1
                  try clear q1
                  try clear hx1
                  try clear p2
                  try clear c5
                  try clear c6
                  try clear p6
                  try clear c8
                  try clear c11
                  try clear c11b0
                  try clear c11b1
                  try clear c15
                  try clear c15b0
                  try clear c16
                  try clear c16b0
                  try clear c17
                  try clear c17b0
                  try clear c18
                  try clear p18
                  try clear q18
                  try clear hx18
                  try clear hf18
                  try clear c19
                  try clear hx19
                  try clear hf19
                  try clear hx18_0
                  try clear hx18_1
                  try clear hx18_10
                  try clear hx18_11
                  try clear hx18_12
                  try clear hx18_13
                  try clear hx18_14
                  try clear hx18_15
                  try clear hx18_2
                  try clear hx18_3
                  try clear hx18_4
                  try clear hx18_5
                  try clear hx18_6
                  try clear hx18_7
                  try clear hx18_8
                  try clear hx18_9
                  try clear hx19_0
                  try clear p18
                  try clear p2
                  try clear q18
                  obtain ⟨x5_3, x32_3, rfl, HA, HK3, HO_5, HB⟩ := hrel
                  have hl5_3 := (Kd.S_reads' HO_5.out).1
                  rw [hl5_3] at HO_5
                  (try simp only [hl5_3])
                  cases gk with
                  | zero => exact absurd HA.out (by simp [estoverslaw30_ThrottleLimits.l1])
                  | succ k3 =>
                    have H := HA.out
                    clear HA
                    simp only [estoverslaw30_ThrottleLimits.l1] at H
                    by_cases c21 : x32_3 < (l0.length : Int)
                    · rw [if_pos c21] at H
                      have c21b0 : decide (x32_3 < (l0.length : Int)) = true := decide_eq_true c21
                      (try (have c21b0x := c21b0; simp only [hl5_2, hl5_3] at c21b0x))
                      clear c21
                      by_cases c22 : 0 ≤ x32_3
                      · rw [if_pos c22] at H
                        have c22b0 : decide (0 ≤ x32_3) = true := decide_eq_true c22
                        clear c22
                        by_cases c23 : x32_3 < (l0.length : Int)
                        · rw [if_pos c23] at H
                          have c23b0 : decide (x32_3 < (l0.length : Int)) = true := decide_eq_true c23
                          (try (have c23b0x := c23b0; simp only [hl5_2, hl5_3] at c23b0x))
                          clear c23
                          have HC24 := Aside0.mk H
                          clear H
                          have p174 : 0 ≤ (x32_3 : Int) := of_decide_eq_true (by first | (with_reducible assumption) | assumption)
                          have q174 : x32_3 < (l0.length : Int) := of_decide_eq_true (by first | (with_reducible assumption) | assumption)
                          obtain ⟨ad174, e174, hx174_0⟩ := Kd.at_int HR0.out x32_3 p174 q174
                          cases e174
                          replace hx174_0 := (HB.out.cell (World.block_lt_of_cell? w _ hx174_0)).trans hx174_0
                          replace p174 := eq_true p174
                          replace q174 := eq_true q174
                          go_upto_block 4 with (fail)
                          go_cut [] (fun wc => ∃ (kq : Nat) (x5_23 : List (S35)), Aside0 (estoverslaw30_ThrottleLimits.j4 kq a1 x5_23 l0 (l0.length : Int) x32_3 = some r) ∧ Aside0 (kq ≤ k3) ∧ Aside0 (Kd.S k35 35 wc w.heap.size (fun _ => True) (.slice Ao14 x5_3.length co14) x5_23) ∧ Aside0 (Below w.heap.size w wc))
                          case first =>
                            have H := HC24.out
                            clear HC24
                            have HC25 := Aside0.mk H
                            clear H
                            go_upto_region 13 with (fail)
                            go_cut [39] (fun v39 wc => ∃ (kq : Nat) (x39_24 : Bool), v39 = .bool x39_24 ∧ Aside0 (estoverslaw30_ThrottleLimits.j3 kq a1 x5_3 (rd l0 x32_3) (wrap64 (Int.tmod (rd l0 x32_3) 20)) l0 (l0.length : Int) x32_3 x39_24 = some r) ∧ Aside0 (kq ≤ k3) ∧ Aside0 (Kd.S k35 35 wc w.heap.size (fun _ => True) (.slice Ao14 x5_3.length co14) x5_3) ∧ Aside0 (Below w.heap.size w wc))
                            case first =>
                              have H := HC25.out
                              clear HC25
                              by_cases c26 : (rd l0 x32_3) ≥ 160
                              · rw [if_pos c26] at H
                                have c26b0 : decide (160 ≤ (rd l0 x32_3)) = true := decide_eq_true c26
                                clear c26
                                (first | rw [c26b0] | (simp only [i64_w, i32_w]; rw [c26b0]) | skip)
                                obtain ⟨ji27, hji27⟩ : ∃ j_ : Int, (wrap64 (Int.tmod (rd l0 x32_3) 20)) = j_ := ⟨_, rfl⟩
                                replace H : (if 0 ≤ (ji27) then (if (ji27) < (x5_3.length : Int) then (estoverslaw30_ThrottleLimits.j3 k3 a1 x5_3 (rd l0 x32_3) ji27 l0 (l0.length : Int) x32_3 ((rd_T35 x5_3 (ji27)).f10)) else (none)) else (none)) = some r := by first | (rw [hji27] at H; exact H) | (simp only [hji27] at H ⊢; exact H)
                                have hji27w : (IntKind.i64.wrap (Int.tmod (rd l0 x32_3) 20)) = ji27 := (i64_w _).trans hji27
                                by_cases c28 : 0 ≤ (ji27)
                                · rw [if_pos c28] at H
                                  have c28b0 : decide (0 ≤ (ji27)) = true := decide_eq_true c28
                                  clear c28
                                  by_cases c29 : (ji27) < (x5_3.length : Int)
                                  · rw [if_pos c29] at H
                                    have c29b0 : decide ((ji27) < (x5_3.length : Int)) = true := decide_eq_true c29
                                    (try (have c29b0x := c29b0; simp only [hl5_2, hl5_3] at c29b0x))
                                    clear c29
                                    have H' := Aside0.mk H
                                    clear H
                                    have p175 : 0 ≤ ((ji27) : Int) := of_decide_eq_true (by first | (with_reducible assumption) | assumption)
                                    have q175 : (ji27) < (x5_3.length : Int) := of_decide_eq_true (by first | (with_reducible assumption) | assumption)
                                    obtain ⟨ad175, A175_14, c175_14, A175_15, c175_15, e175, hx175_0, hx175_1, hx175_2, hx175_3, hx175_4, hx175_5, hx175_6, hx175_7, hx175_8, hx175_9, hx175_10, hx175_11, hx175_12, hx175_13, hx175_14, hx175_15, hl175_14, hi175_14, hl175_15, hi175_15⟩ := at_T35 (Kd.S_reads' HO_5.out).2.2 (ji27) p175 q175
                                    cases e175
                                    obtain ⟨ce175, hce175, hMe175, hcc175⟩ := Kd.S_get HO_5.out z35 (ji27) p175 (by first | exact q175 | exact of_decide_eq_true (by first | (with_reducible assumption) | assumption) | (have e_ := (Kd.S_reads' HO_5.out).1; omega))
                                    obtain ⟨ve175_14, ve175_15, rfl, ge175_14, ge175_15⟩ := k35_openM hMe175
                                    have hv175_14 := hcc175 14 _ rfl
                                    rw [add_field _ _ 14 (by omega)] at hv175_14
                                    replace hv175_14 := Option.some.inj (hv175_14.symm.trans hx175_14)
                                    rw [hv175_14] at ge175_14
                                    have HL175_14 := Aside0.mk (show Kd.R k93 93 _ _ _ _ ((rd_T35 x5_3 (ji27)).f14) from ge175_14)
                                    clear hv175_14 ge175_14
                                    have hv175_15 := hcc175 15 _ rfl
                                    rw [add_field _ _ 15 (by omega)] at hv175_15
                                    replace hv175_15 := Option.some.inj (hv175_15.symm.trans hx175_15)
                                    rw [hv175_15] at ge175_15
                                    have HL175_15 := Aside0.mk (show Kd.R (Kd.int .u8) 5 _ _ _ _ ((rd_T35 x5_3 (ji27)).f15) from ge175_15)
                                    clear hv175_15 ge175_15
                                    clear hcc175 hce175
                                    have HR175_14 := Aside0.mk hi175_14
                                    have HC175_14 := Aside0.mk hl175_14
                                    clear hi175_14 hl175_14
                                    have HR175_15 := Aside0.mk hi175_15
                                    have HC175_15 := Aside0.mk hl175_15
                                    clear hi175_15 hl175_15
                                    replace p175 := eq_true p175
                                    replace q175 := eq_true q175
                                    go_wp2
                                    first | go_meet | ((try simp only [← hji27]); go_meet)
                                    case rel => first | (exact ⟨_, ((rd_T35 x5_3 (ji27)).f10), (by first | rfl | (simp; done) | (simp only [← hji27] <;> (first | rfl | simp)) | (simp [*]; done)), H', ⟨by have := HJ2.out; have := HK2.out; have := HK3.out; first | omega | exact Nat.le_refl _⟩, ⟨by (try simp only [hl5_2]); (try simp only [hl5_3]); (with_reducible repeat (first | apply Kd.S_alloc | apply Kd.S_drewN | apply Kd.S_drew)); exact HO_5.out⟩, ⟨by repeat (first | (with_reducible first | exact HB.out | apply below_alloc | apply pw_below_drewN | apply below_drew1) | exact HB.out)⟩⟩) | ((try simp only [hji27]); exact ⟨_, ((rd_T35 x5_3 (ji27)).f10), (by first | rfl | (simp; done) | (simp only [← hji27] <;> (first | rfl | simp)) | (simp [*]; done)), H', ⟨by have := HJ2.out; have := HK2.out; have := HK3.out; first | omega | exact Nat.le_refl _⟩, ⟨by (try simp only [hl5_2]); (try simp only [hl5_3]); (with_reducible repeat (first | apply Kd.S_alloc | apply Kd.S_drewN | apply Kd.S_drew)); exact HO_5.out⟩, ⟨by repeat (first | (with_reducible first | exact HB.out | apply below_alloc | apply pw_below_drewN | apply below_drew1) | exact HB.out)⟩⟩)
                                  · rw [if_neg c29] at H
                                    exact absurd H (by simp)
                                · rw [if_neg c28] at H
                                  exact absurd H (by simp)
                              · rw [if_neg c26] at H
                                have c26b0 : decide (160 ≤ (rd l0 x32_3)) = false := decide_eq_false c26
                                clear c26
                                (first | rw [c26b0] | (simp only [i64_w, i32_w]; rw [c26b0]) | skip)
                                have H' := Aside0.mk H
                                clear H
                                go_wp2
                                go_meet
                                case rel => exact ⟨_, (false), (by first | rfl | (simp; done) | (simp [*]; done)), H', ⟨by have := HJ2.out; have := HK2.out; have := HK3.out; first | omega | exact Nat.le_refl _⟩, ⟨by (try simp only [hl5_2]); (try simp only [hl5_3]); (with_reducible repeat (first | apply Kd.S_alloc | apply Kd.S_drewN | apply Kd.S_drew)); exact HO_5.out⟩, ⟨by repeat (first | (with_reducible first | exact HB.out | apply below_alloc | apply pw_below_drewN | apply below_drew1) | exact HB.out)⟩⟩
                            case rest =>
                              clear HC25
                              try clear c1
                              try clear p1
                              try clear q1
                              try clear hx1
                              try clear c2
                              try clear p2
                              try clear c5
                              try clear c6
                              try clear p6
                              try clear c8
                              try clear c11
                              try clear c11b0
                              try clear c11b1
                              try clear c15
                              try clear c15b0
                              try clear c16
                              try clear c16b0
                              try clear c17
                              try clear c17b0
                              try clear p17
                              try clear q17
                              try clear hx17
                              try clear c18
                              try clear p18
                              try clear q18
                              try clear hx18
                              try clear hf18
                              try clear c19
                              try clear hx19
                              try clear hf19
                              try clear c21
                              try clear c21b0
                              try clear c22
                              try clear c22b0
                              try clear c23
                              try clear c23b0
                              try clear c26
                              try clear c26b0
                              try clear c28
                              try clear c28b0
                              try clear c29
                              try clear c29b0
                              try clear hx174_0
                              try clear hx175_0
                              try clear hx175_1
                              try clear hx175_10
                              try clear hx175_11
                              try clear hx175_12
                              try clear hx175_13
                              try clear hx175_14
                              try clear hx175_15
                              try clear hx175_2
                              try clear hx175_3
                              try clear hx175_4
                              try clear hx175_5
                              try clear hx175_6
                              try clear hx175_7
                              try clear hx175_8
                              try clear hx175_9
                              try clear hx18_0
                              try clear hx18_1
                              try clear hx18_10
                              try clear hx18_11
                              try clear hx18_12
                              try clear hx18_13
                              try clear hx18_14
                              try clear hx18_15
                              try clear hx18_2
                              try clear hx18_3
                              try clear hx18_4
                              try clear hx18_5
                              try clear hx18_6
                              try clear hx18_7
                              try clear hx18_8
                              try clear hx18_9
                              try clear hx19_0
                              try clear p1
                              try clear p174
                              try clear p175
                              try clear p18
                              try clear p2
                              try clear p6
                              try clear q1
                              try clear q174
                              try clear q175
                              try clear q18
                              obtain ⟨kq, x39_24, rfl, HA, HJ24, HO_5, HB⟩ := hcut
                              cases kq with
                              | zero => exact absurd HA.out (by simp [estoverslaw30_ThrottleLimits.j3])
                              | succ kj24 =>
                                have H := HA.out
                                clear HA
                                simp only [estoverslaw30_ThrottleLimits.j3] at H
                                by_cases c30 : x39_24 = true
                                · subst c30
                                  have H1 : (if 0 ≤ (wrap64 (Int.tmod (rd l0 x32_3) 20)) then (if (wrap64 (Int.tmod (rd l0 x32_3) 20)) < (x5_3.length : Int) then (estoverslaw30_ThrottleLimits.j4 kj24 a1 (x5_3.set ((wrap64 (Int.tmod (rd l0 x32_3) 20)) : Int).toNat (⟨(rd_T35 x5_3 (wrap64 (Int.tmod (rd l0 x32_3) 20))).f0, 4, (rd_T35 x5_3 (wrap64 (Int.tmod (rd l0 x32_3) 20))).f2, (rd_T35 x5_3 (wrap64 (Int.tmod (rd l0 x32_3) 20))).f3, (rd_T35 x5_3 (wrap64 (Int.tmod (rd l0 x32_3) 20))).f4, (rd_T35 x5_3 (wrap64 (Int.tmod (rd l0 x32_3) 20))).f5, (rd_T35 x5_3 (wrap64 (Int.tmod (rd l0 x32_3) 20))).f6, (rd_T35 x5_3 (wrap64 (Int.tmod (rd l0 x32_3) 20))).f7, (rd_T35 x5_3 (wrap64 (Int.tmod (rd l0 x32_3) 20))).f8, (rd_T35 x5_3 (wrap64 (Int.tmod (rd l0 x32_3) 20))).f9, (rd_T35 x5_3 (wrap64 (Int.tmod (rd l0 x32_3) 20))).f10, (rd_T35 x5_3 (wrap64 (Int.tmod (rd l0 x32_3) 20))).f11, (rd_T35 x5_3 (wrap64 (Int.tmod (rd l0 x32_3) 20))).f12, (rd_T35 x5_3 (wrap64 (Int.tmod (rd l0 x32_3) 20))).f13, (rd_T35 x5_3 (wrap64 (Int.tmod (rd l0 x32_3) 20))).f14, (rd_T35 x5_3 (wrap64 (Int.tmod (rd l0 x32_3) 20))).f15⟩ : S35)) l0 (l0.length : Int) x32_3) else (none)) else (none)) = some r := by rw [if_pos rfl] at H; exact H
                                  clear H
                                  have H := H1
                                  clear H1
                                  obtain ⟨ji31, hji31⟩ : ∃ j_ : Int, (wrap64 (Int.tmod (rd l0 x32_3) 20)) = j_ := ⟨_, rfl⟩
                                  replace H : (if 0 ≤ (ji31) then (if (ji31) < (x5_3.length : Int) then (estoverslaw30_ThrottleLimits.j4 kj24 a1 (x5_3.set ((ji31) : Int).toNat (⟨(rd_T35 x5_3 (ji31)).f0, 4, (rd_T35 x5_3 (ji31)).f2, (rd_T35 x5_3 (ji31)).f3, (rd_T35 x5_3 (ji31)).f4, (rd_T35 x5_3 (ji31)).f5, (rd_T35 x5_3 (ji31)).f6, (rd_T35 x5_3 (ji31)).f7, (rd_T35 x5_3 (ji31)).f8, (rd_T35 x5_3 (ji31)).f9, (rd_T35 x5_3 (ji31)).f10, (rd_T35 x5_3 (ji31)).f11, (rd_T35 x5_3 (ji31)).f12, (rd_T35 x5_3 (ji31)).f13, (rd_T35 x5_3 (ji31)).f14, (rd_T35 x5_3 (ji31)).f15⟩ : S35)) l0 (l0.length : Int) x32_3) else (none)) else (none)) = some r := by first | (rw [hji31] at H; exact H) | (simp only [hji31] at H ⊢; exact H)
                                  have hji31w : (IntKind.i64.wrap (Int.tmod (rd l0 x32_3) 20)) = ji31 := (i64_w _).trans hji31
                                  by_cases c32 : 0 ≤ (ji31)
                                  · rw [if_pos c32] at H
                                    have c32b0 : decide (0 ≤ (ji31)) = true := decide_eq_true c32
                                    clear c32
                                    by_cases c33 : (ji31) < (x5_3.length : Int)
                                    · rw [if_pos c33] at H
                                      have c33b0 : decide ((ji31) < (x5_3.length : Int)) = true := decide_eq_true c33
                                      (try (have c33b0x := c33b0; simp only [hl5_2, hl5_3] at c33b0x))
                                      clear c33
                                      obtain ⟨y176, hy176⟩ : ∃ y_ : List (S35), y_ = (x5_3.set ((ji31) : Int).toNat (⟨(rd_T35 x5_3 (ji31)).f0, 4, (rd_T35 x5_3 (ji31)).f2, (rd_T35 x5_3 (ji31)).f3, (rd_T35 x5_3 (ji31)).f4, (rd_T35 x5_3 (ji31)).f5, (rd_T35 x5_3 (ji31)).f6, (rd_T35 x5_3 (ji31)).f7, (rd_T35 x5_3 (ji31)).f8, (rd_T35 x5_3 (ji31)).f9, (rd_T35 x5_3 (ji31)).f10, (rd_T35 x5_3 (ji31)).f11, (rd_T35 x5_3 (ji31)).f12, (rd_T35 x5_3 (ji31)).f13, (rd_T35 x5_3 (ji31)).f14, (rd_T35 x5_3 (ji31)).f15⟩ : S35)) := ⟨_, rfl⟩
                                      replace H : (estoverslaw30_ThrottleLimits.j4 kj24 a1 y176 l0 (l0.length : Int) x32_3) = some r := by first | (rw [hy176]; with_reducible exact H) | (have H2_ := (Option.bind_some _ _).symm.trans H; rw [hy176]; with_reducible exact H2_) | (have H2_ := (Option.bind_some _ _).symm.trans H; with_reducible exact H2_) | with_reducible exact H | (rw [hy176]; exact H) | exact H
                                      have Ny176 := Aside0.mk hy176
                                      clear hy176
                                      have H' := Aside0.mk H
                                      clear H
                                      have p34 : 0 ≤ ((ji31) : Int) := of_decide_eq_true (by first | (with_reducible assumption) | assumption)
                                      have q34 : ((ji31) : Int) < ((x5_3.length : Int) : Int) := of_decide_eq_true (by first | (with_reducible assumption) | assumption)
                                      obtain ⟨go34, co34, eo34, gb34, gl34, cl34, HG34⟩ := Kd.S_form HO_5.out (by omega)
                                      (first | cases eo34 | (injection eo34 with ea_ en_ ec_; (first | subst ea_ | (injection ea_ with ea_; subst ea_)); subst ec_; clear en_))
                                      have GB34 := Aside0.mk gb34
                                      have GG34 := Aside0.mk HG34
                                      clear gb34 gl34 HG34
                                      obtain ⟨_, ce34, hcl34, hM34, hcc34, hfr34, _, _⟩ := Kd.S_elem HO_5.out z35 ((ji31) : Int) p34 q34
                                      obtain ⟨ve34_14, ve34_15, rfl, ge34_14, ge34_15⟩ := k35_openM hM34
                                      have hx34_0 : wc.cell? ⟨go34, ((ji31) : Int).toNat * 16, none⟩ = some (.int .i64 ((rd_T35 x5_3 (ji31)).f0)) := hcc34 0 _ rfl
                                      have hx34_1 : wc.cell? ⟨go34, ((ji31) : Int).toNat * 16 + 1, none⟩ = some (.int .i64 ((rd_T35 x5_3 (ji31)).f1)) := hcc34 1 _ rfl
                                      have hx34_2 : wc.cell? ⟨go34, ((ji31) : Int).toNat * 16 + 2, none⟩ = some (.int .i64 ((rd_T35 x5_3 (ji31)).f2)) := hcc34 2 _ rfl
                                      have hx34_3 : wc.cell? ⟨go34, ((ji31) : Int).toNat * 16 + 3, none⟩ = some (.int .i64 ((rd_T35 x5_3 (ji31)).f3)) := hcc34 3 _ rfl
                                      have hx34_4 : wc.cell? ⟨go34, ((ji31) : Int).toNat * 16 + 4, none⟩ = some (.int .i64 ((rd_T35 x5_3 (ji31)).f4)) := hcc34 4 _ rfl
                                      have hx34_5 : wc.cell? ⟨go34, ((ji31) : Int).toNat * 16 + 5, none⟩ = some (.int .i64 ((rd_T35 x5_3 (ji31)).f5)) := hcc34 5 _ rfl
                                      have hx34_6 : wc.cell? ⟨go34, ((ji31) : Int).toNat * 16 + 6, none⟩ = some (.int .i64 ((rd_T35 x5_3 (ji31)).f6)) := hcc34 6 _ rfl
                                      have hx34_7 : wc.cell? ⟨go34, ((ji31) : Int).toNat * 16 + 7, none⟩ = some (.int .i64 ((rd_T35 x5_3 (ji31)).f7)) := hcc34 7 _ rfl
                                      have hx34_8 : wc.cell? ⟨go34, ((ji31) : Int).toNat * 16 + 8, none⟩ = some (.int .i64 ((rd_T35 x5_3 (ji31)).f8)) := hcc34 8 _ rfl
                                      have hx34_9 : wc.cell? ⟨go34, ((ji31) : Int).toNat * 16 + 9, none⟩ = some (.int .i64 ((rd_T35 x5_3 (ji31)).f9)) := hcc34 9 _ rfl
                                      have hx34_10 : wc.cell? ⟨go34, ((ji31) : Int).toNat * 16 + 10, none⟩ = some (.bool ((rd_T35 x5_3 (ji31)).f10)) := hcc34 10 _ rfl
                                      have hx34_11 : wc.cell? ⟨go34, ((ji31) : Int).toNat * 16 + 11, none⟩ = some (.bool ((rd_T35 x5_3 (ji31)).f11)) := hcc34 11 _ rfl
                                      have hx34_12 : wc.cell? ⟨go34, ((ji31) : Int).toNat * 16 + 12, none⟩ = some (.bool ((rd_T35 x5_3 (ji31)).f12)) := hcc34 12 _ rfl
                                      have hx34_13 : wc.cell? ⟨go34, ((ji31) : Int).toNat * 16 + 13, none⟩ = some (.int .i64 ((rd_T35 x5_3 (ji31)).f13)) := hcc34 13 _ rfl
                                      have hx34_14 : wc.cell? ⟨go34, ((ji31) : Int).toNat * 16 + 14, none⟩ = some (ve34_14) := hcc34 14 _ rfl
                                      have hx34_15 : wc.cell? ⟨go34, ((ji31) : Int).toNat * 16 + 15, none⟩ = some (ve34_15) := hcc34 15 _ rfl
                                      have hf34_0 : wc.frozen? ⟨go34, ((ji31) : Int).toNat * 16, none⟩ = false := hfr34 0
                                      have hf34_1 : wc.frozen? ⟨go34, ((ji31) : Int).toNat * 16 + 1, none⟩ = false := hfr34 1
                                      have hf34_2 : wc.frozen? ⟨go34, ((ji31) : Int).toNat * 16 + 2, none⟩ = false := hfr34 2
                                      have hf34_3 : wc.frozen? ⟨go34, ((ji31) : Int).toNat * 16 + 3, none⟩ = false := hfr34 3
                                      have hf34_4 : wc.frozen? ⟨go34, ((ji31) : Int).toNat * 16 + 4, none⟩ = false := hfr34 4
                                      have hf34_5 : wc.frozen? ⟨go34, ((ji31) : Int).toNat * 16 + 5, none⟩ = false := hfr34 5
                                      have hf34_6 : wc.frozen? ⟨go34, ((ji31) : Int).toNat * 16 + 6, none⟩ = false := hfr34 6
                                      have hf34_7 : wc.frozen? ⟨go34, ((ji31) : Int).toNat * 16 + 7, none⟩ = false := hfr34 7
                                      have hf34_8 : wc.frozen? ⟨go34, ((ji31) : Int).toNat * 16 + 8, none⟩ = false := hfr34 8
                                      have hf34_9 : wc.frozen? ⟨go34, ((ji31) : Int).toNat * 16 + 9, none⟩ = false := hfr34 9
                                      have hf34_10 : wc.frozen? ⟨go34, ((ji31) : Int).toNat * 16 + 10, none⟩ = false := hfr34 10
                                      have hf34_11 : wc.frozen? ⟨go34, ((ji31) : Int).toNat * 16 + 11, none⟩ = false := hfr34 11
                                      have hf34_12 : wc.frozen? ⟨go34, ((ji31) : Int).toNat * 16 + 12, none⟩ = false := hfr34 12
                                      have hf34_13 : wc.frozen? ⟨go34, ((ji31) : Int).toNat * 16 + 13, none⟩ = false := hfr34 13
                                      have hf34_14 : wc.frozen? ⟨go34, ((ji31) : Int).toNat * 16 + 14, none⟩ = false := hfr34 14
                                      have hf34_15 : wc.frozen? ⟨go34, ((ji31) : Int).toNat * 16 + 15, none⟩ = false := hfr34 15
                                      clear hcl34 hcc34 hfr34 hM34
                                      replace p34 := eq_true p34
                                      replace q34 := eq_true q34
                                      have HX35 := Aside0.mk (show Kd.S k35 35 wc w.heap.size (fun k_ => ((fun _ => True)) k_ ∧ ¬ ((fun _ => False)) k_) (.slice (some ⟨go34, 0, none⟩) x5_3.length co14) x5_3 from (by (with_reducible repeat (first | apply Kd.S_alloc | apply Kd.S_drewN | apply Kd.S_drew)); exact Kd.S_mono HO_5.out (fun k_ hk => ⟨trivial, fun e_ => e_⟩)))
                                      obtain ⟨oki35, ce35, hcl35, hM35, hcc35, hfr35, hoki35, hH35⟩ := Kd.S_elem HX35.out z35 ((ji31) : Int) (of_decide_eq_true (by first | (with_reducible assumption) | assumption)) (by have h_ : ((ji31) : Int) < ((x5_3.length : Int) : Int) := of_decide_eq_true (by first | (with_reducible assumption) | assumption); first | exact h_ | (have e_ := (Kd.S_reads' HO_5.out).1; omega) | simpa using h_)
                                      obtain ⟨ve35_14, ve35_15, rfl, ge35_14, ge35_15⟩ := k35_openM hM35
                                      have HP35 := Kd.S_seg hH35 (of_decide_eq_true (by first | (with_reducible assumption) | assumption)) (by have h_ : ((ji31) : Int) < ((x5_3.length : Int) : Int) := of_decide_eq_true (by first | (with_reducible assumption) | assumption); first | exact h_ | (have e_ := (Kd.S_reads' HO_5.out).1; omega) | simpa using h_) (seg := [.int .i64 4]) (j := 1) (show 2 ≤ 16 from by decide) (x' := (⟨(rd_T35 x5_3 (ji31)).f0, 4, (rd_T35 x5_3 (ji31)).f2, (rd_T35 x5_3 (ji31)).f3, (rd_T35 x5_3 (ji31)).f4, (rd_T35 x5_3 (ji31)).f5, (rd_T35 x5_3 (ji31)).f6, (rd_T35 x5_3 (ji31)).f7, (rd_T35 x5_3 (ji31)).f8, (rd_T35 x5_3 (ji31)).f9, (rd_T35 x5_3 (ji31)).f10, (rd_T35 x5_3 (ji31)).f11, (rd_T35 x5_3 (ji31)).f12, (rd_T35 x5_3 (ji31)).f13, (rd_T35 x5_3 (ji31)).f14, (rd_T35 x5_3 (ji31)).f15⟩ : S35)) (k35_mkM _ _ _ (⟨(rd_T35 x5_3 (ji31)).f0, 4, (rd_T35 x5_3 (ji31)).f2, (rd_T35 x5_3 (ji31)).f3, (rd_T35 x5_3 (ji31)).f4, (rd_T35 x5_3 (ji31)).f5, (rd_T35 x5_3 (ji31)).f6, (rd_T35 x5_3 (ji31)).f7, (rd_T35 x5_3 (ji31)).f8, (rd_T35 x5_3 (ji31)).f9, (rd_T35 x5_3 (ji31)).f10, (rd_T35 x5_3 (ji31)).f11, (rd_T35 x5_3 (ji31)).f12, (rd_T35 x5_3 (ji31)).f13, (rd_T35 x5_3 (ji31)).f14, (rd_T35 x5_3 (ji31)).f15⟩ : S35) (Kd.R_mono ge35_14 (fun _ h_ => Or.inl h_)) (Kd.R_mono ge35_15 (fun _ h_ => Or.inl h_))) (fun _ hk => hk) (fun k_ hk_ => hk_.elim)
                                      have hx35_1 := hcc35 1 _ rfl
                                      (try simp only [show (k35).sz = 16 from rfl, Nat.mul_one, Nat.add_zero] at hx35_1)
                                      have hf35_1 := hfr35 1
                                      (try simp only [show (k35).sz = 16 from rfl, Nat.mul_one, Nat.add_zero] at hf35_1)
                                      clear hcl35 hcc35 hfr35 hM35 hoki35 hH35
                                      go_wp2_with (first | ((with_reducible refine gate_store (t := 3) (p := 52) rfl ?_); refine store_event (t := 3) (p := 52) (v := ?vo_w36) (w1 := (wc.setCell ⟨go34, ((ji31) : Int).toNat * 16 + 1, none⟩ (.int .i64 4))) ?hg ?ho ?hn ?hr ?_; (case ho => rfl); (case hg => rfl); (case hn => rfl); (case hr => first | (go_simp; done) | (go_simp; rfl)); intro w36 hw; have hg : wc.grownBy w36 (some go34) := (by rw [hw]; exact HP35.2); have hp_ : Kd.S k35 35 w36 w.heap.size (fun _ => True) (.slice (some ⟨go34, 0, none⟩) x5_3.length co14) y176 := (by rw [hw, Ny176.out]; exact HP35.1); clear HP35; have n0_ := Aside0.mk (hp_); have n1_ := Aside0.mk ((by rw [hw]; exact below_set (HB.out) GB34.out : Below w.heap.size w w36)); clear HO_5; clear HB; have HO_5 := n0_; have HB := n1_; clear n0_ n1_; clear hg hw hp_))
                                      first | go_meet | ((try simp only [← hji31]); go_meet)
                                      case rel => first | (exact ⟨_, (y176), H', ⟨by have := HJ2.out; have := HK2.out; have := HK3.out; have := HJ24.out; first | omega | exact Nat.le_refl _⟩, ⟨by (try simp only [hl5_2]); (try simp only [hl5_3]); (with_reducible repeat (first | apply Kd.S_alloc | apply Kd.S_drewN | apply Kd.S_drew)); exact HO_5.out⟩, ⟨by repeat (first | (with_reducible first | exact HB.out | apply below_alloc | apply pw_below_drewN | apply below_drew1) | exact HB.out)⟩⟩) | ((try simp only [hji31]); exact ⟨_, (y176), H', ⟨by have := HJ2.out; have := HK2.out; have := HK3.out; have := HJ24.out; first | omega | exact Nat.le_refl _⟩, ⟨by (try simp only [hl5_2]); (try simp only [hl5_3]); (with_reducible repeat (first | apply Kd.S_alloc | apply Kd.S_drewN | apply Kd.S_drew)); exact HO_5.out⟩, ⟨by repeat (first | (with_reducible first | exact HB.out | apply below_alloc | apply pw_below_drewN | apply below_drew1) | exact HB.out)⟩⟩)
                                    · rw [if_neg c33] at H
                                      exact absurd H (by simp)
                                  · rw [if_neg c32] at H
                                    exact absurd H (by simp)
                                · replace c30 := Bool.eq_false_iff.mpr c30
                                  subst c30
                                  have H1 : (if (rd l0 x32_3) ≥ 80 then (if 0 ≤ (wrap64 (Int.tmod (rd l0 x32_3) 20)) then (if (wrap64 (Int.tmod (rd l0 x32_3) 20)) < (x5_3.length : Int) then ((some (x5_3.set ((wrap64 (Int.tmod (rd l0 x32_3) 20)) : Int).toNat (⟨(rd_T35 x5_3 (wrap64 (Int.tmod (rd l0 x32_3) 20))).f0, (rd_T35 x5_3 (wrap64 (Int.tmod (rd l0 x32_3) 20))).f1, (rd_T35 x5_3 (wrap64 (Int.tmod (rd l0 x32_3) 20))).f2, (rd_T35 x5_3 (wrap64 (Int.tmod (rd l0 x32_3) 20))).f3, (rd_T35 x5_3 (wrap64 (Int.tmod (rd l0 x32_3) 20))).f4, (rd_T35 x5_3 (wrap64 (Int.tmod (rd l0 x32_3) 20))).f5, (rd_T35 x5_3 (wrap64 (Int.tmod (rd l0 x32_3) 20))).f6, (rd_T35 x5_3 (wrap64 (Int.tmod (rd l0 x32_3) 20))).f7, (rd_T35 x5_3 (wrap64 (Int.tmod (rd l0 x32_3) 20))).f8, (rd_T35 x5_3 (wrap64 (Int.tmod (rd l0 x32_3) 20))).f9, false, (rd_T35 x5_3 (wrap64 (Int.tmod (rd l0 x32_3) 20))).f11, (rd_T35 x5_3 (wrap64 (Int.tmod (rd l0 x32_3) 20))).f12, (rd_T35 x5_3 (wrap64 (Int.tmod (rd l0 x32_3) 20))).f13, (rd_T35 x5_3 (wrap64 (Int.tmod (rd l0 x32_3) 20))).f14, (rd_T35 x5_3 (wrap64 (Int.tmod (rd l0 x32_3) 20))).f15⟩ : S35) : List (S35))).bind fun y177 => (estoverslaw30_ThrottleLimits.j4 kj24 a1 (y177.set ((wrap64 (Int.tmod (rd l0 x32_3) 20)) : Int).toNat (⟨(rd_T35 y177 (wrap64 (Int.tmod (rd l0 x32_3) 20))).f0, 0, (rd_T35 y177 (wrap64 (Int.tmod (rd l0 x32_3) 20))).f2, (rd_T35 y177 (wrap64 (Int.tmod (rd l0 x32_3) 20))).f3, (rd_T35 y177 (wrap64 (Int.tmod (rd l0 x32_3) 20))).f4, (rd_T35 y177 (wrap64 (Int.tmod (rd l0 x32_3) 20))).f5, (rd_T35 y177 (wrap64 (Int.tmod (rd l0 x32_3) 20))).f6, (rd_T35 y177 (wrap64 (Int.tmod (rd l0 x32_3) 20))).f7, (rd_T35 y177 (wrap64 (Int.tmod (rd l0 x32_3) 20))).f8, (rd_T35 y177 (wrap64 (Int.tmod (rd l0 x32_3) 20))).f9, (rd_T35 y177 (wrap64 (Int.tmod (rd l0 x32_3) 20))).f10, (rd_T35 y177 (wrap64 (Int.tmod (rd l0 x32_3) 20))).f11, (rd_T35 y177 (wrap64 (Int.tmod (rd l0 x32_3) 20))).f12, (rd_T35 y177 (wrap64 (Int.tmod (rd l0 x32_3) 20))).f13, (rd_T35 y177 (wrap64 (Int.tmod (rd l0 x32_3) 20))).f14, (rd_T35 y177 (wrap64 (Int.tmod (rd l0 x32_3) 20))).f15⟩ : S35)) l0 (l0.length : Int) x32_3)) else (none)) else (none)) else ((throttle_Allowed.f kj24 x5_3 (wrap64 (a1))).bind fun t179 => (if t179 = true then (if 0 ≤ (wrap64 (Int.tmod (rd l0 x32_3) 20)) then (if (wrap64 (Int.tmod (rd l0 x32_3) 20)) < (x5_3.length : Int) then (estoverslaw30_ThrottleLimits.j4 kj24 a1 (x5_3.set ((wrap64 (Int.tmod (rd l0 x32_3) 20)) : Int).toNat (⟨(rd_T35 x5_3 (wrap64 (Int.tmod (rd l0 x32_3) 20))).f0, (rd_T35 x5_3 (wrap64 (Int.tmod (rd l0 x32_3) 20))).f1, (rd_T35 x5_3 (wrap64 (Int.tmod (rd l0 x32_3) 20))).f2, (rd_T35 x5_3 (wrap64 (Int.tmod (rd l0 x32_3) 20))).f3, (rd_T35 x5_3 (wrap64 (Int.tmod (rd l0 x32_3) 20))).f4, (rd_T35 x5_3 (wrap64 (Int.tmod (rd l0 x32_3) 20))).f5, (rd_T35 x5_3 (wrap64 (Int.tmod (rd l0 x32_3) 20))).f6, (rd_T35 x5_3 (wrap64 (Int.tmod (rd l0 x32_3) 20))).f7, (rd_T35 x5_3 (wrap64 (Int.tmod (rd l0 x32_3) 20))).f8, (rd_T35 x5_3 (wrap64 (Int.tmod (rd l0 x32_3) 20))).f9, true, (rd_T35 x5_3 (wrap64 (Int.tmod (rd l0 x32_3) 20))).f11, (rd_T35 x5_3 (wrap64 (Int.tmod (rd l0 x32_3) 20))).f12, (rd_T35 x5_3 (wrap64 (Int.tmod (rd l0 x32_3) 20))).f13, (rd_T35 x5_3 (wrap64 (Int.tmod (rd l0 x32_3) 20))).f14, (rd_T35 x5_3 (wrap64 (Int.tmod (rd l0 x32_3) 20))).f15⟩ : S35)) l0 (l0.length : Int) x32_3) else (none)) else (none)) else (estoverslaw30_ThrottleLimits.j4 kj24 a1 x5_3 l0 (l0.length : Int) x32_3)))) = some r := by rw [if_neg (show ¬ (false = true) by decide)] at H; exact H
                                  clear H
                                  have H := H1
                                  clear H1
                                  by_cases c37 : (rd l0 x32_3) ≥ 80
                                  · rw [if_pos c37] at H
                                    have c37b0 : decide (80 ≤ (rd l0 x32_3)) = true := decide_eq_true c37
                                    clear c37
                                    obtain ⟨ji38, hji38⟩ : ∃ j_ : Int, (wrap64 (Int.tmod (rd l0 x32_3) 20)) = j_ := ⟨_, rfl⟩
                                    replace H : (if 0 ≤ (ji38) then (if (ji38) < (x5_3.length : Int) then ((some (x5_3.set ((ji38) : Int).toNat (⟨(rd_T35 x5_3 (ji38)).f0, (rd_T35 x5_3 (ji38)).f1, (rd_T35 x5_3 (ji38)).f2, (rd_T35 x5_3 (ji38)).f3, (rd_T35 x5_3 (ji38)).f4, (rd_T35 x5_3 (ji38)).f5, (rd_T35 x5_3 (ji38)).f6, (rd_T35 x5_3 (ji38)).f7, (rd_T35 x5_3 (ji38)).f8, (rd_T35 x5_3 (ji38)).f9, false, (rd_T35 x5_3 (ji38)).f11, (rd_T35 x5_3 (ji38)).f12, (rd_T35 x5_3 (ji38)).f13, (rd_T35 x5_3 (ji38)).f14, (rd_T35 x5_3 (ji38)).f15⟩ : S35) : List (S35))).bind fun y177 => (estoverslaw30_ThrottleLimits.j4 kj24 a1 (y177.set ((ji38) : Int).toNat (⟨(rd_T35 y177 (ji38)).f0, 0, (rd_T35 y177 (ji38)).f2, (rd_T35 y177 (ji38)).f3, (rd_T35 y177 (ji38)).f4, (rd_T35 y177 (ji38)).f5, (rd_T35 y177 (ji38)).f6, (rd_T35 y177 (ji38)).f7, (rd_T35 y177 (ji38)).f8, (rd_T35 y177 (ji38)).f9, (rd_T35 y177 (ji38)).f10, (rd_T35 y177 (ji38)).f11, (rd_T35 y177 (ji38)).f12, (rd_T35 y177 (ji38)).f13, (rd_T35 y177 (ji38)).f14, (rd_T35 y177 (ji38)).f15⟩ : S35)) l0 (l0.length : Int) x32_3)) else (none)) else (none)) = some r := by first | (rw [hji38] at H; exact H) | (simp only [hji38] at H ⊢; exact H)
                                    have hji38w : (IntKind.i64.wrap (Int.tmod (rd l0 x32_3) 20)) = ji38 := (i64_w _).trans hji38
                                    by_cases c39 : 0 ≤ (ji38)
                                    · rw [if_pos c39] at H
                                      have c39b0 : decide (0 ≤ (ji38)) = true := decide_eq_true c39
                                      clear c39
                                      by_cases c40 : (ji38) < (x5_3.length : Int)
                                      · rw [if_pos c40] at H
                                        have c40b0 : decide ((ji38) < (x5_3.length : Int)) = true := decide_eq_true c40
                                        (try (have c40b0x := c40b0; simp only [hl5_2, hl5_3] at c40b0x))
                                        clear c40
                                        obtain ⟨y177, hy177⟩ : ∃ y_ : List (S35), y_ = (x5_3.set ((ji38) : Int).toNat (⟨(rd_T35 x5_3 (ji38)).f0, (rd_T35 x5_3 (ji38)).f1, (rd_T35 x5_3 (ji38)).f2, (rd_T35 x5_3 (ji38)).f3, (rd_T35 x5_3 (ji38)).f4, (rd_T35 x5_3 (ji38)).f5, (rd_T35 x5_3 (ji38)).f6, (rd_T35 x5_3 (ji38)).f7, (rd_T35 x5_3 (ji38)).f8, (rd_T35 x5_3 (ji38)).f9, false, (rd_T35 x5_3 (ji38)).f11, (rd_T35 x5_3 (ji38)).f12, (rd_T35 x5_3 (ji38)).f13, (rd_T35 x5_3 (ji38)).f14, (rd_T35 x5_3 (ji38)).f15⟩ : S35)) := ⟨_, rfl⟩
                                        replace H : (estoverslaw30_ThrottleLimits.j4 kj24 a1 (y177.set ((ji38) : Int).toNat (⟨(rd_T35 y177 (ji38)).f0, 0, (rd_T35 y177 (ji38)).f2, (rd_T35 y177 (ji38)).f3, (rd_T35 y177 (ji38)).f4, (rd_T35 y177 (ji38)).f5, (rd_T35 y177 (ji38)).f6, (rd_T35 y177 (ji38)).f7, (rd_T35 y177 (ji38)).f8, (rd_T35 y177 (ji38)).f9, (rd_T35 y177 (ji38)).f10, (rd_T35 y177 (ji38)).f11, (rd_T35 y177 (ji38)).f12, (rd_T35 y177 (ji38)).f13, (rd_T35 y177 (ji38)).f14, (rd_T35 y177 (ji38)).f15⟩ : S35)) l0 (l0.length : Int) x32_3) = some r := by first | (rw [hy177]; with_reducible exact H) | (have H2_ := (Option.bind_some _ _).symm.trans H; rw [hy177]; with_reducible exact H2_) | (have H2_ := (Option.bind_some _ _).symm.trans H; with_reducible exact H2_) | with_reducible exact H | (rw [hy177]; exact H) | exact H
                                        have Ny177 := Aside0.mk hy177
                                        clear hy177
                                        obtain ⟨y178, hy178⟩ : ∃ y_ : List (S35), y_ = (y177.set ((ji38) : Int).toNat (⟨(rd_T35 y177 (ji38)).f0, 0, (rd_T35 y177 (ji38)).f2, (rd_T35 y177 (ji38)).f3, (rd_T35 y177 (ji38)).f4, (rd_T35 y177 (ji38)).f5, (rd_T35 y177 (ji38)).f6, (rd_T35 y177 (ji38)).f7, (rd_T35 y177 (ji38)).f8, (rd_T35 y177 (ji38)).f9, (rd_T35 y177 (ji38)).f10, (rd_T35 y177 (ji38)).f11, (rd_T35 y177 (ji38)).f12, (rd_T35 y177 (ji38)).f13, (rd_T35 y177 (ji38)).f14, (rd_T35 y177 (ji38)).f15⟩ : S35)) := ⟨_, rfl⟩
                                        replace H : (estoverslaw30_ThrottleLimits.j4 kj24 a1 y178 l0 (l0.length : Int) x32_3) = some r := by first | (rw [hy178]; with_reducible exact H) | (have H2_ := (Option.bind_some _ _).symm.trans H; rw [hy178]; with_reducible exact H2_) | (have H2_ := (Option.bind_some _ _).symm.trans H; with_reducible exact H2_) | with_reducible exact H | (rw [hy178]; exact H) | exact H
                                        have Ny178 := Aside0.mk hy178
                                        clear hy178
                                        have H' := Aside0.mk H
                                        clear H
                                        have p41 : 0 ≤ ((ji38) : Int) := of_decide_eq_true (by first | (with_reducible assumption) | assumption)
                                        have q41 : ((ji38) : Int) < ((x5_3.length : Int) : Int) := of_decide_eq_true (by first | (with_reducible assumption) | assumption)
                                        obtain ⟨go41, co41, eo41, gb41, gl41, cl41, HG41⟩ := Kd.S_form HO_5.out (by omega)
                                        (first | cases eo41 | (injection eo41 with ea_ en_ ec_; (first | subst ea_ | (injection ea_ with ea_; subst ea_)); subst ec_; clear en_))
                                        have GB41 := Aside0.mk gb41
                                        have GG41 := Aside0.mk HG41
                                        clear gb41 gl41 HG41
                                        obtain ⟨_, ce41, hcl41, hM41, hcc41, hfr41, _, _⟩ := Kd.S_elem HO_5.out z35 ((ji38) : Int) p41 q41
                                        obtain ⟨ve41_14, ve41_15, rfl, ge41_14, ge41_15⟩ := k35_openM hM41
                                        have hx41_0 : wc.cell? ⟨go41, ((ji38) : Int).toNat * 16, none⟩ = some (.int .i64 ((rd_T35 x5_3 (ji38)).f0)) := hcc41 0 _ rfl
                                        have hx41_1 : wc.cell? ⟨go41, ((ji38) : Int).toNat * 16 + 1, none⟩ = some (.int .i64 ((rd_T35 x5_3 (ji38)).f1)) := hcc41 1 _ rfl
                                        have hx41_2 : wc.cell? ⟨go41, ((ji38) : Int).toNat * 16 + 2, none⟩ = some (.int .i64 ((rd_T35 x5_3 (ji38)).f2)) := hcc41 2 _ rfl
                                        have hx41_3 : wc.cell? ⟨go41, ((ji38) : Int).toNat * 16 + 3, none⟩ = some (.int .i64 ((rd_T35 x5_3 (ji38)).f3)) := hcc41 3 _ rfl
                                        have hx41_4 : wc.cell? ⟨go41, ((ji38) : Int).toNat * 16 + 4, none⟩ = some (.int .i64 ((rd_T35 x5_3 (ji38)).f4)) := hcc41 4 _ rfl
                                        have hx41_5 : wc.cell? ⟨go41, ((ji38) : Int).toNat * 16 + 5, none⟩ = some (.int .i64 ((rd_T35 x5_3 (ji38)).f5)) := hcc41 5 _ rfl
                                        have hx41_6 : wc.cell? ⟨go41, ((ji38) : Int).toNat * 16 + 6, none⟩ = some (.int .i64 ((rd_T35 x5_3 (ji38)).f6)) := hcc41 6 _ rfl
                                        have hx41_7 : wc.cell? ⟨go41, ((ji38) : Int).toNat * 16 + 7, none⟩ = some (.int .i64 ((rd_T35 x5_3 (ji38)).f7)) := hcc41 7 _ rfl
                                        have hx41_8 : wc.cell? ⟨go41, ((ji38) : Int).toNat * 16 + 8, none⟩ = some (.int .i64 ((rd_T35 x5_3 (ji38)).f8)) := hcc41 8 _ rfl
                                        have hx41_9 : wc.cell? ⟨go41, ((ji38) : Int).toNat * 16 + 9, none⟩ = some (.int .i64 ((rd_T35 x5_3 (ji38)).f9)) := hcc41 9 _ rfl
                                        have hx41_10 : wc.cell? ⟨go41, ((ji38) : Int).toNat * 16 + 10, none⟩ = some (.bool ((rd_T35 x5_3 (ji38)).f10)) := hcc41 10 _ rfl
                                        have hx41_11 : wc.cell? ⟨go41, ((ji38) : Int).toNat * 16 + 11, none⟩ = some (.bool ((rd_T35 x5_3 (ji38)).f11)) := hcc41 11 _ rfl
                                        have hx41_12 : wc.cell? ⟨go41, ((ji38) : Int).toNat * 16 + 12, none⟩ = some (.bool ((rd_T35 x5_3 (ji38)).f12)) := hcc41 12 _ rfl
                                        have hx41_13 : wc.cell? ⟨go41, ((ji38) : Int).toNat * 16 + 13, none⟩ = some (.int .i64 ((rd_T35 x5_3 (ji38)).f13)) := hcc41 13 _ rfl
                                        have hx41_14 : wc.cell? ⟨go41, ((ji38) : Int).toNat * 16 + 14, none⟩ = some (ve41_14) := hcc41 14 _ rfl
                                        have hx41_15 : wc.cell? ⟨go41, ((ji38) : Int).toNat * 16 + 15, none⟩ = some (ve41_15) := hcc41 15 _ rfl
                                        have hf41_0 : wc.frozen? ⟨go41, ((ji38) : Int).toNat * 16, none⟩ = false := hfr41 0
                                        have hf41_1 : wc.frozen? ⟨go41, ((ji38) : Int).toNat * 16 + 1, none⟩ = false := hfr41 1
                                        have hf41_2 : wc.frozen? ⟨go41, ((ji38) : Int).toNat * 16 + 2, none⟩ = false := hfr41 2
                                        have hf41_3 : wc.frozen? ⟨go41, ((ji38) : Int).toNat * 16 + 3, none⟩ = false := hfr41 3
                                        have hf41_4 : wc.frozen? ⟨go41, ((ji38) : Int).toNat * 16 + 4, none⟩ = false := hfr41 4
                                        have hf41_5 : wc.frozen? ⟨go41, ((ji38) : Int).toNat * 16 + 5, none⟩ = false := hfr41 5
                                        have hf41_6 : wc.frozen? ⟨go41, ((ji38) : Int).toNat * 16 + 6, none⟩ = false := hfr41 6
                                        have hf41_7 : wc.frozen? ⟨go41, ((ji38) : Int).toNat * 16 + 7, none⟩ = false := hfr41 7
                                        have hf41_8 : wc.frozen? ⟨go41, ((ji38) : Int).toNat * 16 + 8, none⟩ = false := hfr41 8
                                        have hf41_9 : wc.frozen? ⟨go41, ((ji38) : Int).toNat * 16 + 9, none⟩ = false := hfr41 9
                                        have hf41_10 : wc.frozen? ⟨go41, ((ji38) : Int).toNat * 16 + 10, none⟩ = false := hfr41 10
                                        have hf41_11 : wc.frozen? ⟨go41, ((ji38) : Int).toNat * 16 + 11, none⟩ = false := hfr41 11
                                        have hf41_12 : wc.frozen? ⟨go41, ((ji38) : Int).toNat * 16 + 12, none⟩ = false := hfr41 12
                                        have hf41_13 : wc.frozen? ⟨go41, ((ji38) : Int).toNat * 16 + 13, none⟩ = false := hfr41 13
                                        have hf41_14 : wc.frozen? ⟨go41, ((ji38) : Int).toNat * 16 + 14, none⟩ = false := hfr41 14
                                        have hf41_15 : wc.frozen? ⟨go41, ((ji38) : Int).toNat * 16 + 15, none⟩ = false := hfr41 15
                                        clear hcl41 hcc41 hfr41 hM41
                                        replace p41 := eq_true p41
                                        replace q41 := eq_true q41
                                        have HX43 := Aside0.mk (show Kd.S k35 35 wc w.heap.size (fun k_ => ((fun _ => True)) k_ ∧ ¬ ((fun _ => False)) k_) (.slice (some ⟨go41, 0, none⟩) x5_3.length co14) x5_3 from (by (with_reducible repeat (first | apply Kd.S_alloc | apply Kd.S_drewN | apply Kd.S_drew)); exact Kd.S_mono HO_5.out (fun k_ hk => ⟨trivial, fun e_ => e_⟩)))
                                        obtain ⟨oki43, ce43, hcl43, hM43, hcc43, hfr43, hoki43, hH43⟩ := Kd.S_elem HX43.out z35 ((ji38) : Int) (of_decide_eq_true (by first | (with_reducible assumption) | assumption)) (by have h_ : ((ji38) : Int) < ((x5_3.length : Int) : Int) := of_decide_eq_true (by first | (with_reducible assumption) | assumption); first | exact h_ | (have e_ := (Kd.S_reads' HO_5.out).1; omega) | simpa using h_)
                                        obtain ⟨ve43_14, ve43_15, rfl, ge43_14, ge43_15⟩ := k35_openM hM43
                                        have HP43 := Kd.S_seg hH43 (of_decide_eq_true (by first | (with_reducible assumption) | assumption)) (by have h_ : ((ji38) : Int) < ((x5_3.length : Int) : Int) := of_decide_eq_true (by first | (with_reducible assumption) | assumption); first | exact h_ | (have e_ := (Kd.S_reads' HO_5.out).1; omega) | simpa using h_) (seg := [.bool false]) (j := 10) (show 11 ≤ 16 from by decide) (x' := (⟨(rd_T35 x5_3 (ji38)).f0, (rd_T35 x5_3 (ji38)).f1, (rd_T35 x5_3 (ji38)).f2, (rd_T35 x5_3 (ji38)).f3, (rd_T35 x5_3 (ji38)).f4, (rd_T35 x5_3 (ji38)).f5, (rd_T35 x5_3 (ji38)).f6, (rd_T35 x5_3 (ji38)).f7, (rd_T35 x5_3 (ji38)).f8, (rd_T35 x5_3 (ji38)).f9, false, (rd_T35 x5_3 (ji38)).f11, (rd_T35 x5_3 (ji38)).f12, (rd_T35 x5_3 (ji38)).f13, (rd_T35 x5_3 (ji38)).f14, (rd_T35 x5_3 (ji38)).f15⟩ : S35)) (k35_mkM _ _ _ (⟨(rd_T35 x5_3 (ji38)).f0, (rd_T35 x5_3 (ji38)).f1, (rd_T35 x5_3 (ji38)).f2, (rd_T35 x5_3 (ji38)).f3, (rd_T35 x5_3 (ji38)).f4, (rd_T35 x5_3 (ji38)).f5, (rd_T35 x5_3 (ji38)).f6, (rd_T35 x5_3 (ji38)).f7, (rd_T35 x5_3 (ji38)).f8, (rd_T35 x5_3 (ji38)).f9, false, (rd_T35 x5_3 (ji38)).f11, (rd_T35 x5_3 (ji38)).f12, (rd_T35 x5_3 (ji38)).f13, (rd_T35 x5_3 (ji38)).f14, (rd_T35 x5_3 (ji38)).f15⟩ : S35) (Kd.R_mono ge43_14 (fun _ h_ => Or.inl h_)) (Kd.R_mono ge43_15 (fun _ h_ => Or.inl h_))) (fun _ hk => hk) (fun k_ hk_ => hk_.elim)
                                        have hx43_10 := hcc43 10 _ rfl
                                        (try simp only [show (k35).sz = 16 from rfl, Nat.mul_one, Nat.add_zero] at hx43_10)
                                        have hf43_10 := hfr43 10
                                        (try simp only [show (k35).sz = 16 from rfl, Nat.mul_one, Nat.add_zero] at hf43_10)
                                        clear hcl43 hcc43 hfr43 hM43 hoki43 hH43
                                        go_wp2_with (first | ((with_reducible refine gate_store (t := 4) (p := 61) rfl ?_); refine store_event (t := 4) (p := 61) (v := ?vo_w44) (w1 := (wc.setCell ⟨go41, ((ji38) : Int).toNat * 16 + 10, none⟩ (.bool false))) ?hg ?ho ?hn ?hr ?_; (case ho => rfl); (case hg => rfl); (case hn => rfl); (case hr => first | (go_simp; done) | (go_simp; rfl)); intro w44 hw; have hg : wc.grownBy w44 (some go41) := (by rw [hw]; exact HP43.2); have hp_ : Kd.S k35 35 w44 w.heap.size (fun _ => True) (.slice (some ⟨go41, 0, none⟩) x5_3.length co14) y177 := (by rw [hw, Ny177.out]; exact HP43.1); clear HP43; have n0_ := Aside0.mk (hp_); have n1_ := Aside0.mk ((by rw [hw]; exact below_set (HB.out) GB41.out : Below w.heap.size w w44)); clear HO_5; clear HB; have HO_5 := n0_; have HB := n1_; clear n0_ n1_; clear hg hw hp_; have p42 : 0 ≤ ((ji38) : Int) := of_decide_eq_true (by first | (with_reducible assumption) | assumption); have q42 : ((ji38) : Int) < ((x5_3.length : Int) : Int) := of_decide_eq_true (by first | (with_reducible assumption) | assumption); obtain ⟨_, ce42, hcl42, hM42, hcc42, hfr42, _, _⟩ := Kd.S_elem HO_5.out z35 ((ji38) : Int) p42 q42; obtain ⟨ve42_14, ve42_15, rfl, ge42_14, ge42_15⟩ := k35_openM hM42; have hx42_0 : w44.cell? ⟨go41, ((ji38) : Int).toNat * 16, none⟩ = some (.int .i64 ((rd_T35 y177 (ji38)).f0)) := hcc42 0 _ rfl; have hx42_1 : w44.cell? ⟨go41, ((ji38) : Int).toNat * 16 + 1, none⟩ = some (.int .i64 ((rd_T35 y177 (ji38)).f1)) := hcc42 1 _ rfl; have hx42_2 : w44.cell? ⟨go41, ((ji38) : Int).toNat * 16 + 2, none⟩ = some (.int .i64 ((rd_T35 y177 (ji38)).f2)) := hcc42 2 _ rfl; have hx42_3 : w44.cell? ⟨go41, ((ji38) : Int).toNat * 16 + 3, none⟩ = some (.int .i64 ((rd_T35 y177 (ji38)).f3)) := hcc42 3 _ rfl; have hx42_4 : w44.cell? ⟨go41, ((ji38) : Int).toNat * 16 + 4, none⟩ = some (.int .i64 ((rd_T35 y177 (ji38)).f4)) := hcc42 4 _ rfl; have hx42_5 : w44.cell? ⟨go41, ((ji38) : Int).toNat * 16 + 5, none⟩ = some (.int .i64 ((rd_T35 y177 (ji38)).f5)) := hcc42 5 _ rfl; have hx42_6 : w44.cell? ⟨go41, ((ji38) : Int).toNat * 16 + 6, none⟩ = some (.int .i64 ((rd_T35 y177 (ji38)).f6)) := hcc42 6 _ rfl; have hx42_7 : w44.cell? ⟨go41, ((ji38) : Int).toNat * 16 + 7, none⟩ = some (.int .i64 ((rd_T35 y177 (ji38)).f7)) := hcc42 7 _ rfl; have hx42_8 : w44.cell? ⟨go41, ((ji38) : Int).toNat * 16 + 8, none⟩ = some (.int .i64 ((rd_T35 y177 (ji38)).f8)) := hcc42 8 _ rfl; have hx42_9 : w44.cell? ⟨go41, ((ji38) : Int).toNat * 16 + 9, none⟩ = some (.int .i64 ((rd_T35 y177 (ji38)).f9)) := hcc42 9 _ rfl; have hx42_10 : w44.cell? ⟨go41, ((ji38) : Int).toNat * 16 + 10, none⟩ = some (.bool ((rd_T35 y177 (ji38)).f10)) := hcc42 10 _ rfl; have hx42_11 : w44.cell? ⟨go41, ((ji38) : Int).toNat * 16 + 11, none⟩ = some (.bool ((rd_T35 y177 (ji38)).f11)) := hcc42 11 _ rfl; have hx42_12 : w44.cell? ⟨go41, ((ji38) : Int).toNat * 16 + 12, none⟩ = some (.bool ((rd_T35 y177 (ji38)).f12)) := hcc42 12 _ rfl; have hx42_13 : w44.cell? ⟨go41, ((ji38) : Int).toNat * 16 + 13, none⟩ = some (.int .i64 ((rd_T35 y177 (ji38)).f13)) := hcc42 13 _ rfl; have hx42_14 : w44.cell? ⟨go41, ((ji38) : Int).toNat * 16 + 14, none⟩ = some (ve42_14) := hcc42 14 _ rfl; have hx42_15 : w44.cell? ⟨go41, ((ji38) : Int).toNat * 16 + 15, none⟩ = some (ve42_15) := hcc42 15 _ rfl; have hf42_0 : w44.frozen? ⟨go41, ((ji38) : Int).toNat * 16, none⟩ = false := hfr42 0; have hf42_1 : w44.frozen? ⟨go41, ((ji38) : Int).toNat * 16 + 1, none⟩ = false := hfr42 1; have hf42_2 : w44.frozen? ⟨go41, ((ji38) : Int).toNat * 16 + 2, none⟩ = false := hfr42 2; have hf42_3 : w44.frozen? ⟨go41, ((ji38) : Int).toNat * 16 + 3, none⟩ = false := hfr42 3; have hf42_4 : w44.frozen? ⟨go41, ((ji38) : Int).toNat * 16 + 4, none⟩ = false := hfr42 4; have hf42_5 : w44.frozen? ⟨go41, ((ji38) : Int).toNat * 16 + 5, none⟩ = false := hfr42 5; have hf42_6 : w44.frozen? ⟨go41, ((ji38) : Int).toNat * 16 + 6, none⟩ = false := hfr42 6; have hf42_7 : w44.frozen? ⟨go41, ((ji38) : Int).toNat * 16 + 7, none⟩ = false := hfr42 7; have hf42_8 : w44.frozen? ⟨go41, ((ji38) : Int).toNat * 16 + 8, none⟩ = false := hfr42 8; have hf42_9 : w44.frozen? ⟨go41, ((ji38) : Int).toNat * 16 + 9, none⟩ = false := hfr42 9; have hf42_10 : w44.frozen? ⟨go41, ((ji38) : Int).toNat * 16 + 10, none⟩ = false := hfr42 10; have hf42_11 : w44.frozen? ⟨go41, ((ji38) : Int).toNat * 16 + 11, none⟩ = false := hfr42 11; have hf42_12 : w44.frozen? ⟨go41, ((ji38) : Int).toNat * 16 + 12, none⟩ = false := hfr42 12; have hf42_13 : w44.frozen? ⟨go41, ((ji38) : Int).toNat * 16 + 13, none⟩ = false := hfr42 13; have hf42_14 : w44.frozen? ⟨go41, ((ji38) : Int).toNat * 16 + 14, none⟩ = false := hfr42 14; have hf42_15 : w44.frozen? ⟨go41, ((ji38) : Int).toNat * 16 + 15, none⟩ = false := hfr42 15; clear hcl42 hcc42 hfr42 hM42; replace p42 := eq_true p42; replace q42 := eq_true q42; have HX45 := Aside0.mk (show Kd.S k35 35 w44 w.heap.size (fun k_ => ((fun _ => True)) k_ ∧ ¬ ((fun _ => False)) k_) (.slice (some ⟨go41, 0, none⟩) x5_3.length co14) y177 from (by (with_reducible repeat (first | apply Kd.S_alloc | apply Kd.S_drewN | apply Kd.S_drew)); exact Kd.S_mono HO_5.out (fun k_ hk => ⟨trivial, fun e_ => e_⟩))); obtain ⟨oki45, ce45, hcl45, hM45, hcc45, hfr45, hoki45, hH45⟩ := Kd.S_elem HX45.out z35 ((ji38) : Int) (of_decide_eq_true (by first | (with_reducible assumption) | assumption)) (by have h_ : ((ji38) : Int) < ((x5_3.length : Int) : Int) := of_decide_eq_true (by first | (with_reducible assumption) | assumption); first | exact h_ | (have e_ := (Kd.S_reads' HO_5.out).1; omega) | simpa using h_); obtain ⟨ve45_14, ve45_15, rfl, ge45_14, ge45_15⟩ := k35_openM hM45; have HP45 := Kd.S_seg hH45 (of_decide_eq_true (by first | (with_reducible assumption) | assumption)) (by have h_ : ((ji38) : Int) < ((x5_3.length : Int) : Int) := of_decide_eq_true (by first | (with_reducible assumption) | assumption); first | exact h_ | (have e_ := (Kd.S_reads' HO_5.out).1; omega) | simpa using h_) (seg := [.int .i64 0]) (j := 1) (show 2 ≤ 16 from by decide) (x' := (⟨(rd_T35 y177 (ji38)).f0, 0, (rd_T35 y177 (ji38)).f2, (rd_T35 y177 (ji38)).f3, (rd_T35 y177 (ji38)).f4, (rd_T35 y177 (ji38)).f5, (rd_T35 y177 (ji38)).f6, (rd_T35 y177 (ji38)).f7, (rd_T35 y177 (ji38)).f8, (rd_T35 y177 (ji38)).f9, (rd_T35 y177 (ji38)).f10, (rd_T35 y177 (ji38)).f11, (rd_T35 y177 (ji38)).f12, (rd_T35 y177 (ji38)).f13, (rd_T35 y177 (ji38)).f14, (rd_T35 y177 (ji38)).f15⟩ : S35)) (k35_mkM _ _ _ (⟨(rd_T35 y177 (ji38)).f0, 0, (rd_T35 y177 (ji38)).f2, (rd_T35 y177 (ji38)).f3, (rd_T35 y177 (ji38)).f4, (rd_T35 y177 (ji38)).f5, (rd_T35 y177 (ji38)).f6, (rd_T35 y177 (ji38)).f7, (rd_T35 y177 (ji38)).f8, (rd_T35 y177 (ji38)).f9, (rd_T35 y177 (ji38)).f10, (rd_T35 y177 (ji38)).f11, (rd_T35 y177 (ji38)).f12, (rd_T35 y177 (ji38)).f13, (rd_T35 y177 (ji38)).f14, (rd_T35 y177 (ji38)).f15⟩ : S35) (Kd.R_mono ge45_14 (fun _ h_ => Or.inl h_)) (Kd.R_mono ge45_15 (fun _ h_ => Or.inl h_))) (fun _ hk => hk) (fun k_ hk_ => hk_.elim); have hx45_1 := hcc45 1 _ rfl; (try simp only [show (k35).sz = 16 from rfl, Nat.mul_one, Nat.add_zero] at hx45_1); have hf45_1 := hfr45 1; (try simp only [show (k35).sz = 16 from rfl, Nat.mul_one, Nat.add_zero] at hf45_1); clear hcl45 hcc45 hfr45 hM45 hoki45 hH45) | ((with_reducible refine gate_store (t := 3) (p := 63) rfl ?_); refine store_event (t := 3) (p := 63) (v := ?vo_w46) (w1 := (w44.setCell ⟨go41, ((ji38) : Int).toNat * 16 + 1, none⟩ (.int .i64 0))) ?hg ?ho ?hn ?hr ?_; (case ho => rfl); (case hg => rfl); (case hn => rfl); (case hr => first | (go_simp; done) | (go_simp; rfl)); intro w46 hw; have hg : w44.grownBy w46 (some go41) := (by rw [hw]; exact HP45.2); have hp_ : Kd.S k35 35 w46 w.heap.size (fun _ => True) (.slice (some ⟨go41, 0, none⟩) x5_3.length co14) y178 := (by rw [hw, Ny178.out]; exact HP45.1); clear HP45; have n0_ := Aside0.mk (hp_); have n1_ := Aside0.mk ((by rw [hw]; exact below_set (HB.out) GB41.out : Below w.heap.size w w46)); clear HO_5; clear HB; have HO_5 := n0_; have HB := n1_; clear n0_ n1_; clear hg hw hp_))
                                        first | go_meet | ((try simp only [← hji38]); go_meet)
                                        case rel => first | (exact ⟨_, (y178), H', ⟨by have := HJ2.out; have := HK2.out; have := HK3.out; have := HJ24.out; first | omega | exact Nat.le_refl _⟩, ⟨by (try simp only [hl5_2]); (try simp only [hl5_3]); (with_reducible repeat (first | apply Kd.S_alloc | apply Kd.S_drewN | apply Kd.S_drew)); exact HO_5.out⟩, ⟨by repeat (first | (with_reducible first | exact HB.out | apply below_alloc | apply pw_below_drewN | apply below_drew1) | exact HB.out)⟩⟩) | ((try simp only [hji38]); exact ⟨_, (y178), H', ⟨by have := HJ2.out; have := HK2.out; have := HK3.out; have := HJ24.out; first | omega | exact Nat.le_refl _⟩, ⟨by (try simp only [hl5_2]); (try simp only [hl5_3]); (with_reducible repeat (first | apply Kd.S_alloc | apply Kd.S_drewN | apply Kd.S_drew)); exact HO_5.out⟩, ⟨by repeat (first | (with_reducible first | exact HB.out | apply below_alloc | apply pw_below_drewN | apply below_drew1) | exact HB.out)⟩⟩)
                                      · rw [if_neg c40] at H
                                        exact absurd H (by simp)
                                    · rw [if_neg c39] at H
                                      exact absurd H (by simp)
                                  · rw [if_neg c37] at H
                                    have c37b0 : decide (80 ≤ (rd l0 x32_3)) = false := decide_eq_false c37
                                    clear c37
                                    replace H := Option.bind_eq_some_iff.mp H
                                    obtain ⟨t179, A470, H⟩ := H
                                    replace H : (if t179 = true then (if 0 ≤ (wrap64 (Int.tmod (rd l0 x32_3) 20)) then (if (wrap64 (Int.tmod (rd l0 x32_3) 20)) < (x5_3.length : Int) then (estoverslaw30_ThrottleLimits.j4 kj24 a1 (x5_3.set ((wrap64 (Int.tmod (rd l0 x32_3) 20)) : Int).toNat (⟨(rd_T35 x5_3 (wrap64 (Int.tmod (rd l0 x32_3) 20))).f0, (rd_T35 x5_3 (wrap64 (Int.tmod (rd l0 x32_3) 20))).f1, (rd_T35 x5_3 (wrap64 (Int.tmod (rd l0 x32_3) 20))).f2, (rd_T35 x5_3 (wrap64 (Int.tmod (rd l0 x32_3) 20))).f3, (rd_T35 x5_3 (wrap64 (Int.tmod (rd l0 x32_3) 20))).f4, (rd_T35 x5_3 (wrap64 (Int.tmod (rd l0 x32_3) 20))).f5, (rd_T35 x5_3 (wrap64 (Int.tmod (rd l0 x32_3) 20))).f6, (rd_T35 x5_3 (wrap64 (Int.tmod (rd l0 x32_3) 20))).f7, (rd_T35 x5_3 (wrap64 (Int.tmod (rd l0 x32_3) 20))).f8, (rd_T35 x5_3 (wrap64 (Int.tmod (rd l0 x32_3) 20))).f9, true, (rd_T35 x5_3 (wrap64 (Int.tmod (rd l0 x32_3) 20))).f11, (rd_T35 x5_3 (wrap64 (Int.tmod (rd l0 x32_3) 20))).f12, (rd_T35 x5_3 (wrap64 (Int.tmod (rd l0 x32_3) 20))).f13, (rd_T35 x5_3 (wrap64 (Int.tmod (rd l0 x32_3) 20))).f14, (rd_T35 x5_3 (wrap64 (Int.tmod (rd l0 x32_3) 20))).f15⟩ : S35)) l0 (l0.length : Int) x32_3) else (none)) else (none)) else (estoverslaw30_ThrottleLimits.j4 kj24 a1 x5_3 l0 (l0.length : Int) x32_3)) = some r := H
                                    have A47 := Aside0.mk A470
                                    clear A470
                                    by_cases c48 : t179 = true
                                    · subst c48
                                      have H1 : (if 0 ≤ (wrap64 (Int.tmod (rd l0 x32_3) 20)) then (if (wrap64 (Int.tmod (rd l0 x32_3) 20)) < (x5_3.length : Int) then (estoverslaw30_ThrottleLimits.j4 kj24 a1 (x5_3.set ((wrap64 (Int.tmod (rd l0 x32_3) 20)) : Int).toNat (⟨(rd_T35 x5_3 (wrap64 (Int.tmod (rd l0 x32_3) 20))).f0, (rd_T35 x5_3 (wrap64 (Int.tmod (rd l0 x32_3) 20))).f1, (rd_T35 x5_3 (wrap64 (Int.tmod (rd l0 x32_3) 20))).f2, (rd_T35 x5_3 (wrap64 (Int.tmod (rd l0 x32_3) 20))).f3, (rd_T35 x5_3 (wrap64 (Int.tmod (rd l0 x32_3) 20))).f4, (rd_T35 x5_3 (wrap64 (Int.tmod (rd l0 x32_3) 20))).f5, (rd_T35 x5_3 (wrap64 (Int.tmod (rd l0 x32_3) 20))).f6, (rd_T35 x5_3 (wrap64 (Int.tmod (rd l0 x32_3) 20))).f7, (rd_T35 x5_3 (wrap64 (Int.tmod (rd l0 x32_3) 20))).f8, (rd_T35 x5_3 (wrap64 (Int.tmod (rd l0 x32_3) 20))).f9, true, (rd_T35 x5_3 (wrap64 (Int.tmod (rd l0 x32_3) 20))).f11, (rd_T35 x5_3 (wrap64 (Int.tmod (rd l0 x32_3) 20))).f12, (rd_T35 x5_3 (wrap64 (Int.tmod (rd l0 x32_3) 20))).f13, (rd_T35 x5_3 (wrap64 (Int.tmod (rd l0 x32_3) 20))).f14, (rd_T35 x5_3 (wrap64 (Int.tmod (rd l0 x32_3) 20))).f15⟩ : S35)) l0 (l0.length : Int) x32_3) else (none)) else (none)) = some r := by rw [if_pos rfl] at H; exact H
                                      clear H
                                      have H := H1
                                      clear H1
                                      obtain ⟨ji49, hji49⟩ : ∃ j_ : Int, (wrap64 (Int.tmod (rd l0 x32_3) 20)) = j_ := ⟨_, rfl⟩
                                      replace H : (if 0 ≤ (ji49) then (if (ji49) < (x5_3.length : Int) then (estoverslaw30_ThrottleLimits.j4 kj24 a1 (x5_3.set ((ji49) : Int).toNat (⟨(rd_T35 x5_3 (ji49)).f0, (rd_T35 x5_3 (ji49)).f1, (rd_T35 x5_3 (ji49)).f2, (rd_T35 x5_3 (ji49)).f3, (rd_T35 x5_3 (ji49)).f4, (rd_T35 x5_3 (ji49)).f5, (rd_T35 x5_3 (ji49)).f6, (rd_T35 x5_3 (ji49)).f7, (rd_T35 x5_3 (ji49)).f8, (rd_T35 x5_3 (ji49)).f9, true, (rd_T35 x5_3 (ji49)).f11, (rd_T35 x5_3 (ji49)).f12, (rd_T35 x5_3 (ji49)).f13, (rd_T35 x5_3 (ji49)).f14, (rd_T35 x5_3 (ji49)).f15⟩ : S35)) l0 (l0.length : Int) x32_3) else (none)) else (none)) = some r := by first | (rw [hji49] at H; exact H) | (simp only [hji49] at H ⊢; exact H)
                                      (try rw [hji49] at A47)
                                      have hji49w : (IntKind.i64.wrap (Int.tmod (rd l0 x32_3) 20)) = ji49 := (i64_w _).trans hji49
                                      by_cases c50 : 0 ≤ (ji49)
                                      · rw [if_pos c50] at H
                                        have c50b0 : decide (0 ≤ (ji49)) = true := decide_eq_true c50
                                        clear c50
                                        by_cases c51 : (ji49) < (x5_3.length : Int)
                                        · rw [if_pos c51] at H
                                          have c51b0 : decide ((ji49) < (x5_3.length : Int)) = true := decide_eq_true c51
                                          (try (have c51b0x := c51b0; simp only [hl5_2, hl5_3] at c51b0x))
                                          clear c51
                                          obtain ⟨y180, hy180⟩ : ∃ y_ : List (S35), y_ = (x5_3.set ((ji49) : Int).toNat (⟨(rd_T35 x5_3 (ji49)).f0, (rd_T35 x5_3 (ji49)).f1, (rd_T35 x5_3 (ji49)).f2, (rd_T35 x5_3 (ji49)).f3, (rd_T35 x5_3 (ji49)).f4, (rd_T35 x5_3 (ji49)).f5, (rd_T35 x5_3 (ji49)).f6, (rd_T35 x5_3 (ji49)).f7, (rd_T35 x5_3 (ji49)).f8, (rd_T35 x5_3 (ji49)).f9, true, (rd_T35 x5_3 (ji49)).f11, (rd_T35 x5_3 (ji49)).f12, (rd_T35 x5_3 (ji49)).f13, (rd_T35 x5_3 (ji49)).f14, (rd_T35 x5_3 (ji49)).f15⟩ : S35)) := ⟨_, rfl⟩
                                          replace H : (estoverslaw30_ThrottleLimits.j4 kj24 a1 y180 l0 (l0.length : Int) x32_3) = some r := by first | (rw [hy180]; with_reducible exact H) | (have H2_ := (Option.bind_some _ _).symm.trans H; rw [hy180]; with_reducible exact H2_) | (have H2_ := (Option.bind_some _ _).symm.trans H; with_reducible exact H2_) | with_reducible exact H | (rw [hy180]; exact H) | exact H
                                          have Ny180 := Aside0.mk hy180
                                          clear hy180
                                          have H' := Aside0.mk H
                                          clear H
                                          go_wp2_with (first | ((with_reducible refine gate_callee (f := 23) rfl ?_); refine goesL_ (some 68) rfl rfl Try.func23 (by kernel_rfl) rfl #[.slice Ao14 x5_3.length co14, .int .i64 (wrap64 (a1))] rfl (by (try simp only [List.map_toArray, List.map_cons, List.map_nil]); first | done | rfl | (simp only [List.length_drop, List.length_take]; rfl)) ?_; (with_reducible refine (throttle_Allowed.calls kj24 _ _ x5_3 (wrap64 (a1)) true _ ?side1 ?side2 A47.out).mono ?_); (case side1 => repeat (first | exact (Kd.S_reads' HO_5.out).2.2 | (with_reducible refine Kd.C_alloc ?_ _) | (with_reducible refine Kd.C_drewN ?_ _) | (with_reducible refine Kd.C_drew ?_))); (case side2 => exact (Kd.S_reads' HO_5.out).2.1); rintro e w53 ⟨rfl, hb⟩; refine ⟨_, rfl, ?_⟩; have n0_ := Aside0.mk (Kd.S_below (by (with_reducible repeat (first | apply Kd.S_alloc | apply Kd.S_drewN | apply Kd.S_drew)); exact HO_5.out) hb); have n1_ := Aside0.mk (below_step (by repeat (first | (with_reducible first | exact HB.out | apply below_alloc | apply pw_below_drewN | apply below_drew1) | exact HB.out)) hb); clear HO_5; clear HB; have HO_5 := n0_; have HB := n1_; clear n0_ n1_; (try clear hb); (try clear hb2); (try clear hk); (try clear hi); have p52 : 0 ≤ ((ji49) : Int) := of_decide_eq_true (by first | (with_reducible assumption) | assumption); have q52 : ((ji49) : Int) < ((x5_3.length : Int) : Int) := of_decide_eq_true (by first | (with_reducible assumption) | assumption); obtain ⟨go52, co52, eo52, gb52, gl52, cl52, HG52⟩ := Kd.S_form HO_5.out (by omega); (first | cases eo52 | (injection eo52 with ea_ en_ ec_; (first | subst ea_ | (injection ea_ with ea_; subst ea_)); subst ec_; clear en_)); have GB52 := Aside0.mk gb52; have GG52 := Aside0.mk HG52; clear gb52 gl52 HG52; obtain ⟨_, ce52, hcl52, hM52, hcc52, hfr52, _, _⟩ := Kd.S_elem HO_5.out z35 ((ji49) : Int) p52 q52; obtain ⟨ve52_14, ve52_15, rfl, ge52_14, ge52_15⟩ := k35_openM hM52; have hx52_0 : w53.cell? ⟨go52, ((ji49) : Int).toNat * 16, none⟩ = some (.int .i64 ((rd_T35 x5_3 (ji49)).f0)) := hcc52 0 _ rfl; have hx52_1 : w53.cell? ⟨go52, ((ji49) : Int).toNat * 16 + 1, none⟩ = some (.int .i64 ((rd_T35 x5_3 (ji49)).f1)) := hcc52 1 _ rfl; have hx52_2 : w53.cell? ⟨go52, ((ji49) : Int).toNat * 16 + 2, none⟩ = some (.int .i64 ((rd_T35 x5_3 (ji49)).f2)) := hcc52 2 _ rfl; have hx52_3 : w53.cell? ⟨go52, ((ji49) : Int).toNat * 16 + 3, none⟩ = some (.int .i64 ((rd_T35 x5_3 (ji49)).f3)) := hcc52 3 _ rfl; have hx52_4 : w53.cell? ⟨go52, ((ji49) : Int).toNat * 16 + 4, none⟩ = some (.int .i64 ((rd_T35 x5_3 (ji49)).f4)) := hcc52 4 _ rfl; have hx52_5 : w53.cell? ⟨go52, ((ji49) : Int).toNat * 16 + 5, none⟩ = some (.int .i64 ((rd_T35 x5_3 (ji49)).f5)) := hcc52 5 _ rfl; have hx52_6 : w53.cell? ⟨go52, ((ji49) : Int).toNat * 16 + 6, none⟩ = some (.int .i64 ((rd_T35 x5_3 (ji49)).f6)) := hcc52 6 _ rfl; have hx52_7 : w53.cell? ⟨go52, ((ji49) : Int).toNat * 16 + 7, none⟩ = some (.int .i64 ((rd_T35 x5_3 (ji49)).f7)) := hcc52 7 _ rfl; have hx52_8 : w53.cell? ⟨go52, ((ji49) : Int).toNat * 16 + 8, none⟩ = some (.int .i64 ((rd_T35 x5_3 (ji49)).f8)) := hcc52 8 _ rfl; have hx52_9 : w53.cell? ⟨go52, ((ji49) : Int).toNat * 16 + 9, none⟩ = some (.int .i64 ((rd_T35 x5_3 (ji49)).f9)) := hcc52 9 _ rfl; have hx52_10 : w53.cell? ⟨go52, ((ji49) : Int).toNat * 16 + 10, none⟩ = some (.bool ((rd_T35 x5_3 (ji49)).f10)) := hcc52 10 _ rfl; have hx52_11 : w53.cell? ⟨go52, ((ji49) : Int).toNat * 16 + 11, none⟩ = some (.bool ((rd_T35 x5_3 (ji49)).f11)) := hcc52 11 _ rfl; have hx52_12 : w53.cell? ⟨go52, ((ji49) : Int).toNat * 16 + 12, none⟩ = some (.bool ((rd_T35 x5_3 (ji49)).f12)) := hcc52 12 _ rfl; have hx52_13 : w53.cell? ⟨go52, ((ji49) : Int).toNat * 16 + 13, none⟩ = some (.int .i64 ((rd_T35 x5_3 (ji49)).f13)) := hcc52 13 _ rfl; have hx52_14 : w53.cell? ⟨go52, ((ji49) : Int).toNat * 16 + 14, none⟩ = some (ve52_14) := hcc52 14 _ rfl; have hx52_15 : w53.cell? ⟨go52, ((ji49) : Int).toNat * 16 + 15, none⟩ = some (ve52_15) := hcc52 15 _ rfl; have hf52_0 : w53.frozen? ⟨go52, ((ji49) : Int).toNat * 16, none⟩ = false := hfr52 0; have hf52_1 : w53.frozen? ⟨go52, ((ji49) : Int).toNat * 16 + 1, none⟩ = false := hfr52 1; have hf52_2 : w53.frozen? ⟨go52, ((ji49) : Int).toNat * 16 + 2, none⟩ = false := hfr52 2; have hf52_3 : w53.frozen? ⟨go52, ((ji49) : Int).toNat * 16 + 3, none⟩ = false := hfr52 3; have hf52_4 : w53.frozen? ⟨go52, ((ji49) : Int).toNat * 16 + 4, none⟩ = false := hfr52 4; have hf52_5 : w53.frozen? ⟨go52, ((ji49) : Int).toNat * 16 + 5, none⟩ = false := hfr52 5; have hf52_6 : w53.frozen? ⟨go52, ((ji49) : Int).toNat * 16 + 6, none⟩ = false := hfr52 6; have hf52_7 : w53.frozen? ⟨go52, ((ji49) : Int).toNat * 16 + 7, none⟩ = false := hfr52 7; have hf52_8 : w53.frozen? ⟨go52, ((ji49) : Int).toNat * 16 + 8, none⟩ = false := hfr52 8; have hf52_9 : w53.frozen? ⟨go52, ((ji49) : Int).toNat * 16 + 9, none⟩ = false := hfr52 9; have hf52_10 : w53.frozen? ⟨go52, ((ji49) : Int).toNat * 16 + 10, none⟩ = false := hfr52 10; have hf52_11 : w53.frozen? ⟨go52, ((ji49) : Int).toNat * 16 + 11, none⟩ = false := hfr52 11; have hf52_12 : w53.frozen? ⟨go52, ((ji49) : Int).toNat * 16 + 12, none⟩ = false := hfr52 12; have hf52_13 : w53.frozen? ⟨go52, ((ji49) : Int).toNat * 16 + 13, none⟩ = false := hfr52 13; have hf52_14 : w53.frozen? ⟨go52, ((ji49) : Int).toNat * 16 + 14, none⟩ = false := hfr52 14; have hf52_15 : w53.frozen? ⟨go52, ((ji49) : Int).toNat * 16 + 15, none⟩ = false := hfr52 15; clear hcl52 hcc52 hfr52 hM52; replace p52 := eq_true p52; replace q52 := eq_true q52; have HX54 := Aside0.mk (show Kd.S k35 35 w53 w.heap.size (fun k_ => ((fun _ => True)) k_ ∧ ¬ ((fun _ => False)) k_) (.slice (some ⟨go52, 0, none⟩) x5_3.length co14) x5_3 from (by (with_reducible repeat (first | apply Kd.S_alloc | apply Kd.S_drewN | apply Kd.S_drew)); exact Kd.S_mono HO_5.out (fun k_ hk => ⟨trivial, fun e_ => e_⟩))); obtain ⟨oki54, ce54, hcl54, hM54, hcc54, hfr54, hoki54, hH54⟩ := Kd.S_elem HX54.out z35 ((ji49) : Int) (of_decide_eq_true (by first | (with_reducible assumption) | assumption)) (by have h_ : ((ji49) : Int) < ((x5_3.length : Int) : Int) := of_decide_eq_true (by first | (with_reducible assumption) | assumption); first | exact h_ | (have e_ := (Kd.S_reads' HO_5.out).1; omega) | simpa using h_); obtain ⟨ve54_14, ve54_15, rfl, ge54_14, ge54_15⟩ := k35_openM hM54; have HP54 := Kd.S_seg hH54 (of_decide_eq_true (by first | (with_reducible assumption) | assumption)) (by have h_ : ((ji49) : Int) < ((x5_3.length : Int) : Int) := of_decide_eq_true (by first | (with_reducible assumption) | assumption); first | exact h_ | (have e_ := (Kd.S_reads' HO_5.out).1; omega) | simpa using h_) (seg := [.bool true]) (j := 10) (show 11 ≤ 16 from by decide) (x' := (⟨(rd_T35 x5_3 (ji49)).f0, (rd_T35 x5_3 (ji49)).f1, (rd_T35 x5_3 (ji49)).f2, (rd_T35 x5_3 (ji49)).f3, (rd_T35 x5_3 (ji49)).f4, (rd_T35 x5_3 (ji49)).f5, (rd_T35 x5_3 (ji49)).f6, (rd_T35 x5_3 (ji49)).f7, (rd_T35 x5_3 (ji49)).f8, (rd_T35 x5_3 (ji49)).f9, true, (rd_T35 x5_3 (ji49)).f11, (rd_T35 x5_3 (ji49)).f12, (rd_T35 x5_3 (ji49)).f13, (rd_T35 x5_3 (ji49)).f14, (rd_T35 x5_3 (ji49)).f15⟩ : S35)) (k35_mkM _ _ _ (⟨(rd_T35 x5_3 (ji49)).f0, (rd_T35 x5_3 (ji49)).f1, (rd_T35 x5_3 (ji49)).f2, (rd_T35 x5_3 (ji49)).f3, (rd_T35 x5_3 (ji49)).f4, (rd_T35 x5_3 (ji49)).f5, (rd_T35 x5_3 (ji49)).f6, (rd_T35 x5_3 (ji49)).f7, (rd_T35 x5_3 (ji49)).f8, (rd_T35 x5_3 (ji49)).f9, true, (rd_T35 x5_3 (ji49)).f11, (rd_T35 x5_3 (ji49)).f12, (rd_T35 x5_3 (ji49)).f13, (rd_T35 x5_3 (ji49)).f14, (rd_T35 x5_3 (ji49)).f15⟩ : S35) (Kd.R_mono ge54_14 (fun _ h_ => Or.inl h_)) (Kd.R_mono ge54_15 (fun _ h_ => Or.inl h_))) (fun _ hk => hk) (fun k_ hk_ => hk_.elim); have hx54_10 := hcc54 10 _ rfl; (try simp only [show (k35).sz = 16 from rfl, Nat.mul_one, Nat.add_zero] at hx54_10); have hf54_10 := hfr54 10; (try simp only [show (k35).sz = 16 from rfl, Nat.mul_one, Nat.add_zero] at hf54_10); clear hcl54 hcc54 hfr54 hM54 hoki54 hH54) | ((with_reducible refine gate_store (t := 4) (p := 72) rfl ?_); refine store_event (t := 4) (p := 72) (v := ?vo_w55) (w1 := (w53.setCell ⟨go52, ((ji49) : Int).toNat * 16 + 10, none⟩ (.bool true))) ?hg ?ho ?hn ?hr ?_; (case ho => rfl); (case hg => rfl); (case hn => rfl); (case hr => first | (go_simp; done) | (go_simp; rfl)); intro w55 hw; have hg : w53.grownBy w55 (some go52) := (by rw [hw]; exact HP54.2); have hp_ : Kd.S k35 35 w55 w.heap.size (fun _ => True) (.slice (some ⟨go52, 0, none⟩) x5_3.length co14) y180 := (by rw [hw, Ny180.out]; exact HP54.1); clear HP54; have n0_ := Aside0.mk (hp_); have n1_ := Aside0.mk ((by rw [hw]; exact below_set (HB.out) GB52.out : Below w.heap.size w w55)); clear HO_5; clear HB; have HO_5 := n0_; have HB := n1_; clear n0_ n1_; clear hg hw hp_))
                                          first | go_meet | ((try simp only [← hji49]); go_meet)
                                          case rel => first | (exact ⟨_, (y180), H', ⟨by have := HJ2.out; have := HK2.out; have := HK3.out; have := HJ24.out; first | omega | exact Nat.le_refl _⟩, ⟨by (try simp only [hl5_2]); (try simp only [hl5_3]); (with_reducible repeat (first | apply Kd.S_alloc | apply Kd.S_drewN | apply Kd.S_drew)); exact HO_5.out⟩, ⟨by repeat (first | (with_reducible first | exact HB.out | apply below_alloc | apply pw_below_drewN | apply below_drew1) | exact HB.out)⟩⟩) | ((try simp only [hji49]); exact ⟨_, (y180), H', ⟨by have := HJ2.out; have := HK2.out; have := HK3.out; have := HJ24.out; first | omega | exact Nat.le_refl _⟩, ⟨by (try simp only [hl5_2]); (try simp only [hl5_3]); (with_reducible repeat (first | apply Kd.S_alloc | apply Kd.S_drewN | apply Kd.S_drew)); exact HO_5.out⟩, ⟨by repeat (first | (with_reducible first | exact HB.out | apply below_alloc | apply pw_below_drewN | apply below_drew1) | exact HB.out)⟩⟩)
                                        · rw [if_neg c51] at H
                                          exact absurd H (by simp)
                                      · rw [if_neg c50] at H
                                        exact absurd H (by simp)
                                    · replace c48 := Bool.eq_false_iff.mpr c48
                                      subst c48
                                      have H1 : (estoverslaw30_ThrottleLimits.j4 kj24 a1 x5_3 l0 (l0.length : Int) x32_3) = some r := by rw [if_neg (show ¬ (false = true) by decide)] at H; exact H
                                      clear H
                                      have H := H1
                                      clear H1
                                      have H' := Aside0.mk H
                                      clear H
                                      go_wp2_with (first | ((with_reducible refine gate_callee (f := 23) rfl ?_); refine goesL_ (some 68) rfl rfl Try.func23 (by kernel_rfl) rfl #[.slice Ao14 x5_3.length co14, .int .i64 (wrap64 (a1))] rfl (by (try simp only [List.map_toArray, List.map_cons, List.map_nil]); first | done | rfl | (simp only [List.length_drop, List.length_take]; rfl)) ?_; (with_reducible refine (throttle_Allowed.calls kj24 _ _ x5_3 (wrap64 (a1)) false _ ?side1 ?side2 A47.out).mono ?_); (case side1 => repeat (first | exact (Kd.S_reads' HO_5.out).2.2 | (with_reducible refine Kd.C_alloc ?_ _) | (with_reducible refine Kd.C_drewN ?_ _) | (with_reducible refine Kd.C_drew ?_))); (case side2 => exact (Kd.S_reads' HO_5.out).2.1); rintro e w56 ⟨rfl, hb⟩; refine ⟨_, rfl, ?_⟩; have n0_ := Aside0.mk (Kd.S_below (by (with_reducible repeat (first | apply Kd.S_alloc | apply Kd.S_drewN | apply Kd.S_drew)); exact HO_5.out) hb); have n1_ := Aside0.mk (below_step (by repeat (first | (with_reducible first | exact HB.out | apply below_alloc | apply pw_below_drewN | apply below_drew1) | exact HB.out)) hb); clear HO_5; clear HB; have HO_5 := n0_; have HB := n1_; clear n0_ n1_; (try clear hb); (try clear hb2); (try clear hk); (try clear hi)))
                                      go_meet
                                      case rel => exact ⟨_, (x5_3), H', ⟨by have := HJ2.out; have := HK2.out; have := HK3.out; have := HJ24.out; first | omega | exact Nat.le_refl _⟩, ⟨by (try simp only [hl5_2]); (try simp only [hl5_3]); (with_reducible repeat (first | apply Kd.S_alloc | apply Kd.S_drewN | apply Kd.S_drew)); exact HO_5.out⟩, ⟨by repeat (first | (with_reducible first | exact HB.out | apply below_alloc | apply pw_below_drewN | apply below_drew1) | exact HB.out)⟩⟩
                          case rest =>
                            clear HC24
                            try clear c1
                            try clear p1
                            try clear q1
                            try clear hx1
                            try clear c2
                            try clear p2
                            try clear c3
                            try clear p3
                            try clear q3
                            try clear hx3
                            try clear hf3
                            try clear c4
                            try clear p4
                            try clear q4
                            try clear hx4
                            try clear hf4
                            try clear c5
                            try clear p5
                            try clear q5
                            try clear hx5
                            try clear hf5
                            try clear c6
                            try clear p6
                            try clear c8
                            try clear c11
                            try clear c11b0
                            try clear c11b1
                            try clear c15
                            try clear c15b0
                            try clear c16
                            try clear c16b0
                            try clear c17
                            try clear c17b0
                            try clear p17
                            try clear q17
                            try clear hx17
                            try clear c18
                            try clear p18
                            try clear q18
                            try clear hx18
                            try clear hf18
                            try clear c19
                            try clear hx19
                            try clear hf19
                            try clear c21
                            try clear c21b0
                            try clear c22
                            try clear c22b0
                            try clear c23
                            try clear c23b0
                            try clear c26
                            try clear c26b0
                            try clear c28
                            try clear c28b0
                            try clear c29
                            try clear c29b0
                            try clear c30
                            try clear c32
                            try clear c32b0
                            try clear c33
                            try clear c33b0
                            try clear c34
                            try clear p34
                            try clear q34
                            try clear hx34
                            try clear hf34
                            try clear c35
                            try clear hx35
                            try clear hf35
                            try clear c37
                            try clear c37b0
                            try clear c39
                            try clear c39b0
                            try clear c40
                            try clear c40b0
                            try clear c41
                            try clear p41
                            try clear q41
                            try clear hx41
                            try clear hf41
                            try clear c42
                            try clear p42
                            try clear q42
                            try clear hx42
                            try clear hf42
                            try clear c43
                            try clear hx43
                            try clear hf43
                            try clear c45
                            try clear hx45
                            try clear hf45
                            try clear c48
                            try clear c50
                            try clear c50b0
                            try clear c51
                            try clear c51b0
                            try clear c52
                            try clear p52
                            try clear q52
                            try clear hx52
                            try clear hf52
                            try clear c54
                            try clear hx54
                            try clear hf54
                            try clear hx174_0
                            try clear hx175_0
                            try clear hx175_1
                            try clear hx175_10
                            try clear hx175_11
                            try clear hx175_12
                            try clear hx175_13
                            try clear hx175_14
                            try clear hx175_15
                            try clear hx175_2
                            try clear hx175_3
                            try clear hx175_4
                            try clear hx175_5
                            try clear hx175_6
                            try clear hx175_7
                            try clear hx175_8
                            try clear hx175_9
                            try clear hx18_0
                            try clear hx18_1
                            try clear hx18_10
                            try clear hx18_11
                            try clear hx18_12
                            try clear hx18_13
                            try clear hx18_14
                            try clear hx18_15
                            try clear hx18_2
                            try clear hx18_3
                            try clear hx18_4
                            try clear hx18_5
                            try clear hx18_6
                            try clear hx18_7
                            try clear hx18_8
                            try clear hx18_9
                            try clear hx19_0
                            try clear hx34_0
                            try clear hx34_1
                            try clear hx34_10
                            try clear hx34_11
                            try clear hx34_12
                            try clear hx34_13
                            try clear hx34_14
                            try clear hx34_15
                            try clear hx34_2
                            try clear hx34_3
                            try clear hx34_4
                            try clear hx34_5
                            try clear hx34_6
                            try clear hx34_7
                            try clear hx34_8
                            try clear hx34_9
                            try clear hx35_1
                            try clear hx41_0
                            try clear hx41_1
                            try clear hx41_10
                            try clear hx41_11
                            try clear hx41_12
                            try clear hx41_13
                            try clear hx41_14
                            try clear hx41_15
                            try clear hx41_2
                            try clear hx41_3
                            try clear hx41_4
                            try clear hx41_5
                            try clear hx41_6
                            try clear hx41_7
                            try clear hx41_8
                            try clear hx41_9
                            try clear hx42_0
                            try clear hx42_1
                            try clear hx42_10
                            try clear hx42_11
                            try clear hx42_12
                            try clear hx42_13
                            try clear hx42_14
                            try clear hx42_15
                            try clear hx42_2
                            try clear hx42_3
                            try clear hx42_4
                            try clear hx42_5
                            try clear hx42_6
                            try clear hx42_7
                            try clear hx42_8
                            try clear hx42_9
                            try clear hx43_10
                            try clear hx45_1
                            try clear hx52_0
                            try clear hx52_1
                            try clear hx52_10
                            try clear hx52_11
                            try clear hx52_12
                            try clear hx52_13
                            try clear hx52_14
                            try clear hx52_15
                            try clear hx52_2
                            try clear hx52_3
                            try clear hx52_4
                            try clear hx52_5
                            try clear hx52_6
                            try clear hx52_7
                            try clear hx52_8
                            try clear hx52_9
                            try clear hx54_10
                            try clear p1
                            try clear p17
                            try clear p174
                            try clear p175
                            try clear p18
                            try clear p2
                            try clear p34
                            try clear p41
                            try clear p42
                            try clear p52
                            try clear p6
                            try clear q1
                            try clear q17
                            try clear q174
                            try clear q175
                            try clear q18
                            try clear q34
                            try clear q41
                            try clear q42
                            try clear q52
                            obtain ⟨kq, x5_23, HA, HJ23, HO_5, HB⟩ := hcut
                            have hl5_23 := (Kd.S_reads' HO_5.out).1
                            rw [hl5_23] at HO_5
                            (try simp only [hl5_23])
                            cases kq with
                            | zero => exact absurd HA.out (by simp [estoverslaw30_ThrottleLimits.j4])
                            | succ kj23 =>
                              have H := HA.out
                              clear HA
                              simp only [estoverslaw30_ThrottleLimits.j4] at H
                              replace H := Option.bind_eq_some_iff.mp H
                              obtain ⟨t181, A570, H⟩ := H
                              replace H : (if t181 < 0 then (none) else (if t181 > (wrap64 (a1)) then (none) else ((throttle_Background.f t181 (wrap64 (a1))).bind fun t182 => (if t182 = true then (estoverslaw30_ThrottleLimits.l1 kj23 a1 x5_23 l0 (l0.length : Int) (wrap64 (x32_3 + 1))) else (if a1 > 0 then ((throttle_Allowed.f kj23 x5_23 (wrap64 (a1))).bind fun t183 => (if t183 = true then (estoverslaw30_ThrottleLimits.l1 kj23 a1 x5_23 l0 (l0.length : Int) (wrap64 (x32_3 + 1))) else (none))) else (estoverslaw30_ThrottleLimits.l1 kj23 a1 x5_23 l0 (l0.length : Int) (wrap64 (x32_3 + 1)))))))) = some r := H
                              have A57 := Aside0.mk A570
                              clear A570
                              by_cases c58 : t181 < 0
                              · rw [if_pos c58] at H
                                exact absurd H (by simp)
                              · rw [if_neg c58] at H
                                have c58b0 : decide (t181 < 0) = false := decide_eq_false c58
                                clear c58
                                by_cases c59 : t181 > (wrap64 (a1))
                                · rw [if_pos c59] at H
                                  exact absurd H (by simp)
                                · rw [if_neg c59] at H
                                  have c59b0 : decide ((wrap64 (a1)) < t181) = false := decide_eq_false c59
                                  clear c59
                                  replace H := Option.bind_eq_some_iff.mp H
                                  obtain ⟨t182, A600, H⟩ := H
                                  replace H : (if t182 = true then (estoverslaw30_ThrottleLimits.l1 kj23 a1 x5_23 l0 (l0.length : Int) (wrap64 (x32_3 + 1))) else (if a1 > 0 then ((throttle_Allowed.f kj23 x5_23 (wrap64 (a1))).bind fun t183 => (if t183 = true then (estoverslaw30_ThrottleLimits.l1 kj23 a1 x5_23 l0 (l0.length : Int) (wrap64 (x32_3 + 1))) else (none))) else (estoverslaw30_ThrottleLimits.l1 kj23 a1 x5_23 l0 (l0.length : Int) (wrap64 (x32_3 + 1))))) = some r := H
                                  have A60 := Aside0.mk A600
                                  clear A600
                                  by_cases c61 : t182 = true
                                  · subst c61
                                    have H1 : (estoverslaw30_ThrottleLimits.l1 kj23 a1 x5_23 l0 (l0.length : Int) (wrap64 (x32_3 + 1))) = some r := by rw [if_pos rfl] at H; exact H
                                    clear H
                                    have H := H1
                                    clear H1
                                    have H' := Aside0.mk H
                                    clear H
                                    go_wp2_with (first | ((with_reducible refine gate_callee (f := 24) rfl ?_); refine goesL_ (some 74) rfl rfl Try.func24 (by kernel_rfl) rfl #[.slice Ao14 x5_23.length co14] rfl (by (try simp only [List.map_toArray, List.map_cons, List.map_nil]); first | done | rfl | (simp only [List.length_drop, List.length_take]; rfl)) ?_; (with_reducible refine (throttle_Count.calls kj23 _ _ x5_23 t181 _ ?side1 ?side2 A57.out).mono ?_); (case side1 => repeat (first | exact (Kd.S_reads' HO_5.out).2.2 | (with_reducible refine Kd.C_alloc ?_ _) | (with_reducible refine Kd.C_drewN ?_ _) | (with_reducible refine Kd.C_drew ?_))); (case side2 => exact (Kd.S_reads' HO_5.out).2.1); rintro e w62 ⟨rfl, hb⟩; refine ⟨_, rfl, ?_⟩; have n0_ := Aside0.mk (Kd.S_below (by (with_reducible repeat (first | apply Kd.S_alloc | apply Kd.S_drewN | apply Kd.S_drew)); exact HO_5.out) hb); have n1_ := Aside0.mk (below_step (by repeat (first | (with_reducible first | exact HB.out | apply below_alloc | apply pw_below_drewN | apply below_drew1) | exact HB.out)) hb); clear HO_5; clear HB; have HO_5 := n0_; have HB := n1_; clear n0_ n1_; (try clear hb); (try clear hb2); (try clear hk); (try clear hi)) | (go_at_call 17; (with_reducible refine (throttle_Background.calls t181 (wrap64 (a1)) true _ A60.out).mono ?_); rintro e w' ⟨rfl, ⟨nd, rfl⟩⟩))
                                    (try simp only [← hl5_3, ← hl5_23])
                                    go_roundg kj23
                                    case measure => have := HJ2.out; have := HK2.out; have := HK3.out; have := HJ23.out; omega
                                    case rel => exact ⟨(x5_23), (wrap64 (x32_3 + 1)), (by first | rfl | (simp; done) | (simp [*]; done)), H', ⟨by have := HJ2.out; have := HK2.out; have := HK3.out; have := HJ23.out; omega⟩, ⟨by (try simp only [hl5_2]); (try simp only [hl5_3]); (try simp only [hl5_23]); (with_reducible repeat (first | apply Kd.S_alloc | apply Kd.S_drewN | apply Kd.S_drew)); exact HO_5.out⟩, ⟨by repeat (first | (with_reducible first | exact HB.out | apply below_alloc | apply pw_below_drewN | apply below_drew1) | exact HB.out)⟩⟩
                                  · replace c61 := Bool.eq_false_iff.mpr c61
                                    subst c61
                                    have H1 : (if a1 > 0 then ((throttle_Allowed.f kj23 x5_23 (wrap64 (a1))).bind fun t183 => (if t183 = true then (estoverslaw30_ThrottleLimits.l1 kj23 a1 x5_23 l0 (l0.length : Int) (wrap64 (x32_3 + 1))) else (none))) else (estoverslaw30_ThrottleLimits.l1 kj23 a1 x5_23 l0 (l0.length : Int) (wrap64 (x32_3 + 1)))) = some r := by rw [if_neg (show ¬ (false = true) by decide)] at H; exact H
                                    clear H
                                    have H := H1
                                    clear H1
                                    by_cases c63 : a1 > 0
                                    · rw [if_pos c63] at H
                                      have c63b0 : decide (0 < a1) = true := decide_eq_true c63
                                      clear c63
                                      replace H := Option.bind_eq_some_iff.mp H
                                      obtain ⟨t183, A640, H⟩ := H
                                      replace H : (if t183 = true then (estoverslaw30_ThrottleLimits.l1 kj23 a1 x5_23 l0 (l0.length : Int) (wrap64 (x32_3 + 1))) else (none)) = some r := H
                                      have A64 := Aside0.mk A640
                                      clear A640
                                      by_cases c65 : t183 = true
                                      · subst c65
                                        have H1 : (estoverslaw30_ThrottleLimits.l1 kj23 a1 x5_23 l0 (l0.length : Int) (wrap64 (x32_3 + 1))) = some r := by rw [if_pos rfl] at H; exact H
                                        clear H
                                        have H := H1
                                        clear H1
                                        have H' := Aside0.mk H
                                        clear H
                                        go_wp2_with (first | ((with_reducible refine gate_callee (f := 24) rfl ?_); refine goesL_ (some 74) rfl rfl Try.func24 (by kernel_rfl) rfl #[.slice Ao14 x5_23.length co14] rfl (by (try simp only [List.map_toArray, List.map_cons, List.map_nil]); first | done | rfl | (simp only [List.length_drop, List.length_take]; rfl)) ?_; (with_reducible refine (throttle_Count.calls kj23 _ _ x5_23 t181 _ ?side1 ?side2 A57.out).mono ?_); (case side1 => repeat (first | exact (Kd.S_reads' HO_5.out).2.2 | (with_reducible refine Kd.C_alloc ?_ _) | (with_reducible refine Kd.C_drewN ?_ _) | (with_reducible refine Kd.C_drew ?_))); (case side2 => exact (Kd.S_reads' HO_5.out).2.1); rintro e w66 ⟨rfl, hb⟩; refine ⟨_, rfl, ?_⟩; have n0_ := Aside0.mk (Kd.S_below (by (with_reducible repeat (first | apply Kd.S_alloc | apply Kd.S_drewN | apply Kd.S_drew)); exact HO_5.out) hb); have n1_ := Aside0.mk (below_step (by repeat (first | (with_reducible first | exact HB.out | apply below_alloc | apply pw_below_drewN | apply below_drew1) | exact HB.out)) hb); clear HO_5; clear HB; have HO_5 := n0_; have HB := n1_; clear n0_ n1_; (try clear hb); (try clear hb2); (try clear hk); (try clear hi)) | (go_at_call 17; (with_reducible refine (throttle_Background.calls t181 (wrap64 (a1)) false _ A60.out).mono ?_); rintro e w' ⟨rfl, ⟨nd, rfl⟩⟩) | (go_at_call 23; (with_reducible refine (throttle_Allowed.calls kj23 _ _ x5_23 (wrap64 (a1)) true _ ?side1 ?side2 A64.out).mono ?_); (case side1 => repeat (first | exact (Kd.S_reads' HO_5.out).2.2 | (with_reducible refine Kd.C_alloc ?_ _) | (with_reducible refine Kd.C_drewN ?_ _) | (with_reducible refine Kd.C_drew ?_))); (case side2 => exact (Kd.S_reads' HO_5.out).2.1); rintro e w67 ⟨rfl, hb⟩; have n0_ := Aside0.mk (Kd.S_below (by (with_reducible repeat (first | apply Kd.S_alloc | apply Kd.S_drewN | apply Kd.S_drew)); exact HO_5.out) hb); have n1_ := Aside0.mk (below_step (by repeat (first | (with_reducible first | exact HB.out | apply below_alloc | apply pw_below_drewN | apply below_drew1) | exact HB.out)) hb); clear HO_5; clear HB; have HO_5 := n0_; have HB := n1_; clear n0_ n1_; (try clear hb); (try clear hb2); (try clear hk); (try clear hi)))
                                        (try simp only [← hl5_3, ← hl5_23])
                                        go_roundg kj23
                                        case measure => have := HJ2.out; have := HK2.out; have := HK3.out; have := HJ23.out; omega
                                        case rel => exact ⟨(x5_23), (wrap64 (x32_3 + 1)), (by first | rfl | (simp; done) | (simp [*]; done)), H', ⟨by have := HJ2.out; have := HK2.out; have := HK3.out; have := HJ23.out; omega⟩, ⟨by (try simp only [hl5_2]); (try simp only [hl5_3]); (try simp only [hl5_23]); (with_reducible repeat (first | apply Kd.S_alloc | apply Kd.S_drewN | apply Kd.S_drew)); exact HO_5.out⟩, ⟨by repeat (first | (with_reducible first | exact HB.out | apply below_alloc | apply pw_below_drewN | apply below_drew1) | exact HB.out)⟩⟩
                                      · replace c65 := Bool.eq_false_iff.mpr c65
                                        subst c65
                                        have H1 : (none) = some r := by rw [if_neg (show ¬ (false = true) by decide)] at H; exact H
                                        clear H
                                        have H := H1
                                        clear H1
                                        exact absurd H (by simp)
                                    · rw [if_neg c63] at H
                                      have c63b0 : decide (0 < a1) = false := decide_eq_false c63
                                      clear c63
                                      have H' := Aside0.mk H
                                      clear H
                                      go_wp2_with (first | ((with_reducible refine gate_callee (f := 24) rfl ?_); refine goesL_ (some 74) rfl rfl Try.func24 (by kernel_rfl) rfl #[.slice Ao14 x5_23.length co14] rfl (by (try simp only [List.map_toArray, List.map_cons, List.map_nil]); first | done | rfl | (simp only [List.length_drop, List.length_take]; rfl)) ?_; (with_reducible refine (throttle_Count.calls kj23 _ _ x5_23 t181 _ ?side1 ?side2 A57.out).mono ?_); (case side1 => repeat (first | exact (Kd.S_reads' HO_5.out).2.2 | (with_reducible refine Kd.C_alloc ?_ _) | (with_reducible refine Kd.C_drewN ?_ _) | (with_reducible refine Kd.C_drew ?_))); (case side2 => exact (Kd.S_reads' HO_5.out).2.1); rintro e w68 ⟨rfl, hb⟩; refine ⟨_, rfl, ?_⟩; have n0_ := Aside0.mk (Kd.S_below (by (with_reducible repeat (first | apply Kd.S_alloc | apply Kd.S_drewN | apply Kd.S_drew)); exact HO_5.out) hb); have n1_ := Aside0.mk (below_step (by repeat (first | (with_reducible first | exact HB.out | apply below_alloc | apply pw_below_drewN | apply below_drew1) | exact HB.out)) hb); clear HO_5; clear HB; have HO_5 := n0_; have HB := n1_; clear n0_ n1_; (try clear hb); (try clear hb2); (try clear hk); (try clear hi)) | (go_at_call 17; (with_reducible refine (throttle_Background.calls t181 (wrap64 (a1)) false _ A60.out).mono ?_); rintro e w' ⟨rfl, ⟨nd, rfl⟩⟩))
                                      (try simp only [← hl5_3, ← hl5_23])
                                      go_roundg kj23
                                      case measure => have := HJ2.out; have := HK2.out; have := HK3.out; have := HJ23.out; omega
                                      case rel => exact ⟨(x5_23), (wrap64 (x32_3 + 1)), (by first | rfl | (simp; done) | (simp [*]; done)), H', ⟨by have := HJ2.out; have := HK2.out; have := HK3.out; have := HJ23.out; omega⟩, ⟨by (try simp only [hl5_2]); (try simp only [hl5_3]); (try simp only [hl5_23]); (with_reducible repeat (first | apply Kd.S_alloc | apply Kd.S_drewN | apply Kd.S_drew)); exact HO_5.out⟩, ⟨by repeat (first | (with_reducible first | exact HB.out | apply below_alloc | apply pw_below_drewN | apply below_drew1) | exact HB.out)⟩⟩
                        · rw [if_neg c23] at H
                          exact absurd H (by simp)
                      · rw [if_neg c22] at H
                        exact absurd H (by simp)
                    · rw [if_neg c21] at H
                      have c21b0 : decide (x32_3 < (l0.length : Int)) = false := decide_eq_false c21
                      (try (have c21b0x := c21b0; simp only [hl5_2, hl5_3] at c21b0x))
                      clear c21
                      obtain rfl := Option.some.inj H
                      go_wp2
                      go_ret
                      exact ⟨by first | rfl | (simp [errW_none, errW_some] <;> rfl) | (simp [*, errW_none, errW_some] <;> rfl), by repeat (first | (with_reducible first | exact HB.out | apply below_alloc | apply pw_below_drewN | apply below_drew1) | exact HB.out)⟩
        · rw [if_neg c11] at H
          exact absurd H (by simp)

/-- THE ONE PURE STATEMENT of estoverslaw30_ThrottleLimits: yours. -/
def estoverslaw30_ThrottleLimits.Pure : Prop := ∀ (l0 : List Int) (a1 : Int), l0.length ≤ maxLen → l0.length * 1 ≤ 140737488351232 → (∀ x ∈ l0, (Lit.int .u8 x).wf = true) → (Lit.int .u8 a1).wf = true → ∃ k, estoverslaw30_ThrottleLimits.f k l0 a1 = some true
theorem estoverslaw30_ThrottleLimits.walk (P : estoverslaw30_ThrottleLimits.Pure) (a0 : Option Addr) (len0 cap0 : Nat) (z0 : List Int) (a1 : Int) (w : World) (w0 : (a0 = none ∧ len0 = 0 ∧ cap0 = 0 ∧ z0 = []) ∨ ∃ x, a0 = some x ∧ len0 ≤ cap0 ∧ cap0 ≤ maxLen ∧ z0.length = cap0 ∧ (∀ i, i < z0.length → w.cell? (x.add i) = some (.int .u8 (z0.getD i 0))) ∧ ∀ n ∈ z0, (Lit.int .u8 n).wf = true) (y0 : len0 * 1 ≤ 140737488351232) (w1 : (Lit.int .u8 a1).wf = true) :
    Calls Try.prog 6 #[.slice a0 len0 cap0, .int .u8 a1] w fun e w' => e = .returned (.bool true) ∧ Below w.heap.size w w' := by
  obtain ⟨l0, rfl, hr0, hm0, hw0, hc0⟩ := ReadsInt.ofRowC w0
  obtain ⟨k, h⟩ := P l0 a1 hm0 y0 hw0 w1
  refine (estoverslaw30_ThrottleLimits.calls k _ _ l0 a1 true w (Kd.C_of_reads (d := (0 : Int)) (h1 := fun _ => rfl) hr0) hc0 h).mono ?_
  rintro e w' ⟨rfl, hd⟩
  exact ⟨rfl, hd⟩

end Go.Proofs.Ytpomppjeknmciaa.PThrottleLimits
