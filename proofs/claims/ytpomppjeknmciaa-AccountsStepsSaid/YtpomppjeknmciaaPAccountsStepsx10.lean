-- Printed by a copy of the kit's printer that this session has patched (wip/tools/patch_print.py): the session's own text. Lean checks it.
import Derived.Test.YtpomppjeknmciaaPAccountsStepsx0
import Derived.Test.YtpomppjeknmciaaPAccountsStepsx5
import Derived.Test.YtpomppjeknmciaaPAccountsStepsx6
import Derived.Test.YtpomppjeknmciaaPAccountsStepsx9
namespace Go.Proofs.Ytpomppjeknmciaa.PAccountsSteps
open Go.RowKit Go.Proofs.YtpomppjeknmciaaW.PrintWords Go.Proofs.YtpomppjeknmciaaW.PrintLast Go.Proofs.YtpomppjeknmciaaW.PrintMore
attribute [local go_sem] max2_int min2_int max_two min_two max_three min_three max_four min_four   -- for this text's walks alone
set_option linter.unusedVariables false
set_option linter.unusedSimpArgs false

/-! ### estoverslaw19_AccountsSteps: function 11 -/
mutual
def estoverslaw19_AccountsSteps.j0 : Nat → List (S43) → List (S52) → Bool → Option (Bool)
  | 0, _, _, _ => none
  | k + 1, x0, x1, x24 => if x24 = true then ((estoverslaw19_awake.f k).bind fun t303 => (some t303)) else (estoverslaw19_AccountsSteps.l0 k x0 x1 (x1.length : Int) 0)
def estoverslaw19_AccountsSteps.l0 : Nat → List (S43) → List (S52) → Int → Int → Option (Bool)
  | 0, _, _, _, _ => none
  | k + 1, x0, x26, x27, x28 => if x28 < x27 then (if 0 ≤ x28 then (if x28 < (x26.length : Int) then ((accounts_Charge.f k x0 ((rd_T52 x26 x28).f1) ((rd_T52 x26 x28).f2)).bind fun bt306 => ((estoversref19_Charge.f k x0 ((rd_T52 x26 x28).f1) ((rd_T52 x26 x28).f2)).bind fun bt311 => (if (rd_T52 x26 x28).f0 = true then ((accounts_Uncharge.f k x0 ((rd_T52 x26 x28).f1) ((rd_T52 x26 x28).f2)).bind fun bt316 => ((estoversref19_Uncharge.f k x0 ((rd_T52 x26 x28).f1) ((rd_T52 x26 x28).f2)).bind fun bt320 => (estoverslaw19_AccountsSteps.j2 k x0 bt316.1 0 bt316.2 bt320.1 0 bt320.2 x26 x27 x28))) else (estoverslaw19_AccountsSteps.j2 k x0 bt306.1 bt306.2.1 bt306.2.2 bt311.1 bt311.2.1 bt311.2.2 x26 x27 x28)))) else (none)) else (none)) else (some true)
def estoverslaw19_AccountsSteps.j2 : Nat → List (S43) → List (S43) → Int → Int → List (S43) → Int → Int → List (S52) → Int → Int → Option (Bool)
  | 0, _, _, _, _, _, _, _, _, _, _ => none
  | k + 1, x0, x7, x8, x9, x10, x11, x12, x26, x27, x28 => if x9 = x12 then (if x8 = x11 then ((estoversref19_Same.f k x7 x10).bind fun t324 => (estoverslaw19_AccountsSteps.j3 k x0 x10 x12 x26 x27 x28 (!t324))) else (estoverslaw19_AccountsSteps.j3 k x0 x10 x12 x26 x27 x28 true)) else (estoverslaw19_AccountsSteps.j3 k x0 x10 x12 x26 x27 x28 true)
def estoverslaw19_AccountsSteps.j3 : Nat → List (S43) → List (S43) → Int → List (S52) → Int → Int → Bool → Option (Bool)
  | 0, _, _, _, _, _, _, _ => none
  | k + 1, x0, x10, x12, x26, x27, x28, x85 => if x85 = true then (none) else (if x12 = 0 then (estoverslaw19_AccountsSteps.l0 k x10 x26 x27 (wrap64 (x28 + 1))) else (estoverslaw19_AccountsSteps.l0 k x0 x26 x27 (wrap64 (x28 + 1))))
end
def estoverslaw19_AccountsSteps.f (k : Nat) (l0 : List (S43)) (l1 : List (S52)) : Option (Bool) := (estoverslaw19_awake.f k).bind fun t301 => (if t301 = true then ((estoverslaw19_Few.f l0).bind fun t302 => (if t302 = true then (estoverslaw19_AccountsSteps.j0 k l0 l1 (decide ((l1.length : Int) > 40))) else (estoverslaw19_AccountsSteps.j0 k l0 l1 true))) else (estoverslaw19_AccountsSteps.j0 k l0 l1 true))
theorem estoverslaw19_AccountsSteps.mono_l : ∀ k, (∀ y0 y1 y2, LeO (estoverslaw19_AccountsSteps.j0 k y0 y1 y2) (estoverslaw19_AccountsSteps.j0 (k + 1) y0 y1 y2)) ∧ (∀ y0 y1 y2 y3, LeO (estoverslaw19_AccountsSteps.l0 k y0 y1 y2 y3) (estoverslaw19_AccountsSteps.l0 (k + 1) y0 y1 y2 y3)) ∧ (∀ y0 y1 y2 y3 y4 y5 y6 y7 y8 y9, LeO (estoverslaw19_AccountsSteps.j2 k y0 y1 y2 y3 y4 y5 y6 y7 y8 y9) (estoverslaw19_AccountsSteps.j2 (k + 1) y0 y1 y2 y3 y4 y5 y6 y7 y8 y9)) ∧ (∀ y0 y1 y2 y3 y4 y5 y6, LeO (estoverslaw19_AccountsSteps.j3 k y0 y1 y2 y3 y4 y5 y6) (estoverslaw19_AccountsSteps.j3 (k + 1) y0 y1 y2 y3 y4 y5 y6))
  | 0 => ⟨fun _ _ _ r h => by simp [estoverslaw19_AccountsSteps.j0] at h, fun _ _ _ _ r h => by simp [estoverslaw19_AccountsSteps.l0] at h, fun _ _ _ _ _ _ _ _ _ _ r h => by simp [estoverslaw19_AccountsSteps.j2] at h, fun _ _ _ _ _ _ _ r h => by simp [estoverslaw19_AccountsSteps.j3] at h⟩
  | k + 1 => by
    obtain ⟨ih0, ih1, ih2, ih3⟩ := estoverslaw19_AccountsSteps.mono_l k
    refine ⟨?_, ?_, ?_, ?_⟩
    · intro y0 y1 y2
      unfold estoverslaw19_AccountsSteps.j0
      repeat' first
      | (with_reducible exact ih0 _ _ _)
      | (with_reducible exact ih1 _ _ _ _)
      | (with_reducible exact ih2 _ _ _ _ _ _ _ _ _ _)
      | (with_reducible exact ih3 _ _ _ _ _ _ _)
      | (with_reducible exact accounts_Charge.mono _ _ _ _)
      | (with_reducible exact accounts_Uncharge.mono _ _ _ _)
      | (with_reducible exact estoverslaw19_awake.mono _)
      | (with_reducible exact estoversref19_Charge.mono _ _ _ _)
      | (with_reducible exact estoversref19_Same.mono _ _ _)
      | (with_reducible exact estoversref19_Uncharge.mono _ _ _ _)
      | (with_reducible exact LeO.refl _)
      | (with_reducible exact LeO.none _)
      | (with_reducible refine LeO.ite ?_ ?_)
      | (with_reducible refine LeO.bind ?_ (fun _ => ?_))
      | exact ih0 _ _ _
      | exact ih1 _ _ _ _
      | exact ih2 _ _ _ _ _ _ _ _ _ _
      | exact ih3 _ _ _ _ _ _ _
      | exact accounts_Charge.mono _ _ _ _
      | exact accounts_Uncharge.mono _ _ _ _
      | exact estoverslaw19_awake.mono _
      | exact estoversref19_Charge.mono _ _ _ _
      | exact estoversref19_Same.mono _ _ _
      | exact estoversref19_Uncharge.mono _ _ _ _
      | exact LeO.none _
      | refine LeO.ite ?_ ?_
      | refine LeO.bind ?_ (fun _ => ?_)
    · intro y0 y1 y2 y3
      unfold estoverslaw19_AccountsSteps.l0
      repeat' first
      | (with_reducible exact ih0 _ _ _)
      | (with_reducible exact ih1 _ _ _ _)
      | (with_reducible exact ih2 _ _ _ _ _ _ _ _ _ _)
      | (with_reducible exact ih3 _ _ _ _ _ _ _)
      | (with_reducible exact accounts_Charge.mono _ _ _ _)
      | (with_reducible exact accounts_Uncharge.mono _ _ _ _)
      | (with_reducible exact estoverslaw19_awake.mono _)
      | (with_reducible exact estoversref19_Charge.mono _ _ _ _)
      | (with_reducible exact estoversref19_Same.mono _ _ _)
      | (with_reducible exact estoversref19_Uncharge.mono _ _ _ _)
      | (with_reducible exact LeO.refl _)
      | (with_reducible exact LeO.none _)
      | (with_reducible refine LeO.ite ?_ ?_)
      | (with_reducible refine LeO.bind ?_ (fun _ => ?_))
      | exact ih0 _ _ _
      | exact ih1 _ _ _ _
      | exact ih2 _ _ _ _ _ _ _ _ _ _
      | exact ih3 _ _ _ _ _ _ _
      | exact accounts_Charge.mono _ _ _ _
      | exact accounts_Uncharge.mono _ _ _ _
      | exact estoverslaw19_awake.mono _
      | exact estoversref19_Charge.mono _ _ _ _
      | exact estoversref19_Same.mono _ _ _
      | exact estoversref19_Uncharge.mono _ _ _ _
      | exact LeO.none _
      | refine LeO.ite ?_ ?_
      | refine LeO.bind ?_ (fun _ => ?_)
    · intro y0 y1 y2 y3 y4 y5 y6 y7 y8 y9
      unfold estoverslaw19_AccountsSteps.j2
      repeat' first
      | (with_reducible exact ih0 _ _ _)
      | (with_reducible exact ih1 _ _ _ _)
      | (with_reducible exact ih2 _ _ _ _ _ _ _ _ _ _)
      | (with_reducible exact ih3 _ _ _ _ _ _ _)
      | (with_reducible exact accounts_Charge.mono _ _ _ _)
      | (with_reducible exact accounts_Uncharge.mono _ _ _ _)
      | (with_reducible exact estoverslaw19_awake.mono _)
      | (with_reducible exact estoversref19_Charge.mono _ _ _ _)
      | (with_reducible exact estoversref19_Same.mono _ _ _)
      | (with_reducible exact estoversref19_Uncharge.mono _ _ _ _)
      | (with_reducible exact LeO.refl _)
      | (with_reducible exact LeO.none _)
      | (with_reducible refine LeO.ite ?_ ?_)
      | (with_reducible refine LeO.bind ?_ (fun _ => ?_))
      | exact ih0 _ _ _
      | exact ih1 _ _ _ _
      | exact ih2 _ _ _ _ _ _ _ _ _ _
      | exact ih3 _ _ _ _ _ _ _
      | exact accounts_Charge.mono _ _ _ _
      | exact accounts_Uncharge.mono _ _ _ _
      | exact estoverslaw19_awake.mono _
      | exact estoversref19_Charge.mono _ _ _ _
      | exact estoversref19_Same.mono _ _ _
      | exact estoversref19_Uncharge.mono _ _ _ _
      | exact LeO.none _
      | refine LeO.ite ?_ ?_
      | refine LeO.bind ?_ (fun _ => ?_)
    · intro y0 y1 y2 y3 y4 y5 y6
      unfold estoverslaw19_AccountsSteps.j3
      repeat' first
      | (with_reducible exact ih0 _ _ _)
      | (with_reducible exact ih1 _ _ _ _)
      | (with_reducible exact ih2 _ _ _ _ _ _ _ _ _ _)
      | (with_reducible exact ih3 _ _ _ _ _ _ _)
      | (with_reducible exact accounts_Charge.mono _ _ _ _)
      | (with_reducible exact accounts_Uncharge.mono _ _ _ _)
      | (with_reducible exact estoverslaw19_awake.mono _)
      | (with_reducible exact estoversref19_Charge.mono _ _ _ _)
      | (with_reducible exact estoversref19_Same.mono _ _ _)
      | (with_reducible exact estoversref19_Uncharge.mono _ _ _ _)
      | (with_reducible exact LeO.refl _)
      | (with_reducible exact LeO.none _)
      | (with_reducible refine LeO.ite ?_ ?_)
      | (with_reducible refine LeO.bind ?_ (fun _ => ?_))
      | exact ih0 _ _ _
      | exact ih1 _ _ _ _
      | exact ih2 _ _ _ _ _ _ _ _ _ _
      | exact ih3 _ _ _ _ _ _ _
      | exact accounts_Charge.mono _ _ _ _
      | exact accounts_Uncharge.mono _ _ _ _
      | exact estoverslaw19_awake.mono _
      | exact estoversref19_Charge.mono _ _ _ _
      | exact estoversref19_Same.mono _ _ _
      | exact estoversref19_Uncharge.mono _ _ _ _
      | exact LeO.none _
      | refine LeO.ite ?_ ?_
      | refine LeO.bind ?_ (fun _ => ?_)
theorem estoverslaw19_AccountsSteps.mono : ∀ a0 a1 k, LeO (estoverslaw19_AccountsSteps.f k a0 a1) (estoverslaw19_AccountsSteps.f (k + 1) a0 a1) := by
  intro a0 a1 k
  obtain ⟨ih0, ih1, ih2, ih3⟩ := estoverslaw19_AccountsSteps.mono_l k
  unfold estoverslaw19_AccountsSteps.f
  repeat' first
      | (with_reducible exact ih0 _ _ _)
      | (with_reducible exact ih1 _ _ _ _)
      | (with_reducible exact ih2 _ _ _ _ _ _ _ _ _ _)
      | (with_reducible exact ih3 _ _ _ _ _ _ _)
      | (with_reducible exact accounts_Charge.mono _ _ _ _)
      | (with_reducible exact accounts_Uncharge.mono _ _ _ _)
      | (with_reducible exact estoverslaw19_awake.mono _)
      | (with_reducible exact estoversref19_Charge.mono _ _ _ _)
      | (with_reducible exact estoversref19_Same.mono _ _ _)
      | (with_reducible exact estoversref19_Uncharge.mono _ _ _ _)
      | (with_reducible exact LeO.refl _)
      | (with_reducible exact LeO.none _)
      | (with_reducible refine LeO.ite ?_ ?_)
      | (with_reducible refine LeO.bind ?_ (fun _ => ?_))
      | exact ih0 _ _ _
      | exact ih1 _ _ _ _
      | exact ih2 _ _ _ _ _ _ _ _ _ _
      | exact ih3 _ _ _ _ _ _ _
      | exact accounts_Charge.mono _ _ _ _
      | exact accounts_Uncharge.mono _ _ _ _
      | exact estoverslaw19_awake.mono _
      | exact estoversref19_Charge.mono _ _ _ _
      | exact estoversref19_Same.mono _ _ _
      | exact estoversref19_Uncharge.mono _ _ _ _
      | exact LeO.none _
      | refine LeO.ite ?_ ?_
      | refine LeO.bind ?_ (fun _ => ?_)
set_option maxHeartbeats 8000000 in
set_option maxRecDepth 100000 in
theorem estoverslaw19_AccountsSteps.calls (k : Nat) (P0_ : Nat → Prop) (A0 : Option Addr) (c0 : Nat) (l0 : List (S43)) (A1 : Option Addr) (c1 : Nat) (l1 : List (S52)) (r : Bool) (w : World) (hs0 : Kd.V k43 43 w w.heap.size (fun k_ => P0_ k_) (.slice A0 l0.length c0) l0) (hr1 : Kd.C k52 w A1 l1.length l1) (hc1 : l1.length ≤ c1) (h : estoverslaw19_AccountsSteps.f k l0 l1 = some r) :
    Calls Try.prog 11 #[.slice A0 l0.length c0, .slice A1 l1.length c1] w fun e w' => e = .returned (.bool r) ∧ Below w.heap.size w w' := by
  have hu52 := Try.underlying52
  have HO0 := Aside0.mk (show Kd.V k43 43 w w.heap.size (fun k_ => (P0_ k_ ∨ w.heap.size ≤ k_)) (.slice A0 l0.length c0) l0 from Kd.V_mono hs0 (fun k_ hk => .inl hk))
  have HR1 := Aside0.mk hr1
  have HC1 := Aside0.mk hc1
  clear hr1 hc1
  have HB := Aside0.mk (Below.refl w.heap.size w)
  have H : ((estoverslaw19_awake.f k).bind fun t301 => (if t301 = true then ((estoverslaw19_Few.f l0).bind fun t302 => (if t302 = true then (estoverslaw19_AccountsSteps.j0 k l0 l1 (decide ((l1.length : Int) > 40))) else (estoverslaw19_AccountsSteps.j0 k l0 l1 true))) else (estoverslaw19_AccountsSteps.j0 k l0 l1 true))) = some r := h
  clear h
  have HC3 := Aside0.mk H
  clear H
  go_enter Try.func11, Try.ntmps11
  go_upto_region 1 with (fail)
  go_cut [24] (fun v24 wc => ∃ (kq : Nat) (x24_2 : Bool), v24 = .bool x24_2 ∧ Aside0 (estoverslaw19_AccountsSteps.j0 kq l0 l1 x24_2 = some r) ∧ Aside0 (kq ≤ k) ∧ Aside0 (Kd.V k43 43 wc w.heap.size (fun k_ => (P0_ k_ ∨ w.heap.size ≤ k_)) (.slice A0 l0.length c0) l0) ∧ Aside0 (Below w.heap.size w wc))
  case first =>
    have H := HC3.out
    clear HC3
    replace H := Option.bind_eq_some_iff.mp H
    obtain ⟨t301, A40, H⟩ := H
    replace H : (if t301 = true then ((estoverslaw19_Few.f l0).bind fun t302 => (if t302 = true then (estoverslaw19_AccountsSteps.j0 k l0 l1 (decide ((l1.length : Int) > 40))) else (estoverslaw19_AccountsSteps.j0 k l0 l1 true))) else (estoverslaw19_AccountsSteps.j0 k l0 l1 true)) = some r := H
    have A4 := Aside0.mk A40
    clear A40
    by_cases c5 : t301 = true
    · subst c5
      have H1 : ((estoverslaw19_Few.f l0).bind fun t302 => (if t302 = true then (estoverslaw19_AccountsSteps.j0 k l0 l1 (decide ((l1.length : Int) > 40))) else (estoverslaw19_AccountsSteps.j0 k l0 l1 true))) = some r := by rw [if_pos rfl] at H; exact H
      clear H
      have H := H1
      clear H1
      replace H := Option.bind_eq_some_iff.mp H
      obtain ⟨t302, A60, H⟩ := H
      replace H : (if t302 = true then (estoverslaw19_AccountsSteps.j0 k l0 l1 (decide ((l1.length : Int) > 40))) else (estoverslaw19_AccountsSteps.j0 k l0 l1 true)) = some r := H
      have A6 := Aside0.mk A60
      clear A60
      by_cases c7 : t302 = true
      · subst c7
        have H1 : (estoverslaw19_AccountsSteps.j0 k l0 l1 (decide ((l1.length : Int) > 40))) = some r := by rw [if_pos rfl] at H; exact H
        clear H
        have H := H1
        clear H1
        have H' := Aside0.mk H
        clear H
        go_wp2_with (first | ((with_reducible refine gate_callee (f := 26) rfl ?_); refine goesL_ (some 13) rfl rfl Try.func26 (by kernel_rfl) rfl #[] rfl (by (try simp only [List.map_toArray, List.map_cons, List.map_nil]); first | done | rfl | (simp only [List.length_drop, List.length_take]; rfl)) ?_; (with_reducible refine (estoverslaw19_awake.calls k  true _ A4.out).mono ?_); rintro e w8 ⟨rfl, hb⟩; refine ⟨_, rfl, ?_⟩; have n0_ := Aside0.mk (Kd.V_below (by (with_reducible repeat (first | apply Kd.V_alloc | apply Kd.V_drewN | apply Kd.V_drew)); exact HO0.out) hb); have n1_ := Aside0.mk (below_step (by repeat (first | (with_reducible first | exact HB.out | apply below_alloc | apply pw_below_drewN | apply below_drew1) | exact HB.out)) hb); clear HO0; clear HB; have HO0 := n0_; have HB := n1_; clear n0_ n1_; (try clear hb); (try clear hb2); (try clear hk); (try clear hi)) | (go_at_call 27; (with_reducible refine (estoverslaw19_Few.calls _ _ l0 true _ ?side1 ?side2 A6.out).mono ?_); (case side1 => repeat (first | exact (Kd.V_reads' HO0.out).2.2 | (with_reducible refine Kd.C_alloc ?_ _) | (with_reducible refine Kd.C_drewN ?_ _) | (with_reducible refine Kd.C_drew ?_))); (case side2 => exact (Kd.V_reads' HO0.out).2.1); rintro e w' ⟨rfl, ⟨nd, rfl⟩⟩))
        go_meet
        case rel => exact ⟨_, (decide ((l1.length : Int) > 40)), (by first | rfl | (simp; done) | (simp [*]; done)), H', ⟨by first | omega | exact Nat.le_refl _⟩, ⟨by (with_reducible repeat (first | apply Kd.V_alloc | apply Kd.V_drewN | apply Kd.V_drew)); exact HO0.out⟩, ⟨by repeat (first | (with_reducible first | exact HB.out | apply below_alloc | apply pw_below_drewN | apply below_drew1) | exact HB.out)⟩⟩
      · replace c7 := Bool.eq_false_iff.mpr c7
        subst c7
        have H1 : (estoverslaw19_AccountsSteps.j0 k l0 l1 true) = some r := by rw [if_neg (show ¬ (false = true) by decide)] at H; exact H
        clear H
        have H := H1
        clear H1
        have H' := Aside0.mk H
        clear H
        go_wp2_with (first | ((with_reducible refine gate_callee (f := 26) rfl ?_); refine goesL_ (some 13) rfl rfl Try.func26 (by kernel_rfl) rfl #[] rfl (by (try simp only [List.map_toArray, List.map_cons, List.map_nil]); first | done | rfl | (simp only [List.length_drop, List.length_take]; rfl)) ?_; (with_reducible refine (estoverslaw19_awake.calls k  true _ A4.out).mono ?_); rintro e w9 ⟨rfl, hb⟩; refine ⟨_, rfl, ?_⟩; have n0_ := Aside0.mk (Kd.V_below (by (with_reducible repeat (first | apply Kd.V_alloc | apply Kd.V_drewN | apply Kd.V_drew)); exact HO0.out) hb); have n1_ := Aside0.mk (below_step (by repeat (first | (with_reducible first | exact HB.out | apply below_alloc | apply pw_below_drewN | apply below_drew1) | exact HB.out)) hb); clear HO0; clear HB; have HO0 := n0_; have HB := n1_; clear n0_ n1_; (try clear hb); (try clear hb2); (try clear hk); (try clear hi)) | (go_at_call 27; (with_reducible refine (estoverslaw19_Few.calls _ _ l0 false _ ?side1 ?side2 A6.out).mono ?_); (case side1 => repeat (first | exact (Kd.V_reads' HO0.out).2.2 | (with_reducible refine Kd.C_alloc ?_ _) | (with_reducible refine Kd.C_drewN ?_ _) | (with_reducible refine Kd.C_drew ?_))); (case side2 => exact (Kd.V_reads' HO0.out).2.1); rintro e w' ⟨rfl, ⟨nd, rfl⟩⟩))
        go_meet
        case rel => exact ⟨_, (true), (by first | rfl | (simp; done) | (simp [*]; done)), H', ⟨by first | omega | exact Nat.le_refl _⟩, ⟨by (with_reducible repeat (first | apply Kd.V_alloc | apply Kd.V_drewN | apply Kd.V_drew)); exact HO0.out⟩, ⟨by repeat (first | (with_reducible first | exact HB.out | apply below_alloc | apply pw_below_drewN | apply below_drew1) | exact HB.out)⟩⟩
    · replace c5 := Bool.eq_false_iff.mpr c5
      subst c5
      have H1 : (estoverslaw19_AccountsSteps.j0 k l0 l1 true) = some r := by rw [if_neg (show ¬ (false = true) by decide)] at H; exact H
      clear H
      have H := H1
      clear H1
      have H' := Aside0.mk H
      clear H
      go_wp2_with (first | ((with_reducible refine gate_callee (f := 26) rfl ?_); refine goesL_ (some 13) rfl rfl Try.func26 (by kernel_rfl) rfl #[] rfl (by (try simp only [List.map_toArray, List.map_cons, List.map_nil]); first | done | rfl | (simp only [List.length_drop, List.length_take]; rfl)) ?_; (with_reducible refine (estoverslaw19_awake.calls k  false _ A4.out).mono ?_); rintro e w10 ⟨rfl, hb⟩; refine ⟨_, rfl, ?_⟩; have n0_ := Aside0.mk (Kd.V_below (by (with_reducible repeat (first | apply Kd.V_alloc | apply Kd.V_drewN | apply Kd.V_drew)); exact HO0.out) hb); have n1_ := Aside0.mk (below_step (by repeat (first | (with_reducible first | exact HB.out | apply below_alloc | apply pw_below_drewN | apply below_drew1) | exact HB.out)) hb); clear HO0; clear HB; have HO0 := n0_; have HB := n1_; clear n0_ n1_; (try clear hb); (try clear hb2); (try clear hk); (try clear hi)))
      go_meet
      case rel => exact ⟨_, (true), (by first | rfl | (simp; done) | (simp [*]; done)), H', ⟨by first | omega | exact Nat.le_refl _⟩, ⟨by (with_reducible repeat (first | apply Kd.V_alloc | apply Kd.V_drewN | apply Kd.V_drew)); exact HO0.out⟩, ⟨by repeat (first | (with_reducible first | exact HB.out | apply below_alloc | apply pw_below_drewN | apply below_drew1) | exact HB.out)⟩⟩
  case rest =>
    clear HC3
    try clear c1
    try clear c2
    try clear p2
    try clear c5
    try clear c7
    obtain ⟨kq, x24_2, rfl, HA, HJ2, HO_0, HB⟩ := hcut
    cases kq with
    | zero => exact absurd HA.out (by simp [estoverslaw19_AccountsSteps.j0])
    | succ kj2 =>
      have H := HA.out
      clear HA
      simp only [estoverslaw19_AccountsSteps.j0] at H
      by_cases c11 : x24_2 = true
      · subst c11
        have H1 : ((estoverslaw19_awake.f kj2).bind fun t303 => (some t303)) = some r := by rw [if_pos rfl] at H; exact H
        clear H
        have H := H1
        clear H1
        replace H := Option.bind_eq_some_iff.mp H
        obtain ⟨t303, A120, H⟩ := H
        replace H : (some t303) = some r := H
        have A12 := Aside0.mk A120
        clear A120
        obtain rfl := Option.some.inj H
        go_wp2_with (first | ((with_reducible refine gate_callee (f := 26) rfl ?_); refine goesL_ (some 25) rfl rfl Try.func26 (by kernel_rfl) rfl #[] rfl (by (try simp only [List.map_toArray, List.map_cons, List.map_nil]); first | done | rfl | (simp only [List.length_drop, List.length_take]; rfl)) ?_; (with_reducible refine (estoverslaw19_awake.calls kj2  t303 _ A12.out).mono ?_); rintro e w13 ⟨rfl, hb⟩; refine ⟨_, rfl, ?_⟩; have n0_ := Aside0.mk (Kd.V_below (by (with_reducible repeat (first | apply Kd.V_alloc | apply Kd.V_drewN | apply Kd.V_drew)); exact HO_0.out) hb); have n1_ := Aside0.mk (below_step (by repeat (first | (with_reducible first | exact HB.out | apply below_alloc | apply pw_below_drewN | apply below_drew1) | exact HB.out)) hb); clear HO_0; clear HB; have HO_0 := n0_; have HB := n1_; clear n0_ n1_; (try clear hb); (try clear hb2); (try clear hk); (try clear hi)))
        go_ret
        exact ⟨by first | rfl | (simp [errW_none, errW_some] <;> rfl) | (simp [*, errW_none, errW_some] <;> rfl), by repeat (first | (with_reducible first | exact HB.out | apply below_alloc | apply pw_below_drewN | apply below_drew1) | exact HB.out)⟩
      · replace c11 := Bool.eq_false_iff.mpr c11
        subst c11
        have H1 : (estoverslaw19_AccountsSteps.l0 kj2 l0 l1 (l1.length : Int) 0) = some r := by rw [if_neg (show ¬ (false = true) by decide)] at H; exact H
        clear H
        have H := H1
        clear H1
        have H' := Aside0.mk H
        clear H
        go_wp2
        go_loopg [0, 28] kj2 (fun kq v0 v28 w' => ∃ (x0_2 : List (S43)) (x28_2 : Int), v28 = .int .i64 x28_2 ∧ Aside0 (estoverslaw19_AccountsSteps.l0 kq x0_2 l1 (l1.length : Int) x28_2 = some r) ∧ Aside0 (kq ≤ kj2) ∧ Aside0 (Kd.V k43 43 w' w.heap.size (fun k_ => (P0_ k_ ∨ w.heap.size ≤ k_)) v0 x0_2) ∧ Aside0 (Below w.heap.size w w'))
        case atStart => exact ⟨(l0), (0), (by first | rfl | (simp; done) | (simp [*]; done)), H', ⟨Nat.le_refl _⟩, ⟨by (with_reducible repeat (first | apply Kd.V_alloc | apply Kd.V_drewN | apply Kd.V_drew)); exact HO_0.out⟩, ⟨by repeat (first | (with_reducible first | exact HB.out | apply below_alloc | apply pw_below_drewN | apply below_drew1) | exact HB.out)⟩⟩
        case round =>
          clear H'
          try clear c1
          try clear c2
          try clear p2
          try clear c5
          try clear c7
          try clear c11
          try clear p2
          obtain ⟨x0_2, x28_2, rfl, HA, HK2, HO_0, HB⟩ := hrel
          cases gk with
          | zero => exact absurd HA.out (by simp [estoverslaw19_AccountsSteps.l0])
          | succ k2 =>
            have H := HA.out
            clear HA
            simp only [estoverslaw19_AccountsSteps.l0] at H
            by_cases c14 : x28_2 < (l1.length : Int)
            · rw [if_pos c14] at H
              have c14b0 : decide (x28_2 < (l1.length : Int)) = true := decide_eq_true c14
              clear c14
              by_cases c15 : 0 ≤ x28_2
              · rw [if_pos c15] at H
                have c15b0 : decide (0 ≤ x28_2) = true := decide_eq_true c15
                clear c15
                by_cases c16 : x28_2 < (l1.length : Int)
                · rw [if_pos c16] at H
                  have c16b0 : decide (x28_2 < (l1.length : Int)) = true := decide_eq_true c16
                  clear c16
                  replace H := Option.bind_eq_some_iff.mp H
                  obtain ⟨⟨t306, t307, t308⟩, A170, H⟩ := H
                  replace H : ((estoversref19_Charge.f k2 x0_2 ((rd_T52 l1 x28_2).f1) ((rd_T52 l1 x28_2).f2)).bind fun bt311 => (if (rd_T52 l1 x28_2).f0 = true then ((accounts_Uncharge.f k2 x0_2 ((rd_T52 l1 x28_2).f1) ((rd_T52 l1 x28_2).f2)).bind fun bt316 => ((estoversref19_Uncharge.f k2 x0_2 ((rd_T52 l1 x28_2).f1) ((rd_T52 l1 x28_2).f2)).bind fun bt320 => (estoverslaw19_AccountsSteps.j2 k2 x0_2 bt316.1 0 bt316.2 bt320.1 0 bt320.2 l1 (l1.length : Int) x28_2))) else (estoverslaw19_AccountsSteps.j2 k2 x0_2 t306 t307 t308 bt311.1 bt311.2.1 bt311.2.2 l1 (l1.length : Int) x28_2))) = some r := H
                  have A17 := Aside0.mk A170
                  clear A170
                  replace H := Option.bind_eq_some_iff.mp H
                  obtain ⟨⟨t311, t312, t313⟩, A180, H⟩ := H
                  replace H : (if (rd_T52 l1 x28_2).f0 = true then ((accounts_Uncharge.f k2 x0_2 ((rd_T52 l1 x28_2).f1) ((rd_T52 l1 x28_2).f2)).bind fun bt316 => ((estoversref19_Uncharge.f k2 x0_2 ((rd_T52 l1 x28_2).f1) ((rd_T52 l1 x28_2).f2)).bind fun bt320 => (estoverslaw19_AccountsSteps.j2 k2 x0_2 bt316.1 0 bt316.2 bt320.1 0 bt320.2 l1 (l1.length : Int) x28_2))) else (estoverslaw19_AccountsSteps.j2 k2 x0_2 t306 t307 t308 t311 t312 t313 l1 (l1.length : Int) x28_2)) = some r := H
                  have A18 := Aside0.mk A180
                  clear A180
                  have HC19 := Aside0.mk H
                  clear H
                  have p304 : 0 ≤ (x28_2 : Int) := of_decide_eq_true (by first | (with_reducible assumption) | assumption)
                  have q304 : x28_2 < (l1.length : Int) := of_decide_eq_true (by first | (with_reducible assumption) | assumption)
                  obtain ⟨ad304, e304, hx304_0, hx304_1, hx304_2⟩ := at_T52 HR1.out x28_2 p304 q304
                  cases e304
                  replace hx304_0 := (HB.out.cell (World.block_lt_of_cell? w _ hx304_0)).trans hx304_0
                  replace hx304_1 := (HB.out.cell (World.block_lt_of_cell? w _ hx304_1)).trans hx304_1
                  replace hx304_2 := (HB.out.cell (World.block_lt_of_cell? w _ hx304_2)).trans hx304_2
                  replace p304 := eq_true p304
                  replace q304 := eq_true q304
                  go_upto_if 53 with (first | ((with_reducible refine gate_dst (N := 6) rfl ?_); (try (refine gate_guard (by rfl) ?_; dsimp only)); refine box_event ?hg (N := 6) ?hd (cs := #[.bool false, .int .i64 0, .int .i64 0]) (t := 52) ?hr ?_; (case hd => rfl); (case hg => rfl); (case hr => first | (go_simp; done) | (go_simp; rfl)); intro gb305 hg w20 hbox hb; have n0_ := Aside0.mk (Kd.V_below (Kd.V_elderB (by (with_reducible repeat (first | apply Kd.V_alloc | apply Kd.V_drewN | apply Kd.V_drew)); exact HO_0.out) gb305 (Nat.le_of_eq hg.symm)) hb); have n1_ := Aside0.mk (below_step (by repeat (first | (with_reducible first | exact HB.out | apply below_alloc | apply pw_below_drewN | apply below_drew1) | exact HB.out)) hb); have n2_ := Aside0.mk (hbox); have n3_ := Aside0.mk ((by rw [hg]; exact (below_size (by repeat (first | (with_reducible first | exact HB.out | apply below_alloc | apply pw_below_drewN | apply below_drew1) | exact HB.out))) : w.heap.size ≤ gb305)); have n4_ := Aside0.mk ((by rw [hg]; exact (below_size (by repeat (first | (with_reducible first | exact HB.out | apply below_alloc | apply pw_below_drewN | apply below_drew1) | exact HB.out))) : w.heap.size ≤ gb305)); clear HO_0; clear HB; have HO_0 := n0_; have HB := n1_; have BK305 := n2_; have GW305 := n3_; have GE305 := n4_; clear n0_ n1_ n2_ n3_ n4_; clear hb hbox hg; have hcz21_0 : w20.cell? ⟨gb305, 0, none⟩ = some (.bool false) := (blk_cell BK305.out 0).trans rfl; have hcz21_1 : w20.cell? ⟨gb305, 1, none⟩ = some (.int .i64 0) := (blk_cell BK305.out 1).trans rfl; have hcz21_2 : w20.cell? ⟨gb305, 2, none⟩ = some (.int .i64 0) := (blk_cell BK305.out 2).trans rfl; have hfz21_0 := blk_frozen BK305.out 0; have hfz21_1 := blk_frozen BK305.out 1; have hfz21_2 := blk_frozen BK305.out 2; obtain ⟨Ao22, co22, eo22⟩ := Kd.V_slice HO_0.out; subst eo22) | ((with_reducible refine gate_callee (f := 39) rfl ?_); refine goesL_ (some 38) rfl rfl Try.func39 (by kernel_rfl) rfl #[.slice Ao22 x0_2.length co22, .int .i64 ((rd_T52 l1 x28_2).f1), .int .i64 ((rd_T52 l1 x28_2).f2)] rfl (by (try simp only [List.map_toArray, List.map_cons, List.map_nil]); first | done | rfl | (simp only [List.length_drop, List.length_take]; rfl)) ?_; (with_reducible refine (accounts_Charge.calls k2 _ _ x0_2 ((rd_T52 l1 x28_2).f1) ((rd_T52 l1 x28_2).f2) t306 t307 t308 _ ?side1 ?side2 A17.out).mono ?_); (case side1 => refine (Kd.V_reads' (e := 43) (base := w.heap.size) (ok := fun k_ => ((P0_ k_ ∨ w.heap.size ≤ k_) ∧ k_ ≠ gb305)) (n := x0_2.length) (c := co22) ?_).2.2; exact (by (with_reducible repeat (first | apply Kd.V_alloc | apply Kd.V_drewN | apply Kd.V_drew)); exact (Kd.V_mono (Kd.V_far (p := ⟨gb305, 2, none⟩) (Kd.V_far (p := ⟨gb305, 1, none⟩) (Kd.V_far (p := ⟨gb305, 0, none⟩) (Kd.V_mono HO_0.out (fun k_ hk => (⟨hk, hk.2⟩ : _ ∧ k_ ≠ gb305))) (fun _ hk => hk.2) (.bool ((rd_T52 l1 x28_2).f0))) (fun _ hk => hk.2) (.int .i64 ((rd_T52 l1 x28_2).f1))) (fun _ hk => hk.2) (.int .i64 ((rd_T52 l1 x28_2).f2))) (fun _ h_ => h_.1)))); (case side2 => exact (Kd.V_reads' HO_0.out).2.1); rintro e w23 ⟨v309, rfl, ho0, hb⟩; refine ⟨_, rfl, ?_⟩; have n0_ := Aside0.mk (Kd.V_elder' (by (with_reducible repeat (first | apply Kd.V_alloc | apply Kd.V_drewN | apply Kd.V_drew)); exact (Kd.V_mono (Kd.V_far (p := ⟨gb305, 2, none⟩) (Kd.V_far (p := ⟨gb305, 1, none⟩) (Kd.V_far (p := ⟨gb305, 0, none⟩) (Kd.V_mono HO_0.out (fun k_ hk => (⟨hk, hk.2⟩ : _ ∧ k_ ≠ gb305))) (fun _ hk => hk.2) (.bool ((rd_T52 l1 x28_2).f0))) (fun _ hk => hk.2) (.int .i64 ((rd_T52 l1 x28_2).f1))) (fun _ hk => hk.2) (.int .i64 ((rd_T52 l1 x28_2).f2))) (fun _ h_ => h_.1))) (Kd.R_base ho0) hb); have n1_ := Aside0.mk (Kd.R_lower (Kd.R_newM (M := fun k_ => (w.heap.size ≤ k_)) ho0 (below_size (by repeat (first | (with_reducible first | exact HB.out | apply below_alloc | apply pw_below_drewN | apply below_drew1 | refine below_set ?_ GE305.out) | exact HB.out))) (fun k_ h_ => h_)) (below_size (by repeat (first | (with_reducible first | exact HB.out | apply below_alloc | apply pw_below_drewN | apply below_drew1 | refine below_set ?_ GE305.out) | exact HB.out)))); have n2_ := Aside0.mk (blk_below (g := gb305) (o := .cells #[.bool ((rd_T52 l1 x28_2).f0), .int .i64 ((rd_T52 l1 x28_2).f1), .int .i64 ((rd_T52 l1 x28_2).f2)] 52 (0, 0)) (by (with_reducible repeat (first | refine blk_drewN ?_ _ | refine blk_drew ?_ | refine blk_alloc ?_ _)); refine blk_put (cs := #[.bool ((rd_T52 l1 x28_2).f0), .int .i64 ((rd_T52 l1 x28_2).f1), .int .i64 0]) ?_ 2 _ rfl; (with_reducible repeat (first | refine blk_drewN ?_ _ | refine blk_drew ?_ | refine blk_alloc ?_ _)); refine blk_put (cs := #[.bool ((rd_T52 l1 x28_2).f0), .int .i64 0, .int .i64 0]) ?_ 1 _ rfl; (with_reducible repeat (first | refine blk_drewN ?_ _ | refine blk_drew ?_ | refine blk_alloc ?_ _)); refine blk_put (cs := #[.bool false, .int .i64 0, .int .i64 0]) ?_ 0 _ rfl; (with_reducible repeat (first | refine blk_drewN ?_ _ | refine blk_drew ?_ | refine blk_alloc ?_ _)); exact BK305.out) hb); have n3_ := Aside0.mk (below_step (by repeat (first | (with_reducible first | exact HB.out | apply below_alloc | apply pw_below_drewN | apply below_drew1 | refine below_set ?_ GE305.out) | exact HB.out)) hb); clear HO_0; clear BK305; clear HB; have HO_0 := n0_; have HO310 := n1_; have BK305 := n2_; have HB := n3_; clear n0_ n1_ n2_ n3_; (try clear hb); (try clear hb2); (try clear hk); (try clear hi); (try clear ho0); have hcz24_0 : w23.cell? ⟨gb305, 0, none⟩ = some (.bool ((rd_T52 l1 x28_2).f0)) := (blk_cell BK305.out 0).trans rfl; have hcz24_1 : w23.cell? ⟨gb305, 1, none⟩ = some (.int .i64 ((rd_T52 l1 x28_2).f1)) := (blk_cell BK305.out 1).trans rfl; have hcz24_2 : w23.cell? ⟨gb305, 2, none⟩ = some (.int .i64 ((rd_T52 l1 x28_2).f2)) := (blk_cell BK305.out 2).trans rfl; have hfz24_0 := blk_frozen BK305.out 0; have hfz24_1 := blk_frozen BK305.out 1; have hfz24_2 := blk_frozen BK305.out 2) | ((with_reducible refine gate_callee (f := 40) rfl ?_); refine goesL_ (some 48) rfl rfl Try.func40 (by kernel_rfl) rfl #[.slice Ao22 x0_2.length co22, .int .i64 ((rd_T52 l1 x28_2).f1), .int .i64 ((rd_T52 l1 x28_2).f2)] rfl (by (try simp only [List.map_toArray, List.map_cons, List.map_nil]); first | done | rfl | (simp only [List.length_drop, List.length_take]; rfl)) ?_; (with_reducible refine (estoversref19_Charge.calls k2 _ _ x0_2 ((rd_T52 l1 x28_2).f1) ((rd_T52 l1 x28_2).f2) t311 t312 t313 _ ?side1 ?side2 A18.out).mono ?_); (case side1 => repeat (first | exact (Kd.V_reads' HO_0.out).2.2 | (with_reducible refine Kd.C_alloc ?_ _) | (with_reducible refine Kd.C_drewN ?_ _) | (with_reducible refine Kd.C_drew ?_))); (case side2 => exact (Kd.V_reads' HO_0.out).2.1); rintro e w25 ⟨v314, rfl, ho0, hb⟩; refine ⟨_, rfl, ?_⟩; have n0_ := Aside0.mk (Kd.V_elder' (by (with_reducible repeat (first | apply Kd.V_alloc | apply Kd.V_drewN | apply Kd.V_drew)); exact HO_0.out) (Kd.R_base ho0) hb); have n1_ := Aside0.mk (Kd.R_elder' (by (with_reducible repeat (first | apply Kd.R_alloc | apply Kd.R_drewN | apply Kd.R_drew)); exact HO310.out) (Kd.R_base ho0) hb); have n2_ := Aside0.mk (Kd.R_lower (Kd.R_new' (Kd.R_newM (M := fun k_ => (w.heap.size ≤ k_)) ho0 (below_size (by repeat (first | (with_reducible first | exact HB.out | apply below_alloc | apply pw_below_drewN | apply below_drew1 | refine below_set ?_ GE305.out) | exact HB.out))) (fun k_ h_ => h_)) (Kd.R_lt (by (with_reducible repeat (first | apply Kd.R_alloc | apply Kd.R_drewN | apply Kd.R_drew)); exact HO310.out))) (below_size (by repeat (first | (with_reducible first | exact HB.out | apply below_alloc | apply pw_below_drewN | apply below_drew1 | refine below_set ?_ GE305.out) | exact HB.out)))); have n3_ := Aside0.mk (blk_below (g := gb305) (o := .cells #[.bool ((rd_T52 l1 x28_2).f0), .int .i64 ((rd_T52 l1 x28_2).f1), .int .i64 ((rd_T52 l1 x28_2).f2)] 52 (0, 0)) (by (with_reducible repeat (first | refine blk_drewN ?_ _ | refine blk_drew ?_ | refine blk_alloc ?_ _)); exact BK305.out) hb); have n4_ := Aside0.mk (below_step (by repeat (first | (with_reducible first | exact HB.out | apply below_alloc | apply pw_below_drewN | apply below_drew1 | refine below_set ?_ GE305.out) | exact HB.out)) hb); clear HO_0; clear HO310; clear BK305; clear HB; have HO_0 := n0_; have HO310 := n1_; have HO315 := n2_; have BK305 := n3_; have HB := n4_; clear n0_ n1_ n2_ n3_ n4_; (try clear hb); (try clear hb2); (try clear hk); (try clear hi); (try clear ho0); have hcz26_0 : w25.cell? ⟨gb305, 0, none⟩ = some (.bool ((rd_T52 l1 x28_2).f0)) := (blk_cell BK305.out 0).trans rfl; have hcz26_1 : w25.cell? ⟨gb305, 1, none⟩ = some (.int .i64 ((rd_T52 l1 x28_2).f1)) := (blk_cell BK305.out 1).trans rfl; have hcz26_2 : w25.cell? ⟨gb305, 2, none⟩ = some (.int .i64 ((rd_T52 l1 x28_2).f2)) := (blk_cell BK305.out 2).trans rfl; have hfz26_0 := blk_frozen BK305.out 0; have hfz26_1 := blk_frozen BK305.out 1; have hfz26_2 := blk_frozen BK305.out 2))
                  (try simp only [Act.put, List.setIfInBounds_toArray, List.set_cons_zero, List.set_cons_succ])
                  go_cut [7, 8, 9, 10, 11, 12] (fun v7 v8 v9 v10 v11 v12 wc => ∃ (kq : Nat) (x7_18 : List (S43)) (x8_18 : Int) (x9_18 : Int) (x10_18 : List (S43)) (x11_18 : Int) (x12_18 : Int), v8 = .int .i64 x8_18 ∧ v9 = .int .i64 x9_18 ∧ v11 = .int .i64 x11_18 ∧ v12 = .int .i64 x12_18 ∧ Aside0 (estoverslaw19_AccountsSteps.j2 kq x0_2 x7_18 x8_18 x9_18 x10_18 x11_18 x12_18 l1 (l1.length : Int) x28_2 = some r) ∧ Aside0 (kq ≤ k2) ∧ Aside0 (Kd.V k43 43 wc w.heap.size (fun k_ => (P0_ k_ ∨ w.heap.size ≤ k_) ∧ some k_ ≠ (v7 : Value).ownBlock ∧ some k_ ≠ (v10 : Value).ownBlock ∧ k_ ≠ gb305) (.slice Ao22 x0_2.length co22) x0_2) ∧ Aside0 (Kd.R k43 43 wc w.heap.size (fun k_ => (w.heap.size ≤ k_) ∧ some k_ ≠ (v10 : Value).ownBlock) v7 x7_18) ∧ Aside0 (Kd.R k43 43 wc w.heap.size (fun k_ => (w.heap.size ≤ k_) ∧ some k_ ≠ (v7 : Value).ownBlock) v10 x10_18) ∧ Aside0 (wc.heap[gb305]? = some (.cells #[.bool ((rd_T52 l1 x28_2).f0), .int .i64 ((rd_T52 l1 x28_2).f1), .int .i64 ((rd_T52 l1 x28_2).f2)] 52 (0, 0))) ∧ Aside0 (Below w.heap.size w wc))
                  case first =>
                    have H := HC19.out
                    clear HC19
                    obtain ⟨bq27, hbq27⟩ : ∃ b_ : Bool, b_ = ((rd_T52 l1 x28_2).f0) := ⟨_, rfl⟩
                    replace H : (if bq27 = true then ((accounts_Uncharge.f k2 x0_2 ((rd_T52 l1 x28_2).f1) ((rd_T52 l1 x28_2).f2)).bind fun bt316 => ((estoversref19_Uncharge.f k2 x0_2 ((rd_T52 l1 x28_2).f1) ((rd_T52 l1 x28_2).f2)).bind fun bt320 => (estoverslaw19_AccountsSteps.j2 k2 x0_2 bt316.1 0 bt316.2 bt320.1 0 bt320.2 l1 (l1.length : Int) x28_2))) else (estoverslaw19_AccountsSteps.j2 k2 x0_2 t306 t307 t308 t311 t312 t313 l1 (l1.length : Int) x28_2)) = some r := by rw [← hbq27] at H; exact H
                    have Nbq27 := Aside0.mk hbq27
                    clear hbq27
                    (try rw [← Nbq27.out])
                    by_cases c28 : bq27 = true
                    · subst c28
                      have H1 : ((accounts_Uncharge.f k2 x0_2 ((rd_T52 l1 x28_2).f1) ((rd_T52 l1 x28_2).f2)).bind fun bt316 => ((estoversref19_Uncharge.f k2 x0_2 ((rd_T52 l1 x28_2).f1) ((rd_T52 l1 x28_2).f2)).bind fun bt320 => (estoverslaw19_AccountsSteps.j2 k2 x0_2 bt316.1 0 bt316.2 bt320.1 0 bt320.2 l1 (l1.length : Int) x28_2))) = some r := by rw [if_pos rfl] at H; exact H
                      clear H
                      have H := H1
                      clear H1
                      (try rw [← Nbq27.out] at BK305)
                      replace H := Option.bind_eq_some_iff.mp H
                      obtain ⟨⟨t316, t317⟩, A290, H⟩ := H
                      replace H : ((estoversref19_Uncharge.f k2 x0_2 ((rd_T52 l1 x28_2).f1) ((rd_T52 l1 x28_2).f2)).bind fun bt320 => (estoverslaw19_AccountsSteps.j2 k2 x0_2 t316 0 t317 bt320.1 0 bt320.2 l1 (l1.length : Int) x28_2)) = some r := H
                      have A29 := Aside0.mk A290
                      clear A290
                      replace H := Option.bind_eq_some_iff.mp H
                      obtain ⟨⟨t320, t321⟩, A300, H⟩ := H
                      replace H : (estoverslaw19_AccountsSteps.j2 k2 x0_2 t316 0 t317 t320 0 t321 l1 (l1.length : Int) x28_2) = some r := H
                      have A30 := Aside0.mk A300
                      clear A300
                      have H' := Aside0.mk H
                      clear H
                      have hcz31_0 : w25.cell? ⟨gb305, 0, none⟩ = some (.bool true) := (blk_cell BK305.out 0).trans rfl
                      have hcz31_1 : w25.cell? ⟨gb305, 1, none⟩ = some (.int .i64 ((rd_T52 l1 x28_2).f1)) := (blk_cell BK305.out 1).trans rfl
                      have hcz31_2 : w25.cell? ⟨gb305, 2, none⟩ = some (.int .i64 ((rd_T52 l1 x28_2).f2)) := (blk_cell BK305.out 2).trans rfl
                      have hfz31_0 := blk_frozen BK305.out 0
                      have hfz31_1 := blk_frozen BK305.out 1
                      have hfz31_2 := blk_frozen BK305.out 2
                      (try rw [← Nbq27.out])
                      (try rw [← Nbq27.out] at BK305)
                      go_wp2_with (first | ((with_reducible refine gate_callee (f := 41) rfl ?_); refine goesL_ (some 60) rfl rfl Try.func41 (by kernel_rfl) rfl #[.slice Ao22 x0_2.length co22, .int .i64 ((rd_T52 l1 x28_2).f1), .int .i64 ((rd_T52 l1 x28_2).f2)] rfl (by (try simp only [List.map_toArray, List.map_cons, List.map_nil]); first | done | rfl | (simp only [List.length_drop, List.length_take]; rfl)) ?_; (with_reducible refine (accounts_Uncharge.calls k2 _ _ x0_2 ((rd_T52 l1 x28_2).f1) ((rd_T52 l1 x28_2).f2) t316 t317 _ ?side1 ?side2 A29.out).mono ?_); (case side1 => repeat (first | exact (Kd.V_reads' HO_0.out).2.2 | (with_reducible refine Kd.C_alloc ?_ _) | (with_reducible refine Kd.C_drewN ?_ _) | (with_reducible refine Kd.C_drew ?_))); (case side2 => exact (Kd.V_reads' HO_0.out).2.1); rintro e w32 ⟨v318, rfl, ho0, hb⟩; refine ⟨_, rfl, ?_⟩; have n0_ := Aside0.mk (Kd.V_elder' (by (with_reducible repeat (first | apply Kd.V_alloc | apply Kd.V_drewN | apply Kd.V_drew)); exact HO_0.out) (Kd.R_base ho0) hb); have n1_ := Aside0.mk (Kd.R_elder' (by (with_reducible repeat (first | apply Kd.R_alloc | apply Kd.R_drewN | apply Kd.R_drew)); exact HO310.out) (Kd.R_base ho0) hb); have n2_ := Aside0.mk (Kd.R_elder' (by (with_reducible repeat (first | apply Kd.R_alloc | apply Kd.R_drewN | apply Kd.R_drew)); exact HO315.out) (Kd.R_base ho0) hb); have n3_ := Aside0.mk (Kd.R_lower (Kd.R_new' (Kd.R_new' (Kd.R_newM (M := fun k_ => (w.heap.size ≤ k_)) ho0 (below_size (by repeat (first | (with_reducible first | exact HB.out | apply below_alloc | apply pw_below_drewN | apply below_drew1 | refine below_set ?_ GE305.out) | exact HB.out))) (fun k_ h_ => h_)) (Kd.R_lt (by (with_reducible repeat (first | apply Kd.R_alloc | apply Kd.R_drewN | apply Kd.R_drew)); exact HO310.out))) (Kd.R_lt (by (with_reducible repeat (first | apply Kd.R_alloc | apply Kd.R_drewN | apply Kd.R_drew)); exact HO315.out))) (below_size (by repeat (first | (with_reducible first | exact HB.out | apply below_alloc | apply pw_below_drewN | apply below_drew1 | refine below_set ?_ GE305.out) | exact HB.out)))); have n4_ := Aside0.mk (blk_below (g := gb305) (o := .cells #[.bool true, .int .i64 ((rd_T52 l1 x28_2).f1), .int .i64 ((rd_T52 l1 x28_2).f2)] 52 (0, 0)) (by (with_reducible repeat (first | refine blk_drewN ?_ _ | refine blk_drew ?_ | refine blk_alloc ?_ _)); exact BK305.out) hb); have n5_ := Aside0.mk (below_step (by repeat (first | (with_reducible first | exact HB.out | apply below_alloc | apply pw_below_drewN | apply below_drew1 | refine below_set ?_ GE305.out) | exact HB.out)) hb); clear HO_0; clear HO310; clear HO315; clear BK305; clear HB; have HO_0 := n0_; have HO310 := n1_; have HO315 := n2_; have HO319 := n3_; have BK305 := n4_; have HB := n5_; clear n0_ n1_ n2_ n3_ n4_ n5_; (try clear hb); (try clear hb2); (try clear hk); (try clear hi); (try clear ho0); have hcz33_0 : w32.cell? ⟨gb305, 0, none⟩ = some (.bool true) := (blk_cell BK305.out 0).trans rfl; have hcz33_1 : w32.cell? ⟨gb305, 1, none⟩ = some (.int .i64 ((rd_T52 l1 x28_2).f1)) := (blk_cell BK305.out 1).trans rfl; have hcz33_2 : w32.cell? ⟨gb305, 2, none⟩ = some (.int .i64 ((rd_T52 l1 x28_2).f2)) := (blk_cell BK305.out 2).trans rfl; have hfz33_0 := blk_frozen BK305.out 0; have hfz33_1 := blk_frozen BK305.out 1; have hfz33_2 := blk_frozen BK305.out 2) | ((with_reducible refine gate_callee (f := 42) rfl ?_); refine goesL_ (some 69) rfl rfl Try.func42 (by kernel_rfl) rfl #[.slice Ao22 x0_2.length co22, .int .i64 ((rd_T52 l1 x28_2).f1), .int .i64 ((rd_T52 l1 x28_2).f2)] rfl (by (try simp only [List.map_toArray, List.map_cons, List.map_nil]); first | done | rfl | (simp only [List.length_drop, List.length_take]; rfl)) ?_; (with_reducible refine (estoversref19_Uncharge.calls k2 _ _ x0_2 ((rd_T52 l1 x28_2).f1) ((rd_T52 l1 x28_2).f2) t320 t321 _ ?side1 ?side2 A30.out).mono ?_); (case side1 => repeat (first | exact (Kd.V_reads' HO_0.out).2.2 | (with_reducible refine Kd.C_alloc ?_ _) | (with_reducible refine Kd.C_drewN ?_ _) | (with_reducible refine Kd.C_drew ?_))); (case side2 => exact (Kd.V_reads' HO_0.out).2.1); rintro e w34 ⟨v322, rfl, ho0, hb⟩; refine ⟨_, rfl, ?_⟩; have n0_ := Aside0.mk (Kd.V_elder' (by (with_reducible repeat (first | apply Kd.V_alloc | apply Kd.V_drewN | apply Kd.V_drew)); exact HO_0.out) (Kd.R_base ho0) hb); have n1_ := Aside0.mk (Kd.R_elder' (by (with_reducible repeat (first | apply Kd.R_alloc | apply Kd.R_drewN | apply Kd.R_drew)); exact HO310.out) (Kd.R_base ho0) hb); have n2_ := Aside0.mk (Kd.R_elder' (by (with_reducible repeat (first | apply Kd.R_alloc | apply Kd.R_drewN | apply Kd.R_drew)); exact HO315.out) (Kd.R_base ho0) hb); have n3_ := Aside0.mk (Kd.R_elder' (by (with_reducible repeat (first | apply Kd.R_alloc | apply Kd.R_drewN | apply Kd.R_drew)); exact HO319.out) (Kd.R_base ho0) hb); have n4_ := Aside0.mk (Kd.R_lower (Kd.R_new' (Kd.R_new' (Kd.R_new' (Kd.R_newM (M := fun k_ => (w.heap.size ≤ k_)) ho0 (below_size (by repeat (first | (with_reducible first | exact HB.out | apply below_alloc | apply pw_below_drewN | apply below_drew1 | refine below_set ?_ GE305.out) | exact HB.out))) (fun k_ h_ => h_)) (Kd.R_lt (by (with_reducible repeat (first | apply Kd.R_alloc | apply Kd.R_drewN | apply Kd.R_drew)); exact HO310.out))) (Kd.R_lt (by (with_reducible repeat (first | apply Kd.R_alloc | apply Kd.R_drewN | apply Kd.R_drew)); exact HO315.out))) (Kd.R_lt (by (with_reducible repeat (first | apply Kd.R_alloc | apply Kd.R_drewN | apply Kd.R_drew)); exact HO319.out))) (below_size (by repeat (first | (with_reducible first | exact HB.out | apply below_alloc | apply pw_below_drewN | apply below_drew1 | refine below_set ?_ GE305.out) | exact HB.out)))); have n5_ := Aside0.mk (blk_below (g := gb305) (o := .cells #[.bool true, .int .i64 ((rd_T52 l1 x28_2).f1), .int .i64 ((rd_T52 l1 x28_2).f2)] 52 (0, 0)) (by (with_reducible repeat (first | refine blk_drewN ?_ _ | refine blk_drew ?_ | refine blk_alloc ?_ _)); exact BK305.out) hb); have n6_ := Aside0.mk (below_step (by repeat (first | (with_reducible first | exact HB.out | apply below_alloc | apply pw_below_drewN | apply below_drew1 | refine below_set ?_ GE305.out) | exact HB.out)) hb); clear HO_0; clear HO310; clear HO315; clear HO319; clear BK305; clear HB; have HO_0 := n0_; have HO310 := n1_; have HO315 := n2_; have HO319 := n3_; have HO323 := n4_; have BK305 := n5_; have HB := n6_; clear n0_ n1_ n2_ n3_ n4_ n5_ n6_; (try clear hb); (try clear hb2); (try clear hk); (try clear hi); (try clear ho0)))
                      go_meet
                      case rel => (try rw [← Nbq27.out]); exact ⟨_, (t316), (0), (t317), (t320), (0), (t321), (by first | rfl | (simp; done) | (simp [*]; done)), (by first | rfl | (simp; done) | (simp [*]; done)), (by first | rfl | (simp; done) | (simp [*]; done)), (by first | rfl | (simp; done) | (simp [*]; done)), H', ⟨by have := HJ2.out; have := HK2.out; first | omega | exact Nat.le_refl _⟩, ⟨by (with_reducible repeat (first | apply Kd.V_alloc | apply Kd.V_drewN | apply Kd.V_drew)); exact Kd.V_mono HO_0.out (fun _ hk => ⟨hk.1.1.1.1.1, ⟨hk.1.2, ⟨hk.2, hk.1.1.1.1.2⟩⟩⟩)⟩, ⟨by (with_reducible repeat (first | apply Kd.R_alloc | apply Kd.R_drewN | apply Kd.R_drew)); exact Kd.R_mono HO319.out (fun _ hk => ⟨hk.1.1.1.1, hk.2⟩)⟩, ⟨by (with_reducible repeat (first | apply Kd.R_alloc | apply Kd.R_drewN | apply Kd.R_drew)); exact Kd.R_mono HO323.out (fun _ hk => ⟨hk.1.1.1.1, hk.2⟩)⟩, ⟨by (with_reducible repeat (first | refine blk_drewN ?_ _ | refine blk_drew ?_ | refine blk_alloc ?_ _)); exact BK305.out⟩, ⟨by repeat (first | (with_reducible first | exact HB.out | apply below_alloc | apply pw_below_drewN | apply below_drew1 | refine below_set ?_ GE305.out) | exact HB.out)⟩⟩
                    · replace c28 := Bool.eq_false_iff.mpr c28
                      subst c28
                      have H1 : (estoverslaw19_AccountsSteps.j2 k2 x0_2 t306 t307 t308 t311 t312 t313 l1 (l1.length : Int) x28_2) = some r := by rw [if_neg (show ¬ (false = true) by decide)] at H; exact H
                      clear H
                      have H := H1
                      clear H1
                      (try rw [← Nbq27.out] at BK305)
                      have H' := Aside0.mk H
                      clear H
                      (try rw [← Nbq27.out])
                      (try rw [← Nbq27.out] at BK305)
                      go_wp2
                      go_meet
                      case rel => (try rw [← Nbq27.out]); exact ⟨_, (t306), (t307), (t308), (t311), (t312), (t313), (by first | rfl | (simp; done) | (simp [*]; done)), (by first | rfl | (simp; done) | (simp [*]; done)), (by first | rfl | (simp; done) | (simp [*]; done)), (by first | rfl | (simp; done) | (simp [*]; done)), H', ⟨by have := HJ2.out; have := HK2.out; first | omega | exact Nat.le_refl _⟩, ⟨by (with_reducible repeat (first | apply Kd.V_alloc | apply Kd.V_drewN | apply Kd.V_drew)); exact Kd.V_mono HO_0.out (fun _ hk => ⟨hk.1.1.1, ⟨hk.1.2, ⟨hk.2, hk.1.1.2⟩⟩⟩)⟩, ⟨by (with_reducible repeat (first | apply Kd.R_alloc | apply Kd.R_drewN | apply Kd.R_drew)); exact Kd.R_mono HO310.out (fun _ hk => ⟨hk.1.1, hk.2⟩)⟩, ⟨by (with_reducible repeat (first | apply Kd.R_alloc | apply Kd.R_drewN | apply Kd.R_drew)); exact Kd.R_mono HO315.out (fun _ hk => ⟨hk.1.1, hk.2⟩)⟩, ⟨by (with_reducible repeat (first | refine blk_drewN ?_ _ | refine blk_drew ?_ | refine blk_alloc ?_ _)); exact BK305.out⟩, ⟨by repeat (first | (with_reducible first | exact HB.out | apply below_alloc | apply pw_below_drewN | apply below_drew1 | refine below_set ?_ GE305.out) | exact HB.out)⟩⟩
                  case rest =>
                    clear HC19
                    try clear c1
                    try clear c2
                    try clear p2
                    try clear q2
                    try clear c3
                    try clear p3
                    try clear q3
                    try clear hx3
                    try clear c4
                    try clear c5
                    try clear c7
                    try clear c11
                    try clear c14
                    try clear c14b0
                    try clear c15
                    try clear c15b0
                    try clear c16
                    try clear c16b0
                    try clear c26
                    try clear q27
                    try clear c28
                    try clear p30
                    try clear q30
                    try clear hx30
                    try clear hcz21_0
                    try clear hcz21_1
                    try clear hcz21_2
                    try clear hcz24_0
                    try clear hcz24_1
                    try clear hcz24_2
                    try clear hcz26_0
                    try clear hcz26_1
                    try clear hcz26_2
                    try clear hcz31_0
                    try clear hcz31_1
                    try clear hcz31_2
                    try clear hcz33_0
                    try clear hcz33_1
                    try clear hcz33_2
                    try clear hfz21_0
                    try clear hfz21_1
                    try clear hfz21_2
                    try clear hfz24_0
                    try clear hfz24_1
                    try clear hfz24_2
                    try clear hfz26_0
                    try clear hfz26_1
                    try clear hfz26_2
                    try clear hfz31_0
                    try clear hfz31_1
                    try clear hfz31_2
                    try clear hfz33_0
                    try clear hfz33_1
                    try clear hfz33_2
                    try clear hx304_0
                    try clear hx304_1
                    try clear hx304_2
                    try clear p2
                    try clear p304
                    try clear q304
                    obtain ⟨kq, x7_18, x8_18, x9_18, x10_18, x11_18, x12_18, rfl, rfl, rfl, rfl, HA, HJ18, HO_0, HO_7, HO_10, BK305, HB⟩ := hcut
                    cases kq with
                    | zero => exact absurd HA.out (by simp [estoverslaw19_AccountsSteps.j2])
                    | succ kj18 =>
                      have H := HA.out
                      clear HA
                      simp only [estoverslaw19_AccountsSteps.j2] at H
                      have HC35 := Aside0.mk H
                      clear H
                      go_upto_region 12 with (fail)
                      go_cut [85] (fun v85 wc => ∃ (kq : Nat) (x85_34 : Bool), v85 = .bool x85_34 ∧ Aside0 (estoverslaw19_AccountsSteps.j3 kq x0_2 x10_18 x12_18 l1 (l1.length : Int) x28_2 x85_34 = some r) ∧ Aside0 (kq ≤ kj18) ∧ Aside0 (Kd.V k43 43 wc w.heap.size (fun k_ => (P0_ k_ ∨ w.heap.size ≤ k_) ∧ some k_ ≠ (u10 : Value).ownBlock ∧ k_ ≠ gb305) (.slice Ao22 x0_2.length co22) x0_2) ∧ Aside0 (Kd.R k43 43 wc w.heap.size (fun k_ => (w.heap.size ≤ k_)) u10 x10_18) ∧ Aside0 (wc.heap[gb305]? = some (.cells #[.bool ((rd_T52 l1 x28_2).f0), .int .i64 ((rd_T52 l1 x28_2).f1), .int .i64 ((rd_T52 l1 x28_2).f2)] 52 (0, 0))) ∧ Aside0 (Below w.heap.size w wc))
                      case first =>
                        have H := HC35.out
                        clear HC35
                        by_cases c36 : x9_18 = x12_18
                        · rw [if_pos c36] at H
                          have c36b0 : (x9_18 == x12_18) = true := beq_iff_eq.mpr c36
                          have c36b1 : (x9_18 != x12_18) = false := bne_eq_false_iff_eq.mpr c36
                          clear c36
                          (first | rw [c36b0] | (simp only [i64_w, i32_w]; rw [c36b0]) | skip)
                          by_cases c37 : x8_18 = x11_18
                          · rw [if_pos c37] at H
                            have c37b0 : (x8_18 == x11_18) = true := beq_iff_eq.mpr c37
                            have c37b1 : (x8_18 != x11_18) = false := bne_eq_false_iff_eq.mpr c37
                            clear c37
                            replace H := Option.bind_eq_some_iff.mp H
                            obtain ⟨t324, A380, H⟩ := H
                            replace H : (estoverslaw19_AccountsSteps.j3 kj18 x0_2 x10_18 x12_18 l1 (l1.length : Int) x28_2 (!t324)) = some r := H
                            have A38 := Aside0.mk A380
                            clear A380
                            have H' := Aside0.mk H
                            clear H
                            obtain ⟨Ao39, co39, eo39⟩ := Kd.R_slice HO_7.out
                            subst eo39
                            obtain ⟨Ao40, co40, eo40⟩ := Kd.R_slice HO_10.out
                            subst eo40
                            go_wp2_with (first | (go_at_call 43; (with_reducible refine (estoversref19_Same.calls kj18 _ _ x7_18 _ _ x10_18 t324 _ ?side1 ?side2 ?side3 ?side4 A38.out).mono ?_); (case side1 => repeat (first | exact (Kd.R_reads' HO_7.out).2.2 | (with_reducible refine Kd.C_alloc ?_ _) | (with_reducible refine Kd.C_drewN ?_ _) | (with_reducible refine Kd.C_drew ?_))); (case side2 => exact (Kd.R_reads' HO_7.out).2.1); (case side3 => repeat (first | exact (Kd.R_reads' HO_10.out).2.2 | (with_reducible refine Kd.C_alloc ?_ _) | (with_reducible refine Kd.C_drewN ?_ _) | (with_reducible refine Kd.C_drew ?_))); (case side4 => exact (Kd.R_reads' HO_10.out).2.1); rintro e w' ⟨rfl, ⟨nd, rfl⟩⟩))
                            go_meet
                            case rel => exact ⟨_, (!t324), (by first | rfl | (simp; done) | (simp [*]; done)), H', ⟨by have := HJ2.out; have := HK2.out; have := HJ18.out; first | omega | exact Nat.le_refl _⟩, ⟨by (with_reducible repeat (first | apply Kd.V_alloc | apply Kd.V_drewN | apply Kd.V_drew)); exact Kd.V_mono HO_0.out (fun _ hk => ⟨hk.1, ⟨hk.2.2.1, hk.2.2.2⟩⟩)⟩, ⟨by (with_reducible repeat (first | apply Kd.R_alloc | apply Kd.R_drewN | apply Kd.R_drew)); exact Kd.R_mono HO_10.out (fun _ hk => hk.1)⟩, ⟨by (with_reducible repeat (first | refine blk_drewN ?_ _ | refine blk_drew ?_ | refine blk_alloc ?_ _)); exact BK305.out⟩, ⟨by repeat (first | (with_reducible first | exact HB.out | apply below_alloc | apply pw_below_drewN | apply below_drew1 | refine below_set ?_ GE305.out) | exact HB.out)⟩⟩
                          · rw [if_neg c37] at H
                            have c37b0 : (x8_18 == x11_18) = false := beq_eq_false_iff_ne.mpr c37
                            have c37b1 : (x8_18 != x11_18) = true := bne_iff_ne.mpr c37
                            have H' := Aside0.mk H
                            clear H
                            go_wp2
                            go_meet
                            case rel => exact ⟨_, (true), (by first | rfl | (simp; done) | (simp [*]; done)), H', ⟨by have := HJ2.out; have := HK2.out; have := HJ18.out; first | omega | exact Nat.le_refl _⟩, ⟨by (with_reducible repeat (first | apply Kd.V_alloc | apply Kd.V_drewN | apply Kd.V_drew)); exact Kd.V_mono HO_0.out (fun _ hk => ⟨hk.1, ⟨hk.2.2.1, hk.2.2.2⟩⟩)⟩, ⟨by (with_reducible repeat (first | apply Kd.R_alloc | apply Kd.R_drewN | apply Kd.R_drew)); exact Kd.R_mono HO_10.out (fun _ hk => hk.1)⟩, ⟨by (with_reducible repeat (first | refine blk_drewN ?_ _ | refine blk_drew ?_ | refine blk_alloc ?_ _)); exact BK305.out⟩, ⟨by repeat (first | (with_reducible first | exact HB.out | apply below_alloc | apply pw_below_drewN | apply below_drew1 | refine below_set ?_ GE305.out) | exact HB.out)⟩⟩
                        · rw [if_neg c36] at H
                          have c36b0 : (x9_18 == x12_18) = false := beq_eq_false_iff_ne.mpr c36
                          have c36b1 : (x9_18 != x12_18) = true := bne_iff_ne.mpr c36
                          (first | rw [c36b0] | (simp only [i64_w, i32_w]; rw [c36b0]) | skip)
                          have H' := Aside0.mk H
                          clear H
                          go_wp2
                          go_meet
                          case rel => exact ⟨_, (true), (by first | rfl | (simp; done) | (simp [*]; done)), H', ⟨by have := HJ2.out; have := HK2.out; have := HJ18.out; first | omega | exact Nat.le_refl _⟩, ⟨by (with_reducible repeat (first | apply Kd.V_alloc | apply Kd.V_drewN | apply Kd.V_drew)); exact Kd.V_mono HO_0.out (fun _ hk => ⟨hk.1, ⟨hk.2.2.1, hk.2.2.2⟩⟩)⟩, ⟨by (with_reducible repeat (first | apply Kd.R_alloc | apply Kd.R_drewN | apply Kd.R_drew)); exact Kd.R_mono HO_10.out (fun _ hk => hk.1)⟩, ⟨by (with_reducible repeat (first | refine blk_drewN ?_ _ | refine blk_drew ?_ | refine blk_alloc ?_ _)); exact BK305.out⟩, ⟨by repeat (first | (with_reducible first | exact HB.out | apply below_alloc | apply pw_below_drewN | apply below_drew1 | refine below_set ?_ GE305.out) | exact HB.out)⟩⟩
                      case rest =>
                        clear HC35
                        try clear c1
                        try clear c2
                        try clear p2
                        try clear q2
                        try clear c3
                        try clear p3
                        try clear q3
                        try clear hx3
                        try clear c4
                        try clear c5
                        try clear c7
                        try clear c11
                        try clear c14
                        try clear c14b0
                        try clear c15
                        try clear c15b0
                        try clear c16
                        try clear c16b0
                        try clear c26
                        try clear q27
                        try clear c28
                        try clear p30
                        try clear q30
                        try clear hx30
                        try clear c36
                        try clear c36b0
                        try clear c36b1
                        try clear c37
                        try clear c37b0
                        try clear c37b1
                        try clear c39
                        try clear c40
                        try clear hcz21_0
                        try clear hcz21_1
                        try clear hcz21_2
                        try clear hcz24_0
                        try clear hcz24_1
                        try clear hcz24_2
                        try clear hcz26_0
                        try clear hcz26_1
                        try clear hcz26_2
                        try clear hcz31_0
                        try clear hcz31_1
                        try clear hcz31_2
                        try clear hcz33_0
                        try clear hcz33_1
                        try clear hcz33_2
                        try clear hfz21_0
                        try clear hfz21_1
                        try clear hfz21_2
                        try clear hfz24_0
                        try clear hfz24_1
                        try clear hfz24_2
                        try clear hfz26_0
                        try clear hfz26_1
                        try clear hfz26_2
                        try clear hfz31_0
                        try clear hfz31_1
                        try clear hfz31_2
                        try clear hfz33_0
                        try clear hfz33_1
                        try clear hfz33_2
                        try clear hx304_0
                        try clear hx304_1
                        try clear hx304_2
                        try clear p2
                        try clear p3
                        try clear p30
                        try clear p304
                        try clear q2
                        try clear q27
                        try clear q3
                        try clear q30
                        try clear q304
                        obtain ⟨kq, x85_34, rfl, HA, HJ34, HO_0, HO_10, BK305, HB⟩ := hcut
                        cases kq with
                        | zero => exact absurd HA.out (by simp [estoverslaw19_AccountsSteps.j3])
                        | succ kj34 =>
                          have H := HA.out
                          clear HA
                          simp only [estoverslaw19_AccountsSteps.j3] at H
                          by_cases c41 : x85_34 = true
                          · subst c41
                            have H1 : (none) = some r := by rw [if_pos rfl] at H; exact H
                            clear H
                            have H := H1
                            clear H1
                            exact absurd H (by simp)
                          · replace c41 := Bool.eq_false_iff.mpr c41
                            subst c41
                            have H1 : (if x12_18 = 0 then (estoverslaw19_AccountsSteps.l0 kj34 x10_18 l1 (l1.length : Int) (wrap64 (x28_2 + 1))) else (estoverslaw19_AccountsSteps.l0 kj34 x0_2 l1 (l1.length : Int) (wrap64 (x28_2 + 1)))) = some r := by rw [if_neg (show ¬ (false = true) by decide)] at H; exact H
                            clear H
                            have H := H1
                            clear H1
                            by_cases c42 : x12_18 = 0
                            · rw [if_pos c42] at H
                              have c42b0 : (x12_18 == 0) = true := beq_iff_eq.mpr c42
                              have c42b1 : (x12_18 != 0) = false := bne_eq_false_iff_eq.mpr c42
                              clear c42
                              have H' := Aside0.mk H
                              clear H
                              go_wp2
                              go_roundg kj34
                              case measure => have := HJ2.out; have := HK2.out; have := HJ18.out; have := HJ34.out; omega
                              case rel => exact ⟨(x10_18), (wrap64 (x28_2 + 1)), (by first | rfl | (simp; done) | (simp [*]; done)), H', ⟨by have := HJ2.out; have := HK2.out; have := HJ18.out; have := HJ34.out; omega⟩, ⟨Kd.V_mono (Kd.R_V (by (with_reducible repeat (first | apply Kd.R_alloc | apply Kd.R_drewN | apply Kd.R_drew)); exact HO_10.out)) (fun k_ hk => by first | exact ⟨(.inr (hk.1)), hk.2⟩ | exact (.inr (hk)))⟩, ⟨by repeat (first | (with_reducible first | exact HB.out | apply below_alloc | apply pw_below_drewN | apply below_drew1 | refine below_set ?_ GE305.out) | exact HB.out)⟩⟩
                            · rw [if_neg c42] at H
                              have c42b0 : (x12_18 == 0) = false := beq_eq_false_iff_ne.mpr c42
                              have c42b1 : (x12_18 != 0) = true := bne_iff_ne.mpr c42
                              have H' := Aside0.mk H
                              clear H
                              go_wp2
                              go_roundg kj34
                              case measure => have := HJ2.out; have := HK2.out; have := HJ18.out; have := HJ34.out; omega
                              case rel => exact ⟨(x0_2), (wrap64 (x28_2 + 1)), (by first | rfl | (simp; done) | (simp [*]; done)), H', ⟨by have := HJ2.out; have := HK2.out; have := HJ18.out; have := HJ34.out; omega⟩, ⟨by (with_reducible repeat (first | apply Kd.V_alloc | apply Kd.V_drewN | apply Kd.V_drew)); exact Kd.V_mono HO_0.out (fun _ hk => hk.1)⟩, ⟨by repeat (first | (with_reducible first | exact HB.out | apply below_alloc | apply pw_below_drewN | apply below_drew1 | refine below_set ?_ GE305.out) | exact HB.out)⟩⟩
                · rw [if_neg c16] at H
                  exact absurd H (by simp)
              · rw [if_neg c15] at H
                exact absurd H (by simp)
            · rw [if_neg c14] at H
              have c14b0 : decide (x28_2 < (l1.length : Int)) = false := decide_eq_false c14
              clear c14
              obtain rfl := Option.some.inj H
              go_wp2
              go_ret
              exact ⟨by first | rfl | (simp [errW_none, errW_some] <;> rfl) | (simp [*, errW_none, errW_some] <;> rfl), by repeat (first | (with_reducible first | exact HB.out | apply below_alloc | apply pw_below_drewN | apply below_drew1) | exact HB.out)⟩

end Go.Proofs.Ytpomppjeknmciaa.PAccountsSteps
