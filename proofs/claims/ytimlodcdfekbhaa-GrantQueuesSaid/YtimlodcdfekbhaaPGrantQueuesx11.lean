-- Printed by a copy of the kit's printer that this session has patched (wip/tools/patch_print.py): the session's own text. Lean checks it.
import Derived.Test.YtimlodcdfekbhaaPGrantQueuesx0
import Derived.Test.YtimlodcdfekbhaaPGrantQueuesx6
import Derived.Test.YtimlodcdfekbhaaPGrantQueuesx8
import Derived.Test.YtimlodcdfekbhaaPGrantQueuesx9
import Derived.Test.YtimlodcdfekbhaaPGrantQueuesx10
namespace Go.Proofs.Ytimlodcdfekbhaa.PGrantQueues
open Go.RowKit Go.Proofs.YtimlodcdfekbhaaW.PrintWords Go.Proofs.YtimlodcdfekbhaaW.PrintLast Go.Proofs.YtimlodcdfekbhaaW.PrintMore
attribute [local go_sem] max2_int min2_int max_two min_two max_three min_three max_four min_four   -- for this text's walks alone
set_option linter.unusedVariables false
set_option linter.unusedSimpArgs false

/-! ### estoverslaw21_GrantQueues: function 10 -/
mutual
def estoverslaw21_GrantQueues.j0 : Nat → List (S37) → List (S64) → Bool → Option (Bool)
  | 0, _, _, _ => none
  | k + 1, x0, x1, x22 => if x22 = true then ((estoverslaw21_awake.f k).bind fun t298 => (some t298)) else ((grant_Check.f k x0).bind fun t299 => ((estoversref21_Check.f k x0).bind fun t300 => (if t299 = t300 then (estoverslaw21_GrantQueues.l0 k x0 x1 (x1.length : Int) 0) else (none))))
def estoverslaw21_GrantQueues.l0 : Nat → List (S37) → List (S64) → Int → Int → Option (Bool)
  | 0, _, _, _, _ => none
  | k + 1, x0, x29, x30, x31 => if x31 < x30 then (if 0 ≤ x31 then (if x31 < (x29.length : Int) then ((grant_Push.f k x0 ((rd_T64 x29 x31).f1.f0) ((rd_T64 x29 x31).f1.f1) ((rd_T64 x29 x31).f1.f2) ((rd_T64 x29 x31).f1.f3)).bind fun bt303 => ((estoversref21_Push.f k x0 ((rd_T64 x29 x31).f1.f0) ((rd_T64 x29 x31).f1.f1) ((rd_T64 x29 x31).f1.f2) ((rd_T64 x29 x31).f1.f3)).bind fun bt307 => (if (rd_T64 x29 x31).f0 = true then ((grant_Cancel.f k x0 ((rd_T64 x29 x31).f1.f0)).bind fun bt311 => ((estoversref21_Cancel.f k x0 ((rd_T64 x29 x31).f1.f0)).bind fun bt315 => (estoverslaw21_GrantQueues.j2 k x0 bt311.1 bt311.2 bt315.1 bt315.2 x29 x30 x31))) else (estoverslaw21_GrantQueues.j2 k x0 bt303.1 bt303.2 bt307.1 bt307.2 x29 x30 x31)))) else (none)) else (none)) else (some true)
def estoverslaw21_GrantQueues.j2 : Nat → List (S37) → List (S37) → Int → List (S37) → Int → List (S64) → Int → Int → Option (Bool)
  | 0, _, _, _, _, _, _, _, _ => none
  | k + 1, x0, x7, x8, x9, x10, x29, x30, x31 => if x8 = x10 then ((estoversref21_Same.f k x7 x9).bind fun t319 => (estoverslaw21_GrantQueues.j3 k x0 x9 x10 x29 x30 x31 (!t319))) else (estoverslaw21_GrantQueues.j3 k x0 x9 x10 x29 x30 x31 true)
def estoverslaw21_GrantQueues.j3 : Nat → List (S37) → List (S37) → Int → List (S64) → Int → Int → Bool → Option (Bool)
  | 0, _, _, _, _, _, _, _ => none
  | k + 1, x0, x9, x10, x29, x30, x31, x75 => if x75 = true then (none) else (if x10 = 0 then (estoverslaw21_GrantQueues.l0 k x9 x29 x30 (wrap64 (x31 + 1))) else (estoverslaw21_GrantQueues.l0 k x0 x29 x30 (wrap64 (x31 + 1))))
end
def estoverslaw21_GrantQueues.f (k : Nat) (l0 : List (S37)) (l1 : List (S64)) : Option (Bool) := (estoverslaw21_awake.f k).bind fun t297 => (if t297 = true then (if (l0.length : Int) > 20 then (estoverslaw21_GrantQueues.j0 k l0 l1 true) else (estoverslaw21_GrantQueues.j0 k l0 l1 (decide ((l1.length : Int) > 40)))) else (estoverslaw21_GrantQueues.j0 k l0 l1 true))
theorem estoverslaw21_GrantQueues.mono_l : ∀ k, (∀ y0 y1 y2, LeO (estoverslaw21_GrantQueues.j0 k y0 y1 y2) (estoverslaw21_GrantQueues.j0 (k + 1) y0 y1 y2)) ∧ (∀ y0 y1 y2 y3, LeO (estoverslaw21_GrantQueues.l0 k y0 y1 y2 y3) (estoverslaw21_GrantQueues.l0 (k + 1) y0 y1 y2 y3)) ∧ (∀ y0 y1 y2 y3 y4 y5 y6 y7, LeO (estoverslaw21_GrantQueues.j2 k y0 y1 y2 y3 y4 y5 y6 y7) (estoverslaw21_GrantQueues.j2 (k + 1) y0 y1 y2 y3 y4 y5 y6 y7)) ∧ (∀ y0 y1 y2 y3 y4 y5 y6, LeO (estoverslaw21_GrantQueues.j3 k y0 y1 y2 y3 y4 y5 y6) (estoverslaw21_GrantQueues.j3 (k + 1) y0 y1 y2 y3 y4 y5 y6))
  | 0 => ⟨fun _ _ _ r h => by simp [estoverslaw21_GrantQueues.j0] at h, fun _ _ _ _ r h => by simp [estoverslaw21_GrantQueues.l0] at h, fun _ _ _ _ _ _ _ _ r h => by simp [estoverslaw21_GrantQueues.j2] at h, fun _ _ _ _ _ _ _ r h => by simp [estoverslaw21_GrantQueues.j3] at h⟩
  | k + 1 => by
    obtain ⟨ih0, ih1, ih2, ih3⟩ := estoverslaw21_GrantQueues.mono_l k
    refine ⟨?_, ?_, ?_, ?_⟩
    · intro y0 y1 y2
      unfold estoverslaw21_GrantQueues.j0
      repeat' first
      | (with_reducible exact ih0 _ _ _)
      | (with_reducible exact ih1 _ _ _ _)
      | (with_reducible exact ih2 _ _ _ _ _ _ _ _)
      | (with_reducible exact ih3 _ _ _ _ _ _ _)
      | (with_reducible exact estoverslaw21_awake.mono _)
      | (with_reducible exact estoversref21_Cancel.mono _ _ _)
      | (with_reducible exact estoversref21_Check.mono _ _)
      | (with_reducible exact estoversref21_Push.mono _ _ _ _ _ _)
      | (with_reducible exact estoversref21_Same.mono _ _ _)
      | (with_reducible exact grant_Cancel.mono _ _ _)
      | (with_reducible exact grant_Check.mono _ _)
      | (with_reducible exact grant_Push.mono _ _ _ _ _ _)
      | (with_reducible exact LeO.refl _)
      | (with_reducible exact LeO.none _)
      | (with_reducible refine LeO.ite ?_ ?_)
      | (with_reducible refine LeO.bind ?_ (fun _ => ?_))
      | exact ih0 _ _ _
      | exact ih1 _ _ _ _
      | exact ih2 _ _ _ _ _ _ _ _
      | exact ih3 _ _ _ _ _ _ _
      | exact estoverslaw21_awake.mono _
      | exact estoversref21_Cancel.mono _ _ _
      | exact estoversref21_Check.mono _ _
      | exact estoversref21_Push.mono _ _ _ _ _ _
      | exact estoversref21_Same.mono _ _ _
      | exact grant_Cancel.mono _ _ _
      | exact grant_Check.mono _ _
      | exact grant_Push.mono _ _ _ _ _ _
      | exact LeO.none _
      | refine LeO.ite ?_ ?_
      | refine LeO.bind ?_ (fun _ => ?_)
    · intro y0 y1 y2 y3
      unfold estoverslaw21_GrantQueues.l0
      repeat' first
      | (with_reducible exact ih0 _ _ _)
      | (with_reducible exact ih1 _ _ _ _)
      | (with_reducible exact ih2 _ _ _ _ _ _ _ _)
      | (with_reducible exact ih3 _ _ _ _ _ _ _)
      | (with_reducible exact estoverslaw21_awake.mono _)
      | (with_reducible exact estoversref21_Cancel.mono _ _ _)
      | (with_reducible exact estoversref21_Check.mono _ _)
      | (with_reducible exact estoversref21_Push.mono _ _ _ _ _ _)
      | (with_reducible exact estoversref21_Same.mono _ _ _)
      | (with_reducible exact grant_Cancel.mono _ _ _)
      | (with_reducible exact grant_Check.mono _ _)
      | (with_reducible exact grant_Push.mono _ _ _ _ _ _)
      | (with_reducible exact LeO.refl _)
      | (with_reducible exact LeO.none _)
      | (with_reducible refine LeO.ite ?_ ?_)
      | (with_reducible refine LeO.bind ?_ (fun _ => ?_))
      | exact ih0 _ _ _
      | exact ih1 _ _ _ _
      | exact ih2 _ _ _ _ _ _ _ _
      | exact ih3 _ _ _ _ _ _ _
      | exact estoverslaw21_awake.mono _
      | exact estoversref21_Cancel.mono _ _ _
      | exact estoversref21_Check.mono _ _
      | exact estoversref21_Push.mono _ _ _ _ _ _
      | exact estoversref21_Same.mono _ _ _
      | exact grant_Cancel.mono _ _ _
      | exact grant_Check.mono _ _
      | exact grant_Push.mono _ _ _ _ _ _
      | exact LeO.none _
      | refine LeO.ite ?_ ?_
      | refine LeO.bind ?_ (fun _ => ?_)
    · intro y0 y1 y2 y3 y4 y5 y6 y7
      unfold estoverslaw21_GrantQueues.j2
      repeat' first
      | (with_reducible exact ih0 _ _ _)
      | (with_reducible exact ih1 _ _ _ _)
      | (with_reducible exact ih2 _ _ _ _ _ _ _ _)
      | (with_reducible exact ih3 _ _ _ _ _ _ _)
      | (with_reducible exact estoverslaw21_awake.mono _)
      | (with_reducible exact estoversref21_Cancel.mono _ _ _)
      | (with_reducible exact estoversref21_Check.mono _ _)
      | (with_reducible exact estoversref21_Push.mono _ _ _ _ _ _)
      | (with_reducible exact estoversref21_Same.mono _ _ _)
      | (with_reducible exact grant_Cancel.mono _ _ _)
      | (with_reducible exact grant_Check.mono _ _)
      | (with_reducible exact grant_Push.mono _ _ _ _ _ _)
      | (with_reducible exact LeO.refl _)
      | (with_reducible exact LeO.none _)
      | (with_reducible refine LeO.ite ?_ ?_)
      | (with_reducible refine LeO.bind ?_ (fun _ => ?_))
      | exact ih0 _ _ _
      | exact ih1 _ _ _ _
      | exact ih2 _ _ _ _ _ _ _ _
      | exact ih3 _ _ _ _ _ _ _
      | exact estoverslaw21_awake.mono _
      | exact estoversref21_Cancel.mono _ _ _
      | exact estoversref21_Check.mono _ _
      | exact estoversref21_Push.mono _ _ _ _ _ _
      | exact estoversref21_Same.mono _ _ _
      | exact grant_Cancel.mono _ _ _
      | exact grant_Check.mono _ _
      | exact grant_Push.mono _ _ _ _ _ _
      | exact LeO.none _
      | refine LeO.ite ?_ ?_
      | refine LeO.bind ?_ (fun _ => ?_)
    · intro y0 y1 y2 y3 y4 y5 y6
      unfold estoverslaw21_GrantQueues.j3
      repeat' first
      | (with_reducible exact ih0 _ _ _)
      | (with_reducible exact ih1 _ _ _ _)
      | (with_reducible exact ih2 _ _ _ _ _ _ _ _)
      | (with_reducible exact ih3 _ _ _ _ _ _ _)
      | (with_reducible exact estoverslaw21_awake.mono _)
      | (with_reducible exact estoversref21_Cancel.mono _ _ _)
      | (with_reducible exact estoversref21_Check.mono _ _)
      | (with_reducible exact estoversref21_Push.mono _ _ _ _ _ _)
      | (with_reducible exact estoversref21_Same.mono _ _ _)
      | (with_reducible exact grant_Cancel.mono _ _ _)
      | (with_reducible exact grant_Check.mono _ _)
      | (with_reducible exact grant_Push.mono _ _ _ _ _ _)
      | (with_reducible exact LeO.refl _)
      | (with_reducible exact LeO.none _)
      | (with_reducible refine LeO.ite ?_ ?_)
      | (with_reducible refine LeO.bind ?_ (fun _ => ?_))
      | exact ih0 _ _ _
      | exact ih1 _ _ _ _
      | exact ih2 _ _ _ _ _ _ _ _
      | exact ih3 _ _ _ _ _ _ _
      | exact estoverslaw21_awake.mono _
      | exact estoversref21_Cancel.mono _ _ _
      | exact estoversref21_Check.mono _ _
      | exact estoversref21_Push.mono _ _ _ _ _ _
      | exact estoversref21_Same.mono _ _ _
      | exact grant_Cancel.mono _ _ _
      | exact grant_Check.mono _ _
      | exact grant_Push.mono _ _ _ _ _ _
      | exact LeO.none _
      | refine LeO.ite ?_ ?_
      | refine LeO.bind ?_ (fun _ => ?_)
theorem estoverslaw21_GrantQueues.mono : ∀ a0 a1 k, LeO (estoverslaw21_GrantQueues.f k a0 a1) (estoverslaw21_GrantQueues.f (k + 1) a0 a1) := by
  intro a0 a1 k
  obtain ⟨ih0, ih1, ih2, ih3⟩ := estoverslaw21_GrantQueues.mono_l k
  unfold estoverslaw21_GrantQueues.f
  repeat' first
      | (with_reducible exact ih0 _ _ _)
      | (with_reducible exact ih1 _ _ _ _)
      | (with_reducible exact ih2 _ _ _ _ _ _ _ _)
      | (with_reducible exact ih3 _ _ _ _ _ _ _)
      | (with_reducible exact estoverslaw21_awake.mono _)
      | (with_reducible exact estoversref21_Cancel.mono _ _ _)
      | (with_reducible exact estoversref21_Check.mono _ _)
      | (with_reducible exact estoversref21_Push.mono _ _ _ _ _ _)
      | (with_reducible exact estoversref21_Same.mono _ _ _)
      | (with_reducible exact grant_Cancel.mono _ _ _)
      | (with_reducible exact grant_Check.mono _ _)
      | (with_reducible exact grant_Push.mono _ _ _ _ _ _)
      | (with_reducible exact LeO.refl _)
      | (with_reducible exact LeO.none _)
      | (with_reducible refine LeO.ite ?_ ?_)
      | (with_reducible refine LeO.bind ?_ (fun _ => ?_))
      | exact ih0 _ _ _
      | exact ih1 _ _ _ _
      | exact ih2 _ _ _ _ _ _ _ _
      | exact ih3 _ _ _ _ _ _ _
      | exact estoverslaw21_awake.mono _
      | exact estoversref21_Cancel.mono _ _ _
      | exact estoversref21_Check.mono _ _
      | exact estoversref21_Push.mono _ _ _ _ _ _
      | exact estoversref21_Same.mono _ _ _
      | exact grant_Cancel.mono _ _ _
      | exact grant_Check.mono _ _
      | exact grant_Push.mono _ _ _ _ _ _
      | exact LeO.none _
      | refine LeO.ite ?_ ?_
      | refine LeO.bind ?_ (fun _ => ?_)
set_option maxHeartbeats 8000000 in
set_option maxRecDepth 100000 in
theorem estoverslaw21_GrantQueues.calls (k : Nat) (P0_ : Nat → Prop) (A0 : Option Addr) (c0 : Nat) (l0 : List (S37)) (A1 : Option Addr) (c1 : Nat) (l1 : List (S64)) (r : Bool) (w : World) (hs0 : Kd.V k37 37 w w.heap.size (fun k_ => P0_ k_) (.slice A0 l0.length c0) l0) (hr1 : Kd.C k64 w A1 l1.length l1) (hc1 : l1.length ≤ c1) (h : estoverslaw21_GrantQueues.f k l0 l1 = some r) :
    Calls Try.prog 10 #[.slice A0 l0.length c0, .slice A1 l1.length c1] w fun e w' => e = .returned (.bool r) ∧ Below w.heap.size w w' := by
  have hu64 := Try.underlying64
  have hu37 := Try.underlying37
  have HO0 := Aside0.mk (show Kd.V k37 37 w w.heap.size (fun k_ => (P0_ k_ ∨ w.heap.size ≤ k_)) (.slice A0 l0.length c0) l0 from Kd.V_mono hs0 (fun k_ hk => .inl hk))
  have HR1 := Aside0.mk hr1
  have HC1 := Aside0.mk hc1
  clear hr1 hc1
  have HB := Aside0.mk (Below.refl w.heap.size w)
  have H : ((estoverslaw21_awake.f k).bind fun t297 => (if t297 = true then (if (l0.length : Int) > 20 then (estoverslaw21_GrantQueues.j0 k l0 l1 true) else (estoverslaw21_GrantQueues.j0 k l0 l1 (decide ((l1.length : Int) > 40)))) else (estoverslaw21_GrantQueues.j0 k l0 l1 true))) = some r := h
  clear h
  have HC3 := Aside0.mk H
  clear H
  go_enter Try.func10, Try.ntmps10
  go_upto_region 1 with (fail)
  go_cut [22] (fun v22 wc => ∃ (kq : Nat) (x22_2 : Bool), v22 = .bool x22_2 ∧ Aside0 (estoverslaw21_GrantQueues.j0 kq l0 l1 x22_2 = some r) ∧ Aside0 (kq ≤ k) ∧ Aside0 (Kd.V k37 37 wc w.heap.size (fun k_ => (P0_ k_ ∨ w.heap.size ≤ k_)) (.slice A0 l0.length c0) l0) ∧ Aside0 (Below w.heap.size w wc))
  case first =>
    have H := HC3.out
    clear HC3
    replace H := Option.bind_eq_some_iff.mp H
    obtain ⟨t297, A40, H⟩ := H
    replace H : (if t297 = true then (if (l0.length : Int) > 20 then (estoverslaw21_GrantQueues.j0 k l0 l1 true) else (estoverslaw21_GrantQueues.j0 k l0 l1 (decide ((l1.length : Int) > 40)))) else (estoverslaw21_GrantQueues.j0 k l0 l1 true)) = some r := H
    have A4 := Aside0.mk A40
    clear A40
    by_cases c5 : t297 = true
    · subst c5
      have H1 : (if (l0.length : Int) > 20 then (estoverslaw21_GrantQueues.j0 k l0 l1 true) else (estoverslaw21_GrantQueues.j0 k l0 l1 (decide ((l1.length : Int) > 40)))) = some r := by rw [if_pos rfl] at H; exact H
      clear H
      have H := H1
      clear H1
      by_cases c6 : (l0.length : Int) > 20
      · rw [if_pos c6] at H
        have c6b0 : decide (20 < (l0.length : Int)) = true := decide_eq_true c6
        have c6b1 : decide (20 < l0.length) = true := decide_eq_true (by omega)
        clear c6
        (first | rw [c6b0] | (simp only [i64_w, i32_w]; rw [c6b0]) | skip)
        have H' := Aside0.mk H
        clear H
        go_wp2_with (first | ((with_reducible refine gate_callee (f := 15) rfl ?_); refine goesL_ (some 11) rfl rfl Try.func15 (by kernel_rfl) rfl #[] rfl (by (try simp only [List.map_toArray, List.map_cons, List.map_nil]); first | done | rfl | (simp only [List.length_drop, List.length_take]; rfl)) ?_; (with_reducible refine (estoverslaw21_awake.calls k  true _ A4.out).mono ?_); rintro e w7 ⟨rfl, hb⟩; refine ⟨_, rfl, ?_⟩; have n0_ := Aside0.mk (Kd.V_below (by (with_reducible repeat (first | apply Kd.V_alloc | apply Kd.V_drewN | apply Kd.V_drew)); exact HO0.out) hb); have n1_ := Aside0.mk (below_step (by repeat (first | (with_reducible first | exact HB.out | apply below_alloc | apply pw_below_drewN | apply below_drew1) | exact HB.out)) hb); clear HO0; clear HB; have HO0 := n0_; have HB := n1_; clear n0_ n1_; (try clear hb); (try clear hb2); (try clear hk); (try clear hi)))
        go_meet
        case rel => exact ⟨_, (true), (by first | rfl | (simp; done) | (simp [*]; done)), H', ⟨by first | omega | exact Nat.le_refl _⟩, ⟨by (with_reducible repeat (first | apply Kd.V_alloc | apply Kd.V_drewN | apply Kd.V_drew)); exact HO0.out⟩, ⟨by repeat (first | (with_reducible first | exact HB.out | apply below_alloc | apply pw_below_drewN | apply below_drew1) | exact HB.out)⟩⟩
      · rw [if_neg c6] at H
        have c6b0 : decide (20 < (l0.length : Int)) = false := decide_eq_false c6
        have c6b1 : decide (20 < l0.length) = false := decide_eq_false (by omega)
        clear c6
        (first | rw [c6b0] | (simp only [i64_w, i32_w]; rw [c6b0]) | skip)
        have H' := Aside0.mk H
        clear H
        go_wp2_with (first | ((with_reducible refine gate_callee (f := 15) rfl ?_); refine goesL_ (some 11) rfl rfl Try.func15 (by kernel_rfl) rfl #[] rfl (by (try simp only [List.map_toArray, List.map_cons, List.map_nil]); first | done | rfl | (simp only [List.length_drop, List.length_take]; rfl)) ?_; (with_reducible refine (estoverslaw21_awake.calls k  true _ A4.out).mono ?_); rintro e w8 ⟨rfl, hb⟩; refine ⟨_, rfl, ?_⟩; have n0_ := Aside0.mk (Kd.V_below (by (with_reducible repeat (first | apply Kd.V_alloc | apply Kd.V_drewN | apply Kd.V_drew)); exact HO0.out) hb); have n1_ := Aside0.mk (below_step (by repeat (first | (with_reducible first | exact HB.out | apply below_alloc | apply pw_below_drewN | apply below_drew1) | exact HB.out)) hb); clear HO0; clear HB; have HO0 := n0_; have HB := n1_; clear n0_ n1_; (try clear hb); (try clear hb2); (try clear hk); (try clear hi)))
        go_meet
        case rel => exact ⟨_, (decide ((l1.length : Int) > 40)), (by first | rfl | (simp; done) | (simp [*]; done)), H', ⟨by first | omega | exact Nat.le_refl _⟩, ⟨by (with_reducible repeat (first | apply Kd.V_alloc | apply Kd.V_drewN | apply Kd.V_drew)); exact HO0.out⟩, ⟨by repeat (first | (with_reducible first | exact HB.out | apply below_alloc | apply pw_below_drewN | apply below_drew1) | exact HB.out)⟩⟩
    · replace c5 := Bool.eq_false_iff.mpr c5
      subst c5
      have H1 : (estoverslaw21_GrantQueues.j0 k l0 l1 true) = some r := by rw [if_neg (show ¬ (false = true) by decide)] at H; exact H
      clear H
      have H := H1
      clear H1
      have H' := Aside0.mk H
      clear H
      go_wp2_with (first | ((with_reducible refine gate_callee (f := 15) rfl ?_); refine goesL_ (some 11) rfl rfl Try.func15 (by kernel_rfl) rfl #[] rfl (by (try simp only [List.map_toArray, List.map_cons, List.map_nil]); first | done | rfl | (simp only [List.length_drop, List.length_take]; rfl)) ?_; (with_reducible refine (estoverslaw21_awake.calls k  false _ A4.out).mono ?_); rintro e w9 ⟨rfl, hb⟩; refine ⟨_, rfl, ?_⟩; have n0_ := Aside0.mk (Kd.V_below (by (with_reducible repeat (first | apply Kd.V_alloc | apply Kd.V_drewN | apply Kd.V_drew)); exact HO0.out) hb); have n1_ := Aside0.mk (below_step (by repeat (first | (with_reducible first | exact HB.out | apply below_alloc | apply pw_below_drewN | apply below_drew1) | exact HB.out)) hb); clear HO0; clear HB; have HO0 := n0_; have HB := n1_; clear n0_ n1_; (try clear hb); (try clear hb2); (try clear hk); (try clear hi)))
      go_meet
      case rel => exact ⟨_, (true), (by first | rfl | (simp; done) | (simp [*]; done)), H', ⟨by first | omega | exact Nat.le_refl _⟩, ⟨by (with_reducible repeat (first | apply Kd.V_alloc | apply Kd.V_drewN | apply Kd.V_drew)); exact HO0.out⟩, ⟨by repeat (first | (with_reducible first | exact HB.out | apply below_alloc | apply pw_below_drewN | apply below_drew1) | exact HB.out)⟩⟩
  case rest =>
    clear HC3
    try clear c1
    try clear p2
    try clear c5
    try clear c6
    try clear c6b0
    try clear c6b1
    obtain ⟨kq, x22_2, rfl, HA, HJ2, HO_0, HB⟩ := hcut
    cases kq with
    | zero => exact absurd HA.out (by simp [estoverslaw21_GrantQueues.j0])
    | succ kj2 =>
      have H := HA.out
      clear HA
      simp only [estoverslaw21_GrantQueues.j0] at H
      by_cases c10 : x22_2 = true
      · subst c10
        have H1 : ((estoverslaw21_awake.f kj2).bind fun t298 => (some t298)) = some r := by rw [if_pos rfl] at H; exact H
        clear H
        have H := H1
        clear H1
        replace H := Option.bind_eq_some_iff.mp H
        obtain ⟨t298, A110, H⟩ := H
        replace H : (some t298) = some r := H
        have A11 := Aside0.mk A110
        clear A110
        obtain rfl := Option.some.inj H
        go_wp2_with (first | ((with_reducible refine gate_callee (f := 15) rfl ?_); refine goesL_ (some 23) rfl rfl Try.func15 (by kernel_rfl) rfl #[] rfl (by (try simp only [List.map_toArray, List.map_cons, List.map_nil]); first | done | rfl | (simp only [List.length_drop, List.length_take]; rfl)) ?_; (with_reducible refine (estoverslaw21_awake.calls kj2  t298 _ A11.out).mono ?_); rintro e w12 ⟨rfl, hb⟩; refine ⟨_, rfl, ?_⟩; have n0_ := Aside0.mk (Kd.V_below (by (with_reducible repeat (first | apply Kd.V_alloc | apply Kd.V_drewN | apply Kd.V_drew)); exact HO_0.out) hb); have n1_ := Aside0.mk (below_step (by repeat (first | (with_reducible first | exact HB.out | apply below_alloc | apply pw_below_drewN | apply below_drew1) | exact HB.out)) hb); clear HO_0; clear HB; have HO_0 := n0_; have HB := n1_; clear n0_ n1_; (try clear hb); (try clear hb2); (try clear hk); (try clear hi)))
        go_ret
        exact ⟨by first | rfl | (simp [errW_none, errW_some] <;> rfl) | (simp [*, errW_none, errW_some] <;> rfl), by repeat (first | (with_reducible first | exact HB.out | apply below_alloc | apply pw_below_drewN | apply below_drew1) | exact HB.out)⟩
      · replace c10 := Bool.eq_false_iff.mpr c10
        subst c10
        have H1 : ((grant_Check.f kj2 l0).bind fun t299 => ((estoversref21_Check.f kj2 l0).bind fun t300 => (if t299 = t300 then (estoverslaw21_GrantQueues.l0 kj2 l0 l1 (l1.length : Int) 0) else (none)))) = some r := by rw [if_neg (show ¬ (false = true) by decide)] at H; exact H
        clear H
        have H := H1
        clear H1
        replace H := Option.bind_eq_some_iff.mp H
        obtain ⟨t299, A130, H⟩ := H
        replace H : ((estoversref21_Check.f kj2 l0).bind fun t300 => (if t299 = t300 then (estoverslaw21_GrantQueues.l0 kj2 l0 l1 (l1.length : Int) 0) else (none))) = some r := H
        have A13 := Aside0.mk A130
        clear A130
        replace H := Option.bind_eq_some_iff.mp H
        obtain ⟨t300, A140, H⟩ := H
        replace H : (if t299 = t300 then (estoverslaw21_GrantQueues.l0 kj2 l0 l1 (l1.length : Int) 0) else (none)) = some r := H
        have A14 := Aside0.mk A140
        clear A140
        by_cases c15 : t299 = t300
        · rw [if_pos c15] at H
          have c15b0 : (t299 == t300) = true := beq_iff_eq.mpr c15
          have c15b1 : (t299 != t300) = false := bne_eq_false_iff_eq.mpr c15
          clear c15
          have H' := Aside0.mk H
          clear H
          go_wp2_with (first | ((with_reducible refine gate_callee (f := 27) rfl ?_); refine goesL_ (some 25) rfl rfl Try.func27 (by kernel_rfl) rfl #[.slice A0 l0.length c0] rfl (by (try simp only [List.map_toArray, List.map_cons, List.map_nil]); first | done | rfl | (simp only [List.length_drop, List.length_take]; rfl)) ?_; (with_reducible refine (grant_Check.calls kj2 _ _ l0 t299 _ ?side1 ?side2 A13.out).mono ?_); (case side1 => repeat (first | exact (Kd.V_reads' HO_0.out).2.2 | (with_reducible refine Kd.C_alloc ?_ _) | (with_reducible refine Kd.C_drewN ?_ _) | (with_reducible refine Kd.C_drew ?_))); (case side2 => exact (Kd.V_reads' HO_0.out).2.1); rintro e w16 ⟨rfl, hb⟩; refine ⟨_, rfl, ?_⟩; have n0_ := Aside0.mk (Kd.V_below (by (with_reducible repeat (first | apply Kd.V_alloc | apply Kd.V_drewN | apply Kd.V_drew)); exact HO_0.out) hb); have n1_ := Aside0.mk (below_step (by repeat (first | (with_reducible first | exact HB.out | apply below_alloc | apply pw_below_drewN | apply below_drew1) | exact HB.out)) hb); clear HO_0; clear HB; have HO_0 := n0_; have HB := n1_; clear n0_ n1_; (try clear hb); (try clear hb2); (try clear hk); (try clear hi)) | ((with_reducible refine gate_callee (f := 28) rfl ?_); refine goesL_ (some 27) rfl rfl Try.func28 (by kernel_rfl) rfl #[.slice A0 l0.length c0] rfl (by (try simp only [List.map_toArray, List.map_cons, List.map_nil]); first | done | rfl | (simp only [List.length_drop, List.length_take]; rfl)) ?_; (with_reducible refine (estoversref21_Check.calls kj2 _ _ l0 t300 _ ?side1 ?side2 A14.out).mono ?_); (case side1 => repeat (first | exact (Kd.V_reads' HO_0.out).2.2 | (with_reducible refine Kd.C_alloc ?_ _) | (with_reducible refine Kd.C_drewN ?_ _) | (with_reducible refine Kd.C_drew ?_))); (case side2 => exact (Kd.V_reads' HO_0.out).2.1); rintro e w17 ⟨rfl, hb⟩; refine ⟨_, rfl, ?_⟩; have n0_ := Aside0.mk (Kd.V_below (by (with_reducible repeat (first | apply Kd.V_alloc | apply Kd.V_drewN | apply Kd.V_drew)); exact HO_0.out) hb); have n1_ := Aside0.mk (below_step (by repeat (first | (with_reducible first | exact HB.out | apply below_alloc | apply pw_below_drewN | apply below_drew1) | exact HB.out)) hb); clear HO_0; clear HB; have HO_0 := n0_; have HB := n1_; clear n0_ n1_; (try clear hb); (try clear hb2); (try clear hk); (try clear hi)))
          go_loopg [0, 31] kj2 (fun kq v0 v31 w' => ∃ (x0_2 : List (S37)) (x31_2 : Int), v31 = .int .i64 x31_2 ∧ Aside0 (estoverslaw21_GrantQueues.l0 kq x0_2 l1 (l1.length : Int) x31_2 = some r) ∧ Aside0 (kq ≤ kj2) ∧ Aside0 (Kd.V k37 37 w' w.heap.size (fun k_ => (P0_ k_ ∨ w.heap.size ≤ k_)) v0 x0_2) ∧ Aside0 (Below w.heap.size w w'))
          case atStart => exact ⟨(l0), (0), (by first | rfl | (simp; done) | (simp [*]; done)), H', ⟨Nat.le_refl _⟩, ⟨by (with_reducible repeat (first | apply Kd.V_alloc | apply Kd.V_drewN | apply Kd.V_drew)); exact HO_0.out⟩, ⟨by repeat (first | (with_reducible first | exact HB.out | apply below_alloc | apply pw_below_drewN | apply below_drew1) | exact HB.out)⟩⟩
          case round =>
            clear H'
            try clear c1
            try clear c2
            try clear p2
            try clear c5
            try clear c6
            try clear c6b0
            try clear c6b1
            try clear c10
            try clear c15
            try clear c15b0
            try clear c15b1
            try clear p2
            obtain ⟨x0_2, x31_2, rfl, HA, HK2, HO_0, HB⟩ := hrel
            cases gk with
            | zero => exact absurd HA.out (by simp [estoverslaw21_GrantQueues.l0])
            | succ k2 =>
              have H := HA.out
              clear HA
              simp only [estoverslaw21_GrantQueues.l0] at H
              by_cases c18 : x31_2 < (l1.length : Int)
              · rw [if_pos c18] at H
                have c18b0 : decide (x31_2 < (l1.length : Int)) = true := decide_eq_true c18
                clear c18
                by_cases c19 : 0 ≤ x31_2
                · rw [if_pos c19] at H
                  have c19b0 : decide (0 ≤ x31_2) = true := decide_eq_true c19
                  clear c19
                  by_cases c20 : x31_2 < (l1.length : Int)
                  · rw [if_pos c20] at H
                    have c20b0 : decide (x31_2 < (l1.length : Int)) = true := decide_eq_true c20
                    clear c20
                    replace H := Option.bind_eq_some_iff.mp H
                    obtain ⟨⟨t303, t306⟩, A210, H⟩ := H
                    replace H : ((estoversref21_Push.f k2 x0_2 ((rd_T64 l1 x31_2).f1.f0) ((rd_T64 l1 x31_2).f1.f1) ((rd_T64 l1 x31_2).f1.f2) ((rd_T64 l1 x31_2).f1.f3)).bind fun bt307 => (if (rd_T64 l1 x31_2).f0 = true then ((grant_Cancel.f k2 x0_2 ((rd_T64 l1 x31_2).f1.f0)).bind fun bt311 => ((estoversref21_Cancel.f k2 x0_2 ((rd_T64 l1 x31_2).f1.f0)).bind fun bt315 => (estoverslaw21_GrantQueues.j2 k2 x0_2 bt311.1 bt311.2 bt315.1 bt315.2 l1 (l1.length : Int) x31_2))) else (estoverslaw21_GrantQueues.j2 k2 x0_2 t303 t306 bt307.1 bt307.2 l1 (l1.length : Int) x31_2))) = some r := H
                    have A21 := Aside0.mk A210
                    clear A210
                    replace H := Option.bind_eq_some_iff.mp H
                    obtain ⟨⟨t307, t310⟩, A220, H⟩ := H
                    replace H : (if (rd_T64 l1 x31_2).f0 = true then ((grant_Cancel.f k2 x0_2 ((rd_T64 l1 x31_2).f1.f0)).bind fun bt311 => ((estoversref21_Cancel.f k2 x0_2 ((rd_T64 l1 x31_2).f1.f0)).bind fun bt315 => (estoverslaw21_GrantQueues.j2 k2 x0_2 bt311.1 bt311.2 bt315.1 bt315.2 l1 (l1.length : Int) x31_2))) else (estoverslaw21_GrantQueues.j2 k2 x0_2 t303 t306 t307 t310 l1 (l1.length : Int) x31_2)) = some r := H
                    have A22 := Aside0.mk A220
                    clear A220
                    have HC23 := Aside0.mk H
                    clear H
                    have p301 : 0 ≤ (x31_2 : Int) := of_decide_eq_true (by first | (with_reducible assumption) | assumption)
                    have q301 : x31_2 < (l1.length : Int) := of_decide_eq_true (by first | (with_reducible assumption) | assumption)
                    obtain ⟨ad301, e301, hx301_0, hx301_1, hx301_2, hx301_3, hx301_4⟩ := at_T64 HR1.out x31_2 p301 q301
                    cases e301
                    replace hx301_0 := (HB.out.cell (World.block_lt_of_cell? w _ hx301_0)).trans hx301_0
                    replace hx301_1 := (HB.out.cell (World.block_lt_of_cell? w _ hx301_1)).trans hx301_1
                    replace hx301_2 := (HB.out.cell (World.block_lt_of_cell? w _ hx301_2)).trans hx301_2
                    replace hx301_3 := (HB.out.cell (World.block_lt_of_cell? w _ hx301_3)).trans hx301_3
                    replace hx301_4 := (HB.out.cell (World.block_lt_of_cell? w _ hx301_4)).trans hx301_4
                    replace p301 := eq_true p301
                    replace q301 := eq_true q301
                    go_upto_if 50 with (first | ((with_reducible refine gate_dst (N := 6) rfl ?_); (try (refine gate_guard (by rfl) ?_; dsimp only)); refine box_event ?hg (N := 6) ?hd (cs := #[.bool false, .int .i64 0, .int .i64 0, .int .i64 0, .int .i64 0]) (t := 64) ?hr ?_; (case hd => rfl); (case hg => rfl); (case hr => first | (go_simp; done) | (go_simp; rfl)); intro gb302 hg w24 hbox hb; have n0_ := Aside0.mk (Kd.V_below (Kd.V_elderB (by (with_reducible repeat (first | apply Kd.V_alloc | apply Kd.V_drewN | apply Kd.V_drew)); exact HO_0.out) gb302 (Nat.le_of_eq hg.symm)) hb); have n1_ := Aside0.mk (below_step (by repeat (first | (with_reducible first | exact HB.out | apply below_alloc | apply pw_below_drewN | apply below_drew1) | exact HB.out)) hb); have n2_ := Aside0.mk (hbox); have n3_ := Aside0.mk ((by rw [hg]; exact (below_size (by repeat (first | (with_reducible first | exact HB.out | apply below_alloc | apply pw_below_drewN | apply below_drew1) | exact HB.out))) : w.heap.size ≤ gb302)); have n4_ := Aside0.mk ((by rw [hg]; exact (below_size (by repeat (first | (with_reducible first | exact HB.out | apply below_alloc | apply pw_below_drewN | apply below_drew1) | exact HB.out))) : w.heap.size ≤ gb302)); clear HO_0; clear HB; have HO_0 := n0_; have HB := n1_; have BK302 := n2_; have GW302 := n3_; have GE302 := n4_; clear n0_ n1_ n2_ n3_ n4_; clear hb hbox hg; have hcz25_0 : w24.cell? ⟨gb302, 0, none⟩ = some (.bool false) := (blk_cell BK302.out 0).trans rfl; have hcz25_1 : w24.cell? ⟨gb302, 1, none⟩ = some (.int .i64 0) := (blk_cell BK302.out 1).trans rfl; have hcz25_2 : w24.cell? ⟨gb302, 2, none⟩ = some (.int .i64 0) := (blk_cell BK302.out 2).trans rfl; have hcz25_3 : w24.cell? ⟨gb302, 3, none⟩ = some (.int .i64 0) := (blk_cell BK302.out 3).trans rfl; have hcz25_4 : w24.cell? ⟨gb302, 4, none⟩ = some (.int .i64 0) := (blk_cell BK302.out 4).trans rfl; have hfz25_0 := blk_frozen BK302.out 0; have hfz25_1 := blk_frozen BK302.out 1; have hfz25_2 := blk_frozen BK302.out 2; have hfz25_3 := blk_frozen BK302.out 3; have hfz25_4 := blk_frozen BK302.out 4; obtain ⟨Ao26, co26, eo26⟩ := Kd.V_slice HO_0.out; subst eo26) | ((with_reducible refine gate_callee (f := 29) rfl ?_); refine goesL_ (some 39) rfl rfl Try.func29 (by kernel_rfl) rfl #[.slice Ao26 x0_2.length co26, .agg #[.int .i64 ((rd_T64 l1 x31_2).f1.f0), .int .i64 ((rd_T64 l1 x31_2).f1.f1), .int .i64 ((rd_T64 l1 x31_2).f1.f2), .int .i64 ((rd_T64 l1 x31_2).f1.f3)]] rfl (by (try simp only [List.map_toArray, List.map_cons, List.map_nil]); first | done | rfl | (simp only [List.length_drop, List.length_take]; rfl)) ?_; (with_reducible refine (grant_Push.calls k2 _ _ x0_2 ((rd_T64 l1 x31_2).f1.f0) ((rd_T64 l1 x31_2).f1.f1) ((rd_T64 l1 x31_2).f1.f2) ((rd_T64 l1 x31_2).f1.f3) t303 t306 _ ?side1 ?side2 A21.out).mono ?_); (case side1 => refine (Kd.V_reads' (e := 37) (base := w.heap.size) (ok := fun k_ => ((P0_ k_ ∨ w.heap.size ≤ k_) ∧ k_ ≠ gb302)) (n := x0_2.length) (c := co26) ?_).2.2; exact (by (with_reducible repeat (first | apply Kd.V_alloc | apply Kd.V_drewN | apply Kd.V_drew)); exact (Kd.V_mono (Kd.V_far (p := ⟨gb302, 4, none⟩) (Kd.V_far (p := ⟨gb302, 3, none⟩) (Kd.V_far (p := ⟨gb302, 2, none⟩) (Kd.V_far (p := ⟨gb302, 1, none⟩) (Kd.V_far (p := ⟨gb302, 0, none⟩) (Kd.V_mono HO_0.out (fun k_ hk => (⟨hk, hk.2⟩ : _ ∧ k_ ≠ gb302))) (fun _ hk => hk.2) (.bool ((rd_T64 l1 x31_2).f0))) (fun _ hk => hk.2) (.int .i64 ((rd_T64 l1 x31_2).f1.f0))) (fun _ hk => hk.2) (.int .i64 ((rd_T64 l1 x31_2).f1.f1))) (fun _ hk => hk.2) (.int .i64 ((rd_T64 l1 x31_2).f1.f2))) (fun _ hk => hk.2) (.int .i64 ((rd_T64 l1 x31_2).f1.f3))) (fun _ h_ => h_.1)))); (case side2 => exact (Kd.V_reads' HO_0.out).2.1); rintro e w27 ⟨v304, rfl, ho0, hb⟩; refine ⟨_, rfl, ?_⟩; have n0_ := Aside0.mk (Kd.V_elder' (by (with_reducible repeat (first | apply Kd.V_alloc | apply Kd.V_drewN | apply Kd.V_drew)); exact (Kd.V_mono (Kd.V_far (p := ⟨gb302, 4, none⟩) (Kd.V_far (p := ⟨gb302, 3, none⟩) (Kd.V_far (p := ⟨gb302, 2, none⟩) (Kd.V_far (p := ⟨gb302, 1, none⟩) (Kd.V_far (p := ⟨gb302, 0, none⟩) (Kd.V_mono HO_0.out (fun k_ hk => (⟨hk, hk.2⟩ : _ ∧ k_ ≠ gb302))) (fun _ hk => hk.2) (.bool ((rd_T64 l1 x31_2).f0))) (fun _ hk => hk.2) (.int .i64 ((rd_T64 l1 x31_2).f1.f0))) (fun _ hk => hk.2) (.int .i64 ((rd_T64 l1 x31_2).f1.f1))) (fun _ hk => hk.2) (.int .i64 ((rd_T64 l1 x31_2).f1.f2))) (fun _ hk => hk.2) (.int .i64 ((rd_T64 l1 x31_2).f1.f3))) (fun _ h_ => h_.1))) (Kd.R_base ho0) hb); have n1_ := Aside0.mk (Kd.R_lower (Kd.R_newM (M := fun k_ => (w.heap.size ≤ k_)) ho0 (below_size (by repeat (first | (with_reducible first | exact HB.out | apply below_alloc | apply pw_below_drewN | apply below_drew1 | refine below_set ?_ GE302.out) | exact HB.out))) (fun k_ h_ => h_)) (below_size (by repeat (first | (with_reducible first | exact HB.out | apply below_alloc | apply pw_below_drewN | apply below_drew1 | refine below_set ?_ GE302.out) | exact HB.out)))); have n2_ := Aside0.mk (blk_below (g := gb302) (o := .cells #[.bool ((rd_T64 l1 x31_2).f0), .int .i64 ((rd_T64 l1 x31_2).f1.f0), .int .i64 ((rd_T64 l1 x31_2).f1.f1), .int .i64 ((rd_T64 l1 x31_2).f1.f2), .int .i64 ((rd_T64 l1 x31_2).f1.f3)] 64 (0, 0)) (by (with_reducible repeat (first | refine blk_drewN ?_ _ | refine blk_drew ?_ | refine blk_alloc ?_ _)); refine blk_put (cs := #[.bool ((rd_T64 l1 x31_2).f0), .int .i64 ((rd_T64 l1 x31_2).f1.f0), .int .i64 ((rd_T64 l1 x31_2).f1.f1), .int .i64 ((rd_T64 l1 x31_2).f1.f2), .int .i64 0]) ?_ 4 _ rfl; (with_reducible repeat (first | refine blk_drewN ?_ _ | refine blk_drew ?_ | refine blk_alloc ?_ _)); refine blk_put (cs := #[.bool ((rd_T64 l1 x31_2).f0), .int .i64 ((rd_T64 l1 x31_2).f1.f0), .int .i64 ((rd_T64 l1 x31_2).f1.f1), .int .i64 0, .int .i64 0]) ?_ 3 _ rfl; (with_reducible repeat (first | refine blk_drewN ?_ _ | refine blk_drew ?_ | refine blk_alloc ?_ _)); refine blk_put (cs := #[.bool ((rd_T64 l1 x31_2).f0), .int .i64 ((rd_T64 l1 x31_2).f1.f0), .int .i64 0, .int .i64 0, .int .i64 0]) ?_ 2 _ rfl; (with_reducible repeat (first | refine blk_drewN ?_ _ | refine blk_drew ?_ | refine blk_alloc ?_ _)); refine blk_put (cs := #[.bool ((rd_T64 l1 x31_2).f0), .int .i64 0, .int .i64 0, .int .i64 0, .int .i64 0]) ?_ 1 _ rfl; (with_reducible repeat (first | refine blk_drewN ?_ _ | refine blk_drew ?_ | refine blk_alloc ?_ _)); refine blk_put (cs := #[.bool false, .int .i64 0, .int .i64 0, .int .i64 0, .int .i64 0]) ?_ 0 _ rfl; (with_reducible repeat (first | refine blk_drewN ?_ _ | refine blk_drew ?_ | refine blk_alloc ?_ _)); exact BK302.out) hb); have n3_ := Aside0.mk (below_step (by repeat (first | (with_reducible first | exact HB.out | apply below_alloc | apply pw_below_drewN | apply below_drew1 | refine below_set ?_ GE302.out) | exact HB.out)) hb); clear HO_0; clear BK302; clear HB; have HO_0 := n0_; have HO305 := n1_; have BK302 := n2_; have HB := n3_; clear n0_ n1_ n2_ n3_; (try clear hb); (try clear hb2); (try clear hk); (try clear hi); (try clear ho0); have hcz28_0 : w27.cell? ⟨gb302, 0, none⟩ = some (.bool ((rd_T64 l1 x31_2).f0)) := (blk_cell BK302.out 0).trans rfl; have hcz28_1 : w27.cell? ⟨gb302, 1, none⟩ = some (.int .i64 ((rd_T64 l1 x31_2).f1.f0)) := (blk_cell BK302.out 1).trans rfl; have hcz28_2 : w27.cell? ⟨gb302, 2, none⟩ = some (.int .i64 ((rd_T64 l1 x31_2).f1.f1)) := (blk_cell BK302.out 2).trans rfl; have hcz28_3 : w27.cell? ⟨gb302, 3, none⟩ = some (.int .i64 ((rd_T64 l1 x31_2).f1.f2)) := (blk_cell BK302.out 3).trans rfl; have hcz28_4 : w27.cell? ⟨gb302, 4, none⟩ = some (.int .i64 ((rd_T64 l1 x31_2).f1.f3)) := (blk_cell BK302.out 4).trans rfl; have hfz28_0 := blk_frozen BK302.out 0; have hfz28_1 := blk_frozen BK302.out 1; have hfz28_2 := blk_frozen BK302.out 2; have hfz28_3 := blk_frozen BK302.out 3; have hfz28_4 := blk_frozen BK302.out 4) | ((with_reducible refine gate_callee (f := 30) rfl ?_); refine goesL_ (some 46) rfl rfl Try.func30 (by kernel_rfl) rfl #[.slice Ao26 x0_2.length co26, .agg #[.int .i64 ((rd_T64 l1 x31_2).f1.f0), .int .i64 ((rd_T64 l1 x31_2).f1.f1), .int .i64 ((rd_T64 l1 x31_2).f1.f2), .int .i64 ((rd_T64 l1 x31_2).f1.f3)]] rfl (by (try simp only [List.map_toArray, List.map_cons, List.map_nil]); first | done | rfl | (simp only [List.length_drop, List.length_take]; rfl)) ?_; (with_reducible refine (estoversref21_Push.calls k2 _ _ x0_2 ((rd_T64 l1 x31_2).f1.f0) ((rd_T64 l1 x31_2).f1.f1) ((rd_T64 l1 x31_2).f1.f2) ((rd_T64 l1 x31_2).f1.f3) t307 t310 _ ?side1 ?side2 A22.out).mono ?_); (case side1 => repeat (first | exact (Kd.V_reads' HO_0.out).2.2 | (with_reducible refine Kd.C_alloc ?_ _) | (with_reducible refine Kd.C_drewN ?_ _) | (with_reducible refine Kd.C_drew ?_))); (case side2 => exact (Kd.V_reads' HO_0.out).2.1); rintro e w29 ⟨v308, rfl, ho0, hb⟩; refine ⟨_, rfl, ?_⟩; have n0_ := Aside0.mk (Kd.V_elder' (by (with_reducible repeat (first | apply Kd.V_alloc | apply Kd.V_drewN | apply Kd.V_drew)); exact HO_0.out) (Kd.R_base ho0) hb); have n1_ := Aside0.mk (Kd.R_elder' (by (with_reducible repeat (first | apply Kd.R_alloc | apply Kd.R_drewN | apply Kd.R_drew)); exact HO305.out) (Kd.R_base ho0) hb); have n2_ := Aside0.mk (Kd.R_lower (Kd.R_new' (Kd.R_newM (M := fun k_ => (w.heap.size ≤ k_)) ho0 (below_size (by repeat (first | (with_reducible first | exact HB.out | apply below_alloc | apply pw_below_drewN | apply below_drew1 | refine below_set ?_ GE302.out) | exact HB.out))) (fun k_ h_ => h_)) (Kd.R_lt (by (with_reducible repeat (first | apply Kd.R_alloc | apply Kd.R_drewN | apply Kd.R_drew)); exact HO305.out))) (below_size (by repeat (first | (with_reducible first | exact HB.out | apply below_alloc | apply pw_below_drewN | apply below_drew1 | refine below_set ?_ GE302.out) | exact HB.out)))); have n3_ := Aside0.mk (blk_below (g := gb302) (o := .cells #[.bool ((rd_T64 l1 x31_2).f0), .int .i64 ((rd_T64 l1 x31_2).f1.f0), .int .i64 ((rd_T64 l1 x31_2).f1.f1), .int .i64 ((rd_T64 l1 x31_2).f1.f2), .int .i64 ((rd_T64 l1 x31_2).f1.f3)] 64 (0, 0)) (by (with_reducible repeat (first | refine blk_drewN ?_ _ | refine blk_drew ?_ | refine blk_alloc ?_ _)); exact BK302.out) hb); have n4_ := Aside0.mk (below_step (by repeat (first | (with_reducible first | exact HB.out | apply below_alloc | apply pw_below_drewN | apply below_drew1 | refine below_set ?_ GE302.out) | exact HB.out)) hb); clear HO_0; clear HO305; clear BK302; clear HB; have HO_0 := n0_; have HO305 := n1_; have HO309 := n2_; have BK302 := n3_; have HB := n4_; clear n0_ n1_ n2_ n3_ n4_; (try clear hb); (try clear hb2); (try clear hk); (try clear hi); (try clear ho0); have hcz30_0 : w29.cell? ⟨gb302, 0, none⟩ = some (.bool ((rd_T64 l1 x31_2).f0)) := (blk_cell BK302.out 0).trans rfl; have hcz30_1 : w29.cell? ⟨gb302, 1, none⟩ = some (.int .i64 ((rd_T64 l1 x31_2).f1.f0)) := (blk_cell BK302.out 1).trans rfl; have hcz30_2 : w29.cell? ⟨gb302, 2, none⟩ = some (.int .i64 ((rd_T64 l1 x31_2).f1.f1)) := (blk_cell BK302.out 2).trans rfl; have hcz30_3 : w29.cell? ⟨gb302, 3, none⟩ = some (.int .i64 ((rd_T64 l1 x31_2).f1.f2)) := (blk_cell BK302.out 3).trans rfl; have hcz30_4 : w29.cell? ⟨gb302, 4, none⟩ = some (.int .i64 ((rd_T64 l1 x31_2).f1.f3)) := (blk_cell BK302.out 4).trans rfl; have hfz30_0 := blk_frozen BK302.out 0; have hfz30_1 := blk_frozen BK302.out 1; have hfz30_2 := blk_frozen BK302.out 2; have hfz30_3 := blk_frozen BK302.out 3; have hfz30_4 := blk_frozen BK302.out 4))
                    (try simp only [Act.put, List.setIfInBounds_toArray, List.set_cons_zero, List.set_cons_succ])
                    go_cut [7, 8, 9, 10] (fun v7 v8 v9 v10 wc => ∃ (kq : Nat) (x7_22 : List (S37)) (x8_22 : Int) (x9_22 : List (S37)) (x10_22 : Int), v8 = .int .i64 x8_22 ∧ v10 = .int .i64 x10_22 ∧ Aside0 (estoverslaw21_GrantQueues.j2 kq x0_2 x7_22 x8_22 x9_22 x10_22 l1 (l1.length : Int) x31_2 = some r) ∧ Aside0 (kq ≤ k2) ∧ Aside0 (Kd.V k37 37 wc w.heap.size (fun k_ => (P0_ k_ ∨ w.heap.size ≤ k_) ∧ some k_ ≠ (v7 : Value).ownBlock ∧ some k_ ≠ (v9 : Value).ownBlock ∧ k_ ≠ gb302) (.slice Ao26 x0_2.length co26) x0_2) ∧ Aside0 (Kd.R k37 37 wc w.heap.size (fun k_ => (w.heap.size ≤ k_) ∧ some k_ ≠ (v9 : Value).ownBlock) v7 x7_22) ∧ Aside0 (Kd.R k37 37 wc w.heap.size (fun k_ => (w.heap.size ≤ k_) ∧ some k_ ≠ (v7 : Value).ownBlock) v9 x9_22) ∧ Aside0 (wc.heap[gb302]? = some (.cells #[.bool ((rd_T64 l1 x31_2).f0), .int .i64 ((rd_T64 l1 x31_2).f1.f0), .int .i64 ((rd_T64 l1 x31_2).f1.f1), .int .i64 ((rd_T64 l1 x31_2).f1.f2), .int .i64 ((rd_T64 l1 x31_2).f1.f3)] 64 (0, 0))) ∧ Aside0 (Below w.heap.size w wc))
                    case first =>
                      have H := HC23.out
                      clear HC23
                      obtain ⟨bq31, hbq31⟩ : ∃ b_ : Bool, b_ = ((rd_T64 l1 x31_2).f0) := ⟨_, rfl⟩
                      replace H : (if bq31 = true then ((grant_Cancel.f k2 x0_2 ((rd_T64 l1 x31_2).f1.f0)).bind fun bt311 => ((estoversref21_Cancel.f k2 x0_2 ((rd_T64 l1 x31_2).f1.f0)).bind fun bt315 => (estoverslaw21_GrantQueues.j2 k2 x0_2 bt311.1 bt311.2 bt315.1 bt315.2 l1 (l1.length : Int) x31_2))) else (estoverslaw21_GrantQueues.j2 k2 x0_2 t303 t306 t307 t310 l1 (l1.length : Int) x31_2)) = some r := by rw [← hbq31] at H; exact H
                      have Nbq31 := Aside0.mk hbq31
                      clear hbq31
                      (try rw [← Nbq31.out])
                      by_cases c32 : bq31 = true
                      · subst c32
                        have H1 : ((grant_Cancel.f k2 x0_2 ((rd_T64 l1 x31_2).f1.f0)).bind fun bt311 => ((estoversref21_Cancel.f k2 x0_2 ((rd_T64 l1 x31_2).f1.f0)).bind fun bt315 => (estoverslaw21_GrantQueues.j2 k2 x0_2 bt311.1 bt311.2 bt315.1 bt315.2 l1 (l1.length : Int) x31_2))) = some r := by rw [if_pos rfl] at H; exact H
                        clear H
                        have H := H1
                        clear H1
                        (try rw [← Nbq31.out] at BK302)
                        replace H := Option.bind_eq_some_iff.mp H
                        obtain ⟨⟨t311, t312⟩, A330, H⟩ := H
                        replace H : ((estoversref21_Cancel.f k2 x0_2 ((rd_T64 l1 x31_2).f1.f0)).bind fun bt315 => (estoverslaw21_GrantQueues.j2 k2 x0_2 t311 t312 bt315.1 bt315.2 l1 (l1.length : Int) x31_2)) = some r := H
                        have A33 := Aside0.mk A330
                        clear A330
                        replace H := Option.bind_eq_some_iff.mp H
                        obtain ⟨⟨t315, t316⟩, A340, H⟩ := H
                        replace H : (estoverslaw21_GrantQueues.j2 k2 x0_2 t311 t312 t315 t316 l1 (l1.length : Int) x31_2) = some r := H
                        have A34 := Aside0.mk A340
                        clear A340
                        have H' := Aside0.mk H
                        clear H
                        have hcz35_0 : w29.cell? ⟨gb302, 0, none⟩ = some (.bool true) := (blk_cell BK302.out 0).trans rfl
                        have hcz35_1 : w29.cell? ⟨gb302, 1, none⟩ = some (.int .i64 ((rd_T64 l1 x31_2).f1.f0)) := (blk_cell BK302.out 1).trans rfl
                        have hcz35_2 : w29.cell? ⟨gb302, 2, none⟩ = some (.int .i64 ((rd_T64 l1 x31_2).f1.f1)) := (blk_cell BK302.out 2).trans rfl
                        have hcz35_3 : w29.cell? ⟨gb302, 3, none⟩ = some (.int .i64 ((rd_T64 l1 x31_2).f1.f2)) := (blk_cell BK302.out 3).trans rfl
                        have hcz35_4 : w29.cell? ⟨gb302, 4, none⟩ = some (.int .i64 ((rd_T64 l1 x31_2).f1.f3)) := (blk_cell BK302.out 4).trans rfl
                        have hfz35_0 := blk_frozen BK302.out 0
                        have hfz35_1 := blk_frozen BK302.out 1
                        have hfz35_2 := blk_frozen BK302.out 2
                        have hfz35_3 := blk_frozen BK302.out 3
                        have hfz35_4 := blk_frozen BK302.out 4
                        (try rw [← Nbq31.out])
                        (try rw [← Nbq31.out] at BK302)
                        go_wp2_with (first | ((with_reducible refine gate_callee (f := 31) rfl ?_); refine goesL_ (some 56) rfl rfl Try.func31 (by kernel_rfl) rfl #[.slice Ao26 x0_2.length co26, .int .i64 ((rd_T64 l1 x31_2).f1.f0)] rfl (by (try simp only [List.map_toArray, List.map_cons, List.map_nil]); first | done | rfl | (simp only [List.length_drop, List.length_take]; rfl)) ?_; (with_reducible refine (grant_Cancel.calls k2 _ _ x0_2 ((rd_T64 l1 x31_2).f1.f0) t311 t312 _ ?side1 ?side2 A33.out).mono ?_); (case side1 => repeat (first | exact (Kd.V_reads' HO_0.out).2.2 | (with_reducible refine Kd.C_alloc ?_ _) | (with_reducible refine Kd.C_drewN ?_ _) | (with_reducible refine Kd.C_drew ?_))); (case side2 => exact (Kd.V_reads' HO_0.out).2.1); rintro e w36 ⟨v313, rfl, ho0, hb⟩; refine ⟨_, rfl, ?_⟩; have n0_ := Aside0.mk (Kd.V_elder' (by (with_reducible repeat (first | apply Kd.V_alloc | apply Kd.V_drewN | apply Kd.V_drew)); exact HO_0.out) (Kd.R_base ho0) hb); have n1_ := Aside0.mk (Kd.R_elder' (by (with_reducible repeat (first | apply Kd.R_alloc | apply Kd.R_drewN | apply Kd.R_drew)); exact HO305.out) (Kd.R_base ho0) hb); have n2_ := Aside0.mk (Kd.R_elder' (by (with_reducible repeat (first | apply Kd.R_alloc | apply Kd.R_drewN | apply Kd.R_drew)); exact HO309.out) (Kd.R_base ho0) hb); have n3_ := Aside0.mk (Kd.R_lower (Kd.R_new' (Kd.R_new' (Kd.R_newM (M := fun k_ => (w.heap.size ≤ k_)) ho0 (below_size (by repeat (first | (with_reducible first | exact HB.out | apply below_alloc | apply pw_below_drewN | apply below_drew1 | refine below_set ?_ GE302.out) | exact HB.out))) (fun k_ h_ => h_)) (Kd.R_lt (by (with_reducible repeat (first | apply Kd.R_alloc | apply Kd.R_drewN | apply Kd.R_drew)); exact HO305.out))) (Kd.R_lt (by (with_reducible repeat (first | apply Kd.R_alloc | apply Kd.R_drewN | apply Kd.R_drew)); exact HO309.out))) (below_size (by repeat (first | (with_reducible first | exact HB.out | apply below_alloc | apply pw_below_drewN | apply below_drew1 | refine below_set ?_ GE302.out) | exact HB.out)))); have n4_ := Aside0.mk (blk_below (g := gb302) (o := .cells #[.bool true, .int .i64 ((rd_T64 l1 x31_2).f1.f0), .int .i64 ((rd_T64 l1 x31_2).f1.f1), .int .i64 ((rd_T64 l1 x31_2).f1.f2), .int .i64 ((rd_T64 l1 x31_2).f1.f3)] 64 (0, 0)) (by (with_reducible repeat (first | refine blk_drewN ?_ _ | refine blk_drew ?_ | refine blk_alloc ?_ _)); exact BK302.out) hb); have n5_ := Aside0.mk (below_step (by repeat (first | (with_reducible first | exact HB.out | apply below_alloc | apply pw_below_drewN | apply below_drew1 | refine below_set ?_ GE302.out) | exact HB.out)) hb); clear HO_0; clear HO305; clear HO309; clear BK302; clear HB; have HO_0 := n0_; have HO305 := n1_; have HO309 := n2_; have HO314 := n3_; have BK302 := n4_; have HB := n5_; clear n0_ n1_ n2_ n3_ n4_ n5_; (try clear hb); (try clear hb2); (try clear hk); (try clear hi); (try clear ho0); have hcz37_0 : w36.cell? ⟨gb302, 0, none⟩ = some (.bool true) := (blk_cell BK302.out 0).trans rfl; have hcz37_1 : w36.cell? ⟨gb302, 1, none⟩ = some (.int .i64 ((rd_T64 l1 x31_2).f1.f0)) := (blk_cell BK302.out 1).trans rfl; have hcz37_2 : w36.cell? ⟨gb302, 2, none⟩ = some (.int .i64 ((rd_T64 l1 x31_2).f1.f1)) := (blk_cell BK302.out 2).trans rfl; have hcz37_3 : w36.cell? ⟨gb302, 3, none⟩ = some (.int .i64 ((rd_T64 l1 x31_2).f1.f2)) := (blk_cell BK302.out 3).trans rfl; have hcz37_4 : w36.cell? ⟨gb302, 4, none⟩ = some (.int .i64 ((rd_T64 l1 x31_2).f1.f3)) := (blk_cell BK302.out 4).trans rfl; have hfz37_0 := blk_frozen BK302.out 0; have hfz37_1 := blk_frozen BK302.out 1; have hfz37_2 := blk_frozen BK302.out 2; have hfz37_3 := blk_frozen BK302.out 3; have hfz37_4 := blk_frozen BK302.out 4) | ((with_reducible refine gate_callee (f := 32) rfl ?_); refine goesL_ (some 64) rfl rfl Try.func32 (by kernel_rfl) rfl #[.slice Ao26 x0_2.length co26, .int .i64 ((rd_T64 l1 x31_2).f1.f0)] rfl (by (try simp only [List.map_toArray, List.map_cons, List.map_nil]); first | done | rfl | (simp only [List.length_drop, List.length_take]; rfl)) ?_; (with_reducible refine (estoversref21_Cancel.calls k2 _ _ x0_2 ((rd_T64 l1 x31_2).f1.f0) t315 t316 _ ?side1 ?side2 A34.out).mono ?_); (case side1 => repeat (first | exact (Kd.V_reads' HO_0.out).2.2 | (with_reducible refine Kd.C_alloc ?_ _) | (with_reducible refine Kd.C_drewN ?_ _) | (with_reducible refine Kd.C_drew ?_))); (case side2 => exact (Kd.V_reads' HO_0.out).2.1); rintro e w38 ⟨v317, rfl, ho0, hb⟩; refine ⟨_, rfl, ?_⟩; have n0_ := Aside0.mk (Kd.V_elder' (by (with_reducible repeat (first | apply Kd.V_alloc | apply Kd.V_drewN | apply Kd.V_drew)); exact HO_0.out) (Kd.R_base ho0) hb); have n1_ := Aside0.mk (Kd.R_elder' (by (with_reducible repeat (first | apply Kd.R_alloc | apply Kd.R_drewN | apply Kd.R_drew)); exact HO305.out) (Kd.R_base ho0) hb); have n2_ := Aside0.mk (Kd.R_elder' (by (with_reducible repeat (first | apply Kd.R_alloc | apply Kd.R_drewN | apply Kd.R_drew)); exact HO309.out) (Kd.R_base ho0) hb); have n3_ := Aside0.mk (Kd.R_elder' (by (with_reducible repeat (first | apply Kd.R_alloc | apply Kd.R_drewN | apply Kd.R_drew)); exact HO314.out) (Kd.R_base ho0) hb); have n4_ := Aside0.mk (Kd.R_lower (Kd.R_new' (Kd.R_new' (Kd.R_new' (Kd.R_newM (M := fun k_ => (w.heap.size ≤ k_)) ho0 (below_size (by repeat (first | (with_reducible first | exact HB.out | apply below_alloc | apply pw_below_drewN | apply below_drew1 | refine below_set ?_ GE302.out) | exact HB.out))) (fun k_ h_ => h_)) (Kd.R_lt (by (with_reducible repeat (first | apply Kd.R_alloc | apply Kd.R_drewN | apply Kd.R_drew)); exact HO305.out))) (Kd.R_lt (by (with_reducible repeat (first | apply Kd.R_alloc | apply Kd.R_drewN | apply Kd.R_drew)); exact HO309.out))) (Kd.R_lt (by (with_reducible repeat (first | apply Kd.R_alloc | apply Kd.R_drewN | apply Kd.R_drew)); exact HO314.out))) (below_size (by repeat (first | (with_reducible first | exact HB.out | apply below_alloc | apply pw_below_drewN | apply below_drew1 | refine below_set ?_ GE302.out) | exact HB.out)))); have n5_ := Aside0.mk (blk_below (g := gb302) (o := .cells #[.bool true, .int .i64 ((rd_T64 l1 x31_2).f1.f0), .int .i64 ((rd_T64 l1 x31_2).f1.f1), .int .i64 ((rd_T64 l1 x31_2).f1.f2), .int .i64 ((rd_T64 l1 x31_2).f1.f3)] 64 (0, 0)) (by (with_reducible repeat (first | refine blk_drewN ?_ _ | refine blk_drew ?_ | refine blk_alloc ?_ _)); exact BK302.out) hb); have n6_ := Aside0.mk (below_step (by repeat (first | (with_reducible first | exact HB.out | apply below_alloc | apply pw_below_drewN | apply below_drew1 | refine below_set ?_ GE302.out) | exact HB.out)) hb); clear HO_0; clear HO305; clear HO309; clear HO314; clear BK302; clear HB; have HO_0 := n0_; have HO305 := n1_; have HO309 := n2_; have HO314 := n3_; have HO318 := n4_; have BK302 := n5_; have HB := n6_; clear n0_ n1_ n2_ n3_ n4_ n5_ n6_; (try clear hb); (try clear hb2); (try clear hk); (try clear hi); (try clear ho0)))
                        go_meet
                        case rel => (try rw [← Nbq31.out]); exact ⟨_, (t311), (t312), (t315), (t316), (by first | rfl | (simp; done) | (simp [*]; done)), (by first | rfl | (simp; done) | (simp [*]; done)), H', ⟨by have := HJ2.out; have := HK2.out; first | omega | exact Nat.le_refl _⟩, ⟨by (with_reducible repeat (first | apply Kd.V_alloc | apply Kd.V_drewN | apply Kd.V_drew)); exact Kd.V_mono HO_0.out (fun _ hk => ⟨hk.1.1.1.1.1, ⟨hk.1.2, ⟨hk.2, hk.1.1.1.1.2⟩⟩⟩)⟩, ⟨by (with_reducible repeat (first | apply Kd.R_alloc | apply Kd.R_drewN | apply Kd.R_drew)); exact Kd.R_mono HO314.out (fun _ hk => ⟨hk.1.1.1.1, hk.2⟩)⟩, ⟨by (with_reducible repeat (first | apply Kd.R_alloc | apply Kd.R_drewN | apply Kd.R_drew)); exact Kd.R_mono HO318.out (fun _ hk => ⟨hk.1.1.1.1, hk.2⟩)⟩, ⟨by (with_reducible repeat (first | refine blk_drewN ?_ _ | refine blk_drew ?_ | refine blk_alloc ?_ _)); exact BK302.out⟩, ⟨by repeat (first | (with_reducible first | exact HB.out | apply below_alloc | apply pw_below_drewN | apply below_drew1 | refine below_set ?_ GE302.out) | exact HB.out)⟩⟩
                      · replace c32 := Bool.eq_false_iff.mpr c32
                        subst c32
                        have H1 : (estoverslaw21_GrantQueues.j2 k2 x0_2 t303 t306 t307 t310 l1 (l1.length : Int) x31_2) = some r := by rw [if_neg (show ¬ (false = true) by decide)] at H; exact H
                        clear H
                        have H := H1
                        clear H1
                        (try rw [← Nbq31.out] at BK302)
                        have H' := Aside0.mk H
                        clear H
                        (try rw [← Nbq31.out])
                        (try rw [← Nbq31.out] at BK302)
                        go_wp2
                        go_meet
                        case rel => (try rw [← Nbq31.out]); exact ⟨_, (t303), (t306), (t307), (t310), (by first | rfl | (simp; done) | (simp [*]; done)), (by first | rfl | (simp; done) | (simp [*]; done)), H', ⟨by have := HJ2.out; have := HK2.out; first | omega | exact Nat.le_refl _⟩, ⟨by (with_reducible repeat (first | apply Kd.V_alloc | apply Kd.V_drewN | apply Kd.V_drew)); exact Kd.V_mono HO_0.out (fun _ hk => ⟨hk.1.1.1, ⟨hk.1.2, ⟨hk.2, hk.1.1.2⟩⟩⟩)⟩, ⟨by (with_reducible repeat (first | apply Kd.R_alloc | apply Kd.R_drewN | apply Kd.R_drew)); exact Kd.R_mono HO305.out (fun _ hk => ⟨hk.1.1, hk.2⟩)⟩, ⟨by (with_reducible repeat (first | apply Kd.R_alloc | apply Kd.R_drewN | apply Kd.R_drew)); exact Kd.R_mono HO309.out (fun _ hk => ⟨hk.1.1, hk.2⟩)⟩, ⟨by (with_reducible repeat (first | refine blk_drewN ?_ _ | refine blk_drew ?_ | refine blk_alloc ?_ _)); exact BK302.out⟩, ⟨by repeat (first | (with_reducible first | exact HB.out | apply below_alloc | apply pw_below_drewN | apply below_drew1 | refine below_set ?_ GE302.out) | exact HB.out)⟩⟩
                    case rest =>
                      clear HC23
                      try clear c1
                      try clear c2
                      try clear p2
                      try clear c3
                      try clear p3
                      try clear q3
                      try clear hx3
                      try clear c5
                      try clear c6
                      try clear c6b0
                      try clear c6b1
                      try clear c10
                      try clear c15
                      try clear c15b0
                      try clear c15b1
                      try clear c18
                      try clear c18b0
                      try clear c19
                      try clear c19b0
                      try clear c20
                      try clear c20b0
                      try clear c27
                      try clear c28
                      try clear c29
                      try clear c30
                      try clear p30
                      try clear q30
                      try clear hx30
                      try clear c31
                      try clear q31
                      try clear c32
                      try clear hcz25_0
                      try clear hcz25_1
                      try clear hcz25_2
                      try clear hcz25_3
                      try clear hcz25_4
                      try clear hcz28_0
                      try clear hcz28_1
                      try clear hcz28_2
                      try clear hcz28_3
                      try clear hcz28_4
                      try clear hcz30_0
                      try clear hcz30_1
                      try clear hcz30_2
                      try clear hcz30_3
                      try clear hcz30_4
                      try clear hcz35_0
                      try clear hcz35_1
                      try clear hcz35_2
                      try clear hcz35_3
                      try clear hcz35_4
                      try clear hcz37_0
                      try clear hcz37_1
                      try clear hcz37_2
                      try clear hcz37_3
                      try clear hcz37_4
                      try clear hfz25_0
                      try clear hfz25_1
                      try clear hfz25_2
                      try clear hfz25_3
                      try clear hfz25_4
                      try clear hfz28_0
                      try clear hfz28_1
                      try clear hfz28_2
                      try clear hfz28_3
                      try clear hfz28_4
                      try clear hfz30_0
                      try clear hfz30_1
                      try clear hfz30_2
                      try clear hfz30_3
                      try clear hfz30_4
                      try clear hfz35_0
                      try clear hfz35_1
                      try clear hfz35_2
                      try clear hfz35_3
                      try clear hfz35_4
                      try clear hfz37_0
                      try clear hfz37_1
                      try clear hfz37_2
                      try clear hfz37_3
                      try clear hfz37_4
                      try clear hx301_0
                      try clear hx301_1
                      try clear hx301_2
                      try clear hx301_3
                      try clear hx301_4
                      try clear p2
                      try clear p301
                      try clear q301
                      obtain ⟨kq, x7_22, x8_22, x9_22, x10_22, rfl, rfl, HA, HJ22, HO_0, HO_7, HO_9, BK302, HB⟩ := hcut
                      cases kq with
                      | zero => exact absurd HA.out (by simp [estoverslaw21_GrantQueues.j2])
                      | succ kj22 =>
                        have H := HA.out
                        clear HA
                        simp only [estoverslaw21_GrantQueues.j2] at H
                        have HC39 := Aside0.mk H
                        clear H
                        go_upto_region 13 with (fail)
                        go_cut [75] (fun v75 wc => ∃ (kq : Nat) (x75_38 : Bool), v75 = .bool x75_38 ∧ Aside0 (estoverslaw21_GrantQueues.j3 kq x0_2 x9_22 x10_22 l1 (l1.length : Int) x31_2 x75_38 = some r) ∧ Aside0 (kq ≤ kj22) ∧ Aside0 (Kd.V k37 37 wc w.heap.size (fun k_ => (P0_ k_ ∨ w.heap.size ≤ k_) ∧ some k_ ≠ (u9 : Value).ownBlock ∧ k_ ≠ gb302) (.slice Ao26 x0_2.length co26) x0_2) ∧ Aside0 (Kd.R k37 37 wc w.heap.size (fun k_ => (w.heap.size ≤ k_)) u9 x9_22) ∧ Aside0 (wc.heap[gb302]? = some (.cells #[.bool ((rd_T64 l1 x31_2).f0), .int .i64 ((rd_T64 l1 x31_2).f1.f0), .int .i64 ((rd_T64 l1 x31_2).f1.f1), .int .i64 ((rd_T64 l1 x31_2).f1.f2), .int .i64 ((rd_T64 l1 x31_2).f1.f3)] 64 (0, 0))) ∧ Aside0 (Below w.heap.size w wc))
                        case first =>
                          have H := HC39.out
                          clear HC39
                          by_cases c40 : x8_22 = x10_22
                          · rw [if_pos c40] at H
                            have c40b0 : (x8_22 == x10_22) = true := beq_iff_eq.mpr c40
                            have c40b1 : (x8_22 != x10_22) = false := bne_eq_false_iff_eq.mpr c40
                            clear c40
                            (first | rw [c40b0] | (simp only [i64_w, i32_w]; rw [c40b0]) | skip)
                            replace H := Option.bind_eq_some_iff.mp H
                            obtain ⟨t319, A410, H⟩ := H
                            replace H : (estoverslaw21_GrantQueues.j3 kj22 x0_2 x9_22 x10_22 l1 (l1.length : Int) x31_2 (!t319)) = some r := H
                            have A41 := Aside0.mk A410
                            clear A410
                            have H' := Aside0.mk H
                            clear H
                            obtain ⟨Ao42, co42, eo42⟩ := Kd.R_slice HO_7.out
                            subst eo42
                            obtain ⟨Ao43, co43, eo43⟩ := Kd.R_slice HO_9.out
                            subst eo43
                            go_wp2_with (first | (go_at_call 33; (with_reducible refine (estoversref21_Same.calls kj22 _ _ x7_22 _ _ x9_22 t319 _ ?side1 ?side2 ?side3 ?side4 A41.out).mono ?_); (case side1 => repeat (first | exact (Kd.R_reads' HO_7.out).2.2 | (with_reducible refine Kd.C_alloc ?_ _) | (with_reducible refine Kd.C_drewN ?_ _) | (with_reducible refine Kd.C_drew ?_))); (case side2 => exact (Kd.R_reads' HO_7.out).2.1); (case side3 => repeat (first | exact (Kd.R_reads' HO_9.out).2.2 | (with_reducible refine Kd.C_alloc ?_ _) | (with_reducible refine Kd.C_drewN ?_ _) | (with_reducible refine Kd.C_drew ?_))); (case side4 => exact (Kd.R_reads' HO_9.out).2.1); rintro e w' ⟨rfl, ⟨nd, rfl⟩⟩))
                            go_meet
                            case rel => exact ⟨_, (!t319), (by first | rfl | (simp; done) | (simp [*]; done)), H', ⟨by have := HJ2.out; have := HK2.out; have := HJ22.out; first | omega | exact Nat.le_refl _⟩, ⟨by (with_reducible repeat (first | apply Kd.V_alloc | apply Kd.V_drewN | apply Kd.V_drew)); exact Kd.V_mono HO_0.out (fun _ hk => ⟨hk.1, ⟨hk.2.2.1, hk.2.2.2⟩⟩)⟩, ⟨by (with_reducible repeat (first | apply Kd.R_alloc | apply Kd.R_drewN | apply Kd.R_drew)); exact Kd.R_mono HO_9.out (fun _ hk => hk.1)⟩, ⟨by (with_reducible repeat (first | refine blk_drewN ?_ _ | refine blk_drew ?_ | refine blk_alloc ?_ _)); exact BK302.out⟩, ⟨by repeat (first | (with_reducible first | exact HB.out | apply below_alloc | apply pw_below_drewN | apply below_drew1 | refine below_set ?_ GE302.out) | exact HB.out)⟩⟩
                          · rw [if_neg c40] at H
                            have c40b0 : (x8_22 == x10_22) = false := beq_eq_false_iff_ne.mpr c40
                            have c40b1 : (x8_22 != x10_22) = true := bne_iff_ne.mpr c40
                            (first | rw [c40b0] | (simp only [i64_w, i32_w]; rw [c40b0]) | skip)
                            have H' := Aside0.mk H
                            clear H
                            go_wp2
                            go_meet
                            case rel => exact ⟨_, (true), (by first | rfl | (simp; done) | (simp [*]; done)), H', ⟨by have := HJ2.out; have := HK2.out; have := HJ22.out; first | omega | exact Nat.le_refl _⟩, ⟨by (with_reducible repeat (first | apply Kd.V_alloc | apply Kd.V_drewN | apply Kd.V_drew)); exact Kd.V_mono HO_0.out (fun _ hk => ⟨hk.1, ⟨hk.2.2.1, hk.2.2.2⟩⟩)⟩, ⟨by (with_reducible repeat (first | apply Kd.R_alloc | apply Kd.R_drewN | apply Kd.R_drew)); exact Kd.R_mono HO_9.out (fun _ hk => hk.1)⟩, ⟨by (with_reducible repeat (first | refine blk_drewN ?_ _ | refine blk_drew ?_ | refine blk_alloc ?_ _)); exact BK302.out⟩, ⟨by repeat (first | (with_reducible first | exact HB.out | apply below_alloc | apply pw_below_drewN | apply below_drew1 | refine below_set ?_ GE302.out) | exact HB.out)⟩⟩
                        case rest =>
                          clear HC39
                          try clear c1
                          try clear c2
                          try clear p2
                          try clear c3
                          try clear p3
                          try clear q3
                          try clear hx3
                          try clear c4
                          try clear c5
                          try clear c6
                          try clear c6b0
                          try clear c6b1
                          try clear c10
                          try clear c15
                          try clear c15b0
                          try clear c15b1
                          try clear c18
                          try clear c18b0
                          try clear c19
                          try clear c19b0
                          try clear c20
                          try clear c20b0
                          try clear c27
                          try clear c28
                          try clear c29
                          try clear c30
                          try clear p30
                          try clear q30
                          try clear hx30
                          try clear c31
                          try clear q31
                          try clear c32
                          try clear c40
                          try clear c40b0
                          try clear c40b1
                          try clear hcz25_0
                          try clear hcz25_1
                          try clear hcz25_2
                          try clear hcz25_3
                          try clear hcz25_4
                          try clear hcz28_0
                          try clear hcz28_1
                          try clear hcz28_2
                          try clear hcz28_3
                          try clear hcz28_4
                          try clear hcz30_0
                          try clear hcz30_1
                          try clear hcz30_2
                          try clear hcz30_3
                          try clear hcz30_4
                          try clear hcz35_0
                          try clear hcz35_1
                          try clear hcz35_2
                          try clear hcz35_3
                          try clear hcz35_4
                          try clear hcz37_0
                          try clear hcz37_1
                          try clear hcz37_2
                          try clear hcz37_3
                          try clear hcz37_4
                          try clear hfz25_0
                          try clear hfz25_1
                          try clear hfz25_2
                          try clear hfz25_3
                          try clear hfz25_4
                          try clear hfz28_0
                          try clear hfz28_1
                          try clear hfz28_2
                          try clear hfz28_3
                          try clear hfz28_4
                          try clear hfz30_0
                          try clear hfz30_1
                          try clear hfz30_2
                          try clear hfz30_3
                          try clear hfz30_4
                          try clear hfz35_0
                          try clear hfz35_1
                          try clear hfz35_2
                          try clear hfz35_3
                          try clear hfz35_4
                          try clear hfz37_0
                          try clear hfz37_1
                          try clear hfz37_2
                          try clear hfz37_3
                          try clear hfz37_4
                          try clear hx301_0
                          try clear hx301_1
                          try clear hx301_2
                          try clear hx301_3
                          try clear hx301_4
                          try clear p2
                          try clear p3
                          try clear p30
                          try clear p301
                          try clear q3
                          try clear q30
                          try clear q301
                          try clear q31
                          obtain ⟨kq, x75_38, rfl, HA, HJ38, HO_0, HO_9, BK302, HB⟩ := hcut
                          cases kq with
                          | zero => exact absurd HA.out (by simp [estoverslaw21_GrantQueues.j3])
                          | succ kj38 =>
                            have H := HA.out
                            clear HA
                            simp only [estoverslaw21_GrantQueues.j3] at H
                            by_cases c44 : x75_38 = true
                            · subst c44
                              have H1 : (none) = some r := by rw [if_pos rfl] at H; exact H
                              clear H
                              have H := H1
                              clear H1
                              exact absurd H (by simp)
                            · replace c44 := Bool.eq_false_iff.mpr c44
                              subst c44
                              have H1 : (if x10_22 = 0 then (estoverslaw21_GrantQueues.l0 kj38 x9_22 l1 (l1.length : Int) (wrap64 (x31_2 + 1))) else (estoverslaw21_GrantQueues.l0 kj38 x0_2 l1 (l1.length : Int) (wrap64 (x31_2 + 1)))) = some r := by rw [if_neg (show ¬ (false = true) by decide)] at H; exact H
                              clear H
                              have H := H1
                              clear H1
                              by_cases c45 : x10_22 = 0
                              · rw [if_pos c45] at H
                                have c45b0 : (x10_22 == 0) = true := beq_iff_eq.mpr c45
                                have c45b1 : (x10_22 != 0) = false := bne_eq_false_iff_eq.mpr c45
                                clear c45
                                have H' := Aside0.mk H
                                clear H
                                go_wp2
                                go_roundg kj38
                                case measure => have := HJ2.out; have := HK2.out; have := HJ22.out; have := HJ38.out; omega
                                case rel => exact ⟨(x9_22), (wrap64 (x31_2 + 1)), (by first | rfl | (simp; done) | (simp [*]; done)), H', ⟨by have := HJ2.out; have := HK2.out; have := HJ22.out; have := HJ38.out; omega⟩, ⟨Kd.V_mono (Kd.R_V (by (with_reducible repeat (first | apply Kd.R_alloc | apply Kd.R_drewN | apply Kd.R_drew)); exact HO_9.out)) (fun k_ hk => by first | exact ⟨(.inr (hk.1)), hk.2⟩ | exact (.inr (hk)))⟩, ⟨by repeat (first | (with_reducible first | exact HB.out | apply below_alloc | apply pw_below_drewN | apply below_drew1 | refine below_set ?_ GE302.out) | exact HB.out)⟩⟩
                              · rw [if_neg c45] at H
                                have c45b0 : (x10_22 == 0) = false := beq_eq_false_iff_ne.mpr c45
                                have c45b1 : (x10_22 != 0) = true := bne_iff_ne.mpr c45
                                have H' := Aside0.mk H
                                clear H
                                go_wp2
                                go_roundg kj38
                                case measure => have := HJ2.out; have := HK2.out; have := HJ22.out; have := HJ38.out; omega
                                case rel => exact ⟨(x0_2), (wrap64 (x31_2 + 1)), (by first | rfl | (simp; done) | (simp [*]; done)), H', ⟨by have := HJ2.out; have := HK2.out; have := HJ22.out; have := HJ38.out; omega⟩, ⟨by (with_reducible repeat (first | apply Kd.V_alloc | apply Kd.V_drewN | apply Kd.V_drew)); exact Kd.V_mono HO_0.out (fun _ hk => hk.1)⟩, ⟨by repeat (first | (with_reducible first | exact HB.out | apply below_alloc | apply pw_below_drewN | apply below_drew1 | refine below_set ?_ GE302.out) | exact HB.out)⟩⟩
                  · rw [if_neg c20] at H
                    exact absurd H (by simp)
                · rw [if_neg c19] at H
                  exact absurd H (by simp)
              · rw [if_neg c18] at H
                have c18b0 : decide (x31_2 < (l1.length : Int)) = false := decide_eq_false c18
                clear c18
                obtain rfl := Option.some.inj H
                go_wp2
                go_ret
                exact ⟨by first | rfl | (simp [errW_none, errW_some] <;> rfl) | (simp [*, errW_none, errW_some] <;> rfl), by repeat (first | (with_reducible first | exact HB.out | apply below_alloc | apply pw_below_drewN | apply below_drew1) | exact HB.out)⟩
        · rw [if_neg c15] at H
          exact absurd H (by simp)

end Go.Proofs.Ytimlodcdfekbhaa.PGrantQueues
