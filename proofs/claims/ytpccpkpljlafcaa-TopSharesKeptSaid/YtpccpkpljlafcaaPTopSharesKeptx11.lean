-- Printed by a copy of the kit's printer that this session has patched (wip/tools/patch_print.py): the session's own text. Lean checks it.
import Derived.Test.YtpccpkpljlafcaaPTopSharesKeptx0
import Derived.Test.YtpccpkpljlafcaaPTopSharesKeptx10
namespace Go.Proofs.Ytpccpkpljlafcaa.PTopSharesKept
open Go.RowKit Go.Proofs.YtpccpkpljlafcaaW.PrintWords Go.Proofs.YtpccpkpljlafcaaW.PrintLast Go.Proofs.YtpccpkpljlafcaaW.PrintMore
attribute [local go_sem] max2_int min2_int max_two min_two max_three min_three max_four min_four   -- for this text's walks alone
set_option linter.unusedVariables false
set_option linter.unusedSimpArgs false
mutual
def estoversref19_Check.j0 : Nat → List (S53) → Bool → Option (Int)
 | 0, _, _ => none
 | k + 1, x0, x14 => if x14 = true then (some 9) else (estoversref19_Check.l0 k x0 0)
def estoversref19_Check.l0 : Nat → List (S53) → Int → Option (Int)
 | 0, _, _ => none
 | k + 1, x0, x3 => if x3 < (x0.length : Int) then (if x3 = 0 then (if 0 ≤ x3 then (if ((rd_T53 x0 x3).f0) = (-1) then (if x3 > 0 then (if ((rd_T53 x0 x3).f0) < 0 then (some 1) else (if ((rd_T53 x0 x3).f0) ≥ x3 then (some 1) else (estoversref19_Check.l0 k x0 (wrap64 (x3 + 1))))) else (estoversref19_Check.l0 k x0 (wrap64 (x3 + 1)))) else (some 1)) else (none)) else (if x3 > 0 then (if 0 ≤ x3 then (if ((rd_T53 x0 x3).f0) < 0 then (some 1) else (if ((rd_T53 x0 x3).f0) ≥ x3 then (some 1) else (estoversref19_Check.l0 k x0 (wrap64 (x3 + 1))))) else (none)) else (estoversref19_Check.l0 k x0 (wrap64 (x3 + 1))))) else (estoversref19_Check.l1 k x0 0)
def estoversref19_Check.l1 : Nat → List (S53) → Int → Option (Int)
 | 0, _, _ => none
 | k + 1, x0, x4 => if x4 < (x0.length : Int) then (if 0 ≤ x4 then ((estoversref19_in.f ((rd_T53 x0 x4).f1)).bind fun t205 => (if t205 = true then ((estoversref19_in.f ((rd_T53 x0 x4).f2)).bind fun t207 => (if t207 = true then ((estoversref19_in.f ((rd_T53 x0 x4).f3)).bind fun t209 => (if t209 = true then ((estoversref19_in.f ((rd_T53 x0 x4).f4)).bind fun t211 => (if t211 = true then (estoversref19_Check.l1 k x0 (wrap64 (x4 + 1))) else (some 2))) else (some 2))) else (some 2))) else (some 2))) else (none)) else (if 0 < (x0.length : Int) then (if ((rd_T53 x0 0).f2) = 0 then (estoversref19_Check.j3 k x0 (((rd_T53 x0 0).f3) != 0)) else (estoversref19_Check.j3 k x0 true)) else (none))
def estoversref19_Check.j3 : Nat → List (S53) → Bool → Option (Int)
 | 0, _, _ => none
 | k + 1, x0, x103 => if x103 = true then (some 2) else (estoversref19_Check.l2 k x0 0)
def estoversref19_Check.l2 : Nat → List (S53) → Int → Option (Int)
 | 0, _, _ => none
 | k + 1, x0, x5 => if x5 < (x0.length : Int) then (if 0 ≤ x5 then (if ((rd_T53 x0 x5).f1) > ((rd_T53 x0 x5).f4) then (some 17) else (estoversref19_Check.l2 k x0 (wrap64 (x5 + 1)))) else (none)) else (estoversref19_Check.l3 k x0 0)
def estoversref19_Check.l3 : Nat → List (S53) → Int → Option (Int)
 | 0, _, _ => none
 | k + 1, x0, x6 => if x6 < (x0.length : Int) then (if 0 ≤ x6 then ((estoversref19_kids.f k x0 x6).bind fun t217 => (if ((rd_T53 x0 x6).f1) < t217 then (some 11) else (estoversref19_Check.l3 k x0 (wrap64 (x6 + 1))))) else (none)) else (some 0)
end
def estoversref19_Check.f (k : Nat) (l0 : List (S53)) : Option (Int) := if (l0.length : Int) < 1 then (estoversref19_Check.j0 k l0 true) else (estoversref19_Check.j0 k l0 (decide ((l0.length : Int) > 8)))
theorem estoversref19_Check.mono_l : ∀ k, (∀ y0 y1, LeO (estoversref19_Check.j0 k y0 y1) (estoversref19_Check.j0 (k + 1) y0 y1)) ∧ (∀ y0 y1, LeO (estoversref19_Check.l0 k y0 y1) (estoversref19_Check.l0 (k + 1) y0 y1)) ∧ (∀ y0 y1, LeO (estoversref19_Check.l1 k y0 y1) (estoversref19_Check.l1 (k + 1) y0 y1)) ∧ (∀ y0 y1, LeO (estoversref19_Check.j3 k y0 y1) (estoversref19_Check.j3 (k + 1) y0 y1)) ∧ (∀ y0 y1, LeO (estoversref19_Check.l2 k y0 y1) (estoversref19_Check.l2 (k + 1) y0 y1)) ∧ (∀ y0 y1, LeO (estoversref19_Check.l3 k y0 y1) (estoversref19_Check.l3 (k + 1) y0 y1))
 | 0 => ⟨fun _ _ r h => by simp [estoversref19_Check.j0] at h, fun _ _ r h => by simp [estoversref19_Check.l0] at h, fun _ _ r h => by simp [estoversref19_Check.l1] at h, fun _ _ r h => by simp [estoversref19_Check.j3] at h, fun _ _ r h => by simp [estoversref19_Check.l2] at h, fun _ _ r h => by simp [estoversref19_Check.l3] at h⟩
 | k + 1 => by
  obtain ⟨ih0, ih1, ih2, ih3, ih4, ih5⟩ := estoversref19_Check.mono_l k
  refine ⟨?_, ?_, ?_, ?_, ?_, ?_⟩
  ·intro y0 y1
   unfold estoversref19_Check.j0
   repeat' first
   | (with_reducible exact ih0 _ _)
   | (with_reducible exact ih1 _ _)
   | (with_reducible exact ih2 _ _)
   | (with_reducible exact ih3 _ _)
   | (with_reducible exact ih4 _ _)
   | (with_reducible exact ih5 _ _)
   | (with_reducible exact estoversref19_kids.mono _ _ _)
   | (with_reducible exact LeO.refl _)
   | (with_reducible exact LeO.none _)
   | (with_reducible refine LeO.ite ?_ ?_)
   | (with_reducible refine LeO.bind ?_ (fun _ => ?_))
   | exact ih0 _ _
   | exact ih1 _ _
   | exact ih2 _ _
   | exact ih3 _ _
   | exact ih4 _ _
   | exact ih5 _ _
   | exact estoversref19_kids.mono _ _ _
   | exact LeO.none _
   | refine LeO.ite ?_ ?_
   | refine LeO.bind ?_ (fun _ => ?_)
  ·intro y0 y1
   unfold estoversref19_Check.l0
   repeat' first
   | (with_reducible exact ih0 _ _)
   | (with_reducible exact ih1 _ _)
   | (with_reducible exact ih2 _ _)
   | (with_reducible exact ih3 _ _)
   | (with_reducible exact ih4 _ _)
   | (with_reducible exact ih5 _ _)
   | (with_reducible exact estoversref19_kids.mono _ _ _)
   | (with_reducible exact LeO.refl _)
   | (with_reducible exact LeO.none _)
   | (with_reducible refine LeO.ite ?_ ?_)
   | (with_reducible refine LeO.bind ?_ (fun _ => ?_))
   | exact ih0 _ _
   | exact ih1 _ _
   | exact ih2 _ _
   | exact ih3 _ _
   | exact ih4 _ _
   | exact ih5 _ _
   | exact estoversref19_kids.mono _ _ _
   | exact LeO.none _
   | refine LeO.ite ?_ ?_
   | refine LeO.bind ?_ (fun _ => ?_)
  ·intro y0 y1
   unfold estoversref19_Check.l1
   repeat' first
   | (with_reducible exact ih0 _ _)
   | (with_reducible exact ih1 _ _)
   | (with_reducible exact ih2 _ _)
   | (with_reducible exact ih3 _ _)
   | (with_reducible exact ih4 _ _)
   | (with_reducible exact ih5 _ _)
   | (with_reducible exact estoversref19_kids.mono _ _ _)
   | (with_reducible exact LeO.refl _)
   | (with_reducible exact LeO.none _)
   | (with_reducible refine LeO.ite ?_ ?_)
   | (with_reducible refine LeO.bind ?_ (fun _ => ?_))
   | exact ih0 _ _
   | exact ih1 _ _
   | exact ih2 _ _
   | exact ih3 _ _
   | exact ih4 _ _
   | exact ih5 _ _
   | exact estoversref19_kids.mono _ _ _
   | exact LeO.none _
   | refine LeO.ite ?_ ?_
   | refine LeO.bind ?_ (fun _ => ?_)
  ·intro y0 y1
   unfold estoversref19_Check.j3
   repeat' first
   | (with_reducible exact ih0 _ _)
   | (with_reducible exact ih1 _ _)
   | (with_reducible exact ih2 _ _)
   | (with_reducible exact ih3 _ _)
   | (with_reducible exact ih4 _ _)
   | (with_reducible exact ih5 _ _)
   | (with_reducible exact estoversref19_kids.mono _ _ _)
   | (with_reducible exact LeO.refl _)
   | (with_reducible exact LeO.none _)
   | (with_reducible refine LeO.ite ?_ ?_)
   | (with_reducible refine LeO.bind ?_ (fun _ => ?_))
   | exact ih0 _ _
   | exact ih1 _ _
   | exact ih2 _ _
   | exact ih3 _ _
   | exact ih4 _ _
   | exact ih5 _ _
   | exact estoversref19_kids.mono _ _ _
   | exact LeO.none _
   | refine LeO.ite ?_ ?_
   | refine LeO.bind ?_ (fun _ => ?_)
  ·intro y0 y1
   unfold estoversref19_Check.l2
   repeat' first
   | (with_reducible exact ih0 _ _)
   | (with_reducible exact ih1 _ _)
   | (with_reducible exact ih2 _ _)
   | (with_reducible exact ih3 _ _)
   | (with_reducible exact ih4 _ _)
   | (with_reducible exact ih5 _ _)
   | (with_reducible exact estoversref19_kids.mono _ _ _)
   | (with_reducible exact LeO.refl _)
   | (with_reducible exact LeO.none _)
   | (with_reducible refine LeO.ite ?_ ?_)
   | (with_reducible refine LeO.bind ?_ (fun _ => ?_))
   | exact ih0 _ _
   | exact ih1 _ _
   | exact ih2 _ _
   | exact ih3 _ _
   | exact ih4 _ _
   | exact ih5 _ _
   | exact estoversref19_kids.mono _ _ _
   | exact LeO.none _
   | refine LeO.ite ?_ ?_
   | refine LeO.bind ?_ (fun _ => ?_)
  ·intro y0 y1
   unfold estoversref19_Check.l3
   repeat' first
   | (with_reducible exact ih0 _ _)
   | (with_reducible exact ih1 _ _)
   | (with_reducible exact ih2 _ _)
   | (with_reducible exact ih3 _ _)
   | (with_reducible exact ih4 _ _)
   | (with_reducible exact ih5 _ _)
   | (with_reducible exact estoversref19_kids.mono _ _ _)
   | (with_reducible exact LeO.refl _)
   | (with_reducible exact LeO.none _)
   | (with_reducible refine LeO.ite ?_ ?_)
   | (with_reducible refine LeO.bind ?_ (fun _ => ?_))
   | exact ih0 _ _
   | exact ih1 _ _
   | exact ih2 _ _
   | exact ih3 _ _
   | exact ih4 _ _
   | exact ih5 _ _
   | exact estoversref19_kids.mono _ _ _
   | exact LeO.none _
   | refine LeO.ite ?_ ?_
   | refine LeO.bind ?_ (fun _ => ?_)
theorem estoversref19_Check.mono : ∀ a0 k, LeO (estoversref19_Check.f k a0) (estoversref19_Check.f (k + 1) a0) := by
 intro a0 k
 obtain ⟨ih0, ih1, ih2, ih3, ih4, ih5⟩ := estoversref19_Check.mono_l k
 unfold estoversref19_Check.f
 repeat' first
   | (with_reducible exact ih0 _ _)
   | (with_reducible exact ih1 _ _)
   | (with_reducible exact ih2 _ _)
   | (with_reducible exact ih3 _ _)
   | (with_reducible exact ih4 _ _)
   | (with_reducible exact ih5 _ _)
   | (with_reducible exact estoversref19_kids.mono _ _ _)
   | (with_reducible exact LeO.refl _)
   | (with_reducible exact LeO.none _)
   | (with_reducible refine LeO.ite ?_ ?_)
   | (with_reducible refine LeO.bind ?_ (fun _ => ?_))
   | exact ih0 _ _
   | exact ih1 _ _
   | exact ih2 _ _
   | exact ih3 _ _
   | exact ih4 _ _
   | exact ih5 _ _
   | exact estoversref19_kids.mono _ _ _
   | exact LeO.none _
   | refine LeO.ite ?_ ?_
   | refine LeO.bind ?_ (fun _ => ?_)
set_option maxHeartbeats 8000000 in
set_option maxRecDepth 100000 in
theorem estoversref19_Check.calls (k : Nat) (A0 : Option Addr) (c0 : Nat) (l0 : List (S53)) (r : Int) (w : World) (hr0 : Kd.C k53 w A0 l0.length l0) (hc0 : l0.length ≤ c0) (h : estoversref19_Check.f k l0 = some r) :
  Calls Try.prog 8 #[.slice A0 l0.length c0] w fun e w' => e = .returned (.int .i64 r) ∧ Drawn0 w w' := by
 have HR0 := Aside0.mk hr0
 have HC0 := Aside0.mk hc0
 clear hr0 hc0
 have H : (if (l0.length : Int) < 1 then (estoversref19_Check.j0 k l0 true) else (estoversref19_Check.j0 k l0 (decide ((l0.length : Int) > 8)))) = some r := h
 clear h
 have HC2 := Aside0.mk H
 clear H
 go_enter Try.func8, Try.ntmps8
 go_upto_region 1 with (fail)
 repeat (go_quiet (fail); go_upto_region 1 with (fail))
 go_cut [14] (fun v14 wc => ∃ (kq : Nat) (x14_1 : Bool), v14 = .bool x14_1 ∧ Aside0 (estoversref19_Check.j0 kq l0 x14_1 = some r) ∧ Aside0 (kq ≤ k) ∧ Drawn0 w wc)
 case first =>
  have H := HC2.out
  clear HC2
  by_cases c3 : (l0.length : Int) < 1
  ·rw [if_pos c3] at H
   have c3b0 : decide ((l0.length : Int) < 1) = true := decide_eq_true c3
   have c3b1 : decide (l0.length < 1) = true := decide_eq_true (by omega)
   clear c3
   (first | rw [c3b0] | (simp only [i64_w, i32_w]; rw [c3b0]) | skip)
   have H' := Aside0.mk H
   clear H
   go_wp2
   repeat (go_quiet (fail); try go_wp2)
   go_meet
   case rel => exact ⟨_, (true), (by first | rfl | (simp; done) | (simp [*]; done)), H', ⟨by first | omega | exact Nat.le_refl _⟩, by repeat (first | exact Drawn0.refl _ | apply Drawn0.step)⟩
  ·rw [if_neg c3] at H
   have c3b0 : decide ((l0.length : Int) < 1) = false := decide_eq_false c3
   have c3b1 : decide (l0.length < 1) = false := decide_eq_false (by omega)
   clear c3
   (first | rw [c3b0] | (simp only [i64_w, i32_w]; rw [c3b0]) | skip)
   have H' := Aside0.mk H
   clear H
   go_wp2
   repeat (go_quiet (fail); try go_wp2)
   go_meet
   case rel => exact ⟨_, (decide ((l0.length : Int) > 8)), (by first | rfl | (simp; done) | (simp [*]; done)), H', ⟨by first | omega | exact Nat.le_refl _⟩, by repeat (first | exact Drawn0.refl _ | apply Drawn0.step)⟩
 case rest =>
  clear HC2
  try clear p2
  try clear c3
  try clear c3b0
  try clear c3b1
  obtain ⟨kq, x14_1, rfl, HA, HJ1, ⟨mc1, rfl⟩⟩ := hcut
  cases kq with
  | zero => exact absurd HA.out (by simp [estoversref19_Check.j0])
  | succ kj1 =>
   have H := HA.out
   clear HA
   simp only [estoversref19_Check.j0] at H
   by_cases c4 : x14_1 = true
   ·subst c4
    have H1 : (some 9) = some r := by rw [if_pos rfl] at H; exact H
    clear H
    have H := H1
    clear H1
    obtain rfl := Option.some.inj H
    go_wp2
    repeat (go_quiet (fail); try go_wp2)
    go_ret
    exact ⟨by first | rfl | (simp; done) | (simp [*]; done), by repeat (first | exact Drawn0.refl _ | apply Drawn0.step)⟩
   ·replace c4 := Bool.eq_false_iff.mpr c4
    subst c4
    have H1 : (estoversref19_Check.l0 kj1 l0 0) = some r := by rw [if_neg (show ¬ (false = true) by decide)] at H; exact H
    clear H
    have H := H1
    clear H1
    have H' := Aside0.mk H
    clear H
    go_wp2
    repeat (go_quiet (fail); try go_wp2)
    go_loopg [3] kj1 (fun kq v3 w' => ∃ (x3_2 : Int), v3 = .int .i64 x3_2 ∧ Aside0 (estoversref19_Check.l0 kq l0 x3_2 = some r) ∧ Aside0 (kq ≤ kj1) ∧ Drawn0 w w')
    case atStart => exact ⟨(0), (by first | rfl | (simp; done) | (simp [*]; done)), H', ⟨Nat.le_refl _⟩, by repeat (first | exact Drawn0.refl _ | apply Drawn0.step)⟩
    case round =>
     clear H'
     try clear c1
     try clear p2
     try clear c3
     try clear c3b0
     try clear c3b1
     try clear c4
     try clear p2
     obtain ⟨x3_2, rfl, HA, HK2, ⟨m2, rfl⟩⟩ := hrel
     cases gk with
     | zero => exact absurd HA.out (by simp [estoversref19_Check.l0])
     | succ k2 =>
      have H := HA.out
      clear HA
      simp only [estoversref19_Check.l0] at H
      by_cases c5 : x3_2 < (l0.length : Int)
      ·rw [if_pos c5] at H
       have c5b0 : decide (x3_2 < (l0.length : Int)) = true := decide_eq_true c5
       clear c5
       by_cases c6 : x3_2 = 0
       ·rw [if_pos c6] at H
        have c6b0 : (x3_2 == 0) = true := beq_iff_eq.mpr c6
        have c6b1 : (x3_2 != 0) = false := bne_eq_false_iff_eq.mpr c6
        clear c6
        by_cases c7 : 0 ≤ x3_2
        ·rw [if_pos c7] at H
         have c7b0 : decide (0 ≤ x3_2) = true := decide_eq_true c7
         clear c7
         by_cases c8 : ((rd_T53 l0 x3_2).f0) = (-1)
         ·rw [if_pos c8] at H
          have c8b0 : (((rd_T53 l0 x3_2).f0) == (-1)) = true := beq_iff_eq.mpr c8
          have c8b1 : (((rd_T53 l0 x3_2).f0) != (-1)) = false := bne_eq_false_iff_eq.mpr c8
          clear c8
          by_cases c9 : x3_2 > 0
          ·rw [if_pos c9] at H
           have c9b0 : decide (0 < x3_2) = true := decide_eq_true c9
           clear c9
           by_cases c10 : ((rd_T53 l0 x3_2).f0) < 0
           ·rw [if_pos c10] at H
            have c10b0 : decide (((rd_T53 l0 x3_2).f0) < 0) = true := decide_eq_true c10
            clear c10
            obtain rfl := Option.some.inj H
            have p199 : 0 ≤ (x3_2 : Int) := of_decide_eq_true (by first | (with_reducible assumption) | assumption)
            have q199 : x3_2 < (l0.length : Int) := of_decide_eq_true (by first | (with_reducible assumption) | assumption)
            obtain ⟨ad199, e199, hx199_0, hx199_1, hx199_2, hx199_3, hx199_4⟩ := at_T53 HR0.out x3_2 p199 q199
            cases e199
            replace p199 := eq_true p199
            replace q199 := eq_true q199
            have p200 : 0 ≤ (x3_2 : Int) := of_decide_eq_true (by first | (with_reducible assumption) | assumption)
            have q200 : x3_2 < (l0.length : Int) := of_decide_eq_true (by first | (with_reducible assumption) | assumption)
            obtain ⟨ad200, e200, hx200_0, hx200_1, hx200_2, hx200_3, hx200_4⟩ := at_T53 HR0.out x3_2 p200 q200
            obtain rfl : ad199 = ad200 := (by injection e200)
            replace p200 := eq_true p200
            replace q200 := eq_true q200
            go_wp2
            repeat (go_quiet (fail); try go_wp2)
            go_ret
            exact ⟨by first | rfl | (simp; done) | (simp [*]; done), by repeat (first | exact Drawn0.refl _ | apply Drawn0.step)⟩
           ·rw [if_neg c10] at H
            have c10b0 : decide (((rd_T53 l0 x3_2).f0) < 0) = false := decide_eq_false c10
            clear c10
            by_cases c11 : ((rd_T53 l0 x3_2).f0) ≥ x3_2
            ·rw [if_pos c11] at H
             have c11b0 : decide (x3_2 ≤ ((rd_T53 l0 x3_2).f0)) = true := decide_eq_true c11
             clear c11
             obtain rfl := Option.some.inj H
             have p199 : 0 ≤ (x3_2 : Int) := of_decide_eq_true (by first | (with_reducible assumption) | assumption)
             have q199 : x3_2 < (l0.length : Int) := of_decide_eq_true (by first | (with_reducible assumption) | assumption)
             obtain ⟨ad199, e199, hx199_0, hx199_1, hx199_2, hx199_3, hx199_4⟩ := at_T53 HR0.out x3_2 p199 q199
             cases e199
             replace p199 := eq_true p199
             replace q199 := eq_true q199
             have p200 : 0 ≤ (x3_2 : Int) := of_decide_eq_true (by first | (with_reducible assumption) | assumption)
             have q200 : x3_2 < (l0.length : Int) := of_decide_eq_true (by first | (with_reducible assumption) | assumption)
             obtain ⟨ad200, e200, hx200_0, hx200_1, hx200_2, hx200_3, hx200_4⟩ := at_T53 HR0.out x3_2 p200 q200
             obtain rfl : ad199 = ad200 := (by injection e200)
             replace p200 := eq_true p200
             replace q200 := eq_true q200
             have p201 : 0 ≤ (x3_2 : Int) := of_decide_eq_true (by first | (with_reducible assumption) | assumption)
             have q201 : x3_2 < (l0.length : Int) := of_decide_eq_true (by first | (with_reducible assumption) | assumption)
             obtain ⟨ad201, e201, hx201_0, hx201_1, hx201_2, hx201_3, hx201_4⟩ := at_T53 HR0.out x3_2 p201 q201
             obtain rfl : ad199 = ad201 := (by injection e201)
             replace p201 := eq_true p201
             replace q201 := eq_true q201
             go_wp2
             repeat (go_quiet (fail); try go_wp2)
             go_ret
             exact ⟨by first | rfl | (simp; done) | (simp [*]; done), by repeat (first | exact Drawn0.refl _ | apply Drawn0.step)⟩
            ·rw [if_neg c11] at H
             have c11b0 : decide (x3_2 ≤ ((rd_T53 l0 x3_2).f0)) = false := decide_eq_false c11
             clear c11
             have H' := Aside0.mk H
             clear H
             have p199 : 0 ≤ (x3_2 : Int) := of_decide_eq_true (by first | (with_reducible assumption) | assumption)
             have q199 : x3_2 < (l0.length : Int) := of_decide_eq_true (by first | (with_reducible assumption) | assumption)
             obtain ⟨ad199, e199, hx199_0, hx199_1, hx199_2, hx199_3, hx199_4⟩ := at_T53 HR0.out x3_2 p199 q199
             cases e199
             replace p199 := eq_true p199
             replace q199 := eq_true q199
             have p200 : 0 ≤ (x3_2 : Int) := of_decide_eq_true (by first | (with_reducible assumption) | assumption)
             have q200 : x3_2 < (l0.length : Int) := of_decide_eq_true (by first | (with_reducible assumption) | assumption)
             obtain ⟨ad200, e200, hx200_0, hx200_1, hx200_2, hx200_3, hx200_4⟩ := at_T53 HR0.out x3_2 p200 q200
             obtain rfl : ad199 = ad200 := (by injection e200)
             replace p200 := eq_true p200
             replace q200 := eq_true q200
             have p201 : 0 ≤ (x3_2 : Int) := of_decide_eq_true (by first | (with_reducible assumption) | assumption)
             have q201 : x3_2 < (l0.length : Int) := of_decide_eq_true (by first | (with_reducible assumption) | assumption)
             obtain ⟨ad201, e201, hx201_0, hx201_1, hx201_2, hx201_3, hx201_4⟩ := at_T53 HR0.out x3_2 p201 q201
             obtain rfl : ad199 = ad201 := (by injection e201)
             replace p201 := eq_true p201
             replace q201 := eq_true q201
             go_wp2
             repeat (go_quiet (fail); try go_wp2)
             go_roundg k2
             case measure => have := HJ1.out; have := HK2.out; omega
             case rel => exact ⟨(wrap64 (x3_2 + 1)), (by first | rfl | (simp; done) | (simp [*]; done)), H', ⟨by have := HJ1.out; have := HK2.out; omega⟩, by repeat (first | exact Drawn0.refl _ | apply Drawn0.step)⟩
          ·rw [if_neg c9] at H
           have c9b0 : decide (0 < x3_2) = false := decide_eq_false c9
           clear c9
           have H' := Aside0.mk H
           clear H
           have p199 : 0 ≤ (x3_2 : Int) := of_decide_eq_true (by first | (with_reducible assumption) | assumption)
           have q199 : x3_2 < (l0.length : Int) := of_decide_eq_true (by first | (with_reducible assumption) | assumption)
           obtain ⟨ad199, e199, hx199_0, hx199_1, hx199_2, hx199_3, hx199_4⟩ := at_T53 HR0.out x3_2 p199 q199
           cases e199
           replace p199 := eq_true p199
           replace q199 := eq_true q199
           go_wp2
           repeat (go_quiet (fail); try go_wp2)
           go_roundg k2
           case measure => have := HJ1.out; have := HK2.out; omega
           case rel => exact ⟨(wrap64 (x3_2 + 1)), (by first | rfl | (simp; done) | (simp [*]; done)), H', ⟨by have := HJ1.out; have := HK2.out; omega⟩, by repeat (first | exact Drawn0.refl _ | apply Drawn0.step)⟩
         ·rw [if_neg c8] at H
          have c8b0 : (((rd_T53 l0 x3_2).f0) == (-1)) = false := beq_eq_false_iff_ne.mpr c8
          have c8b1 : (((rd_T53 l0 x3_2).f0) != (-1)) = true := bne_iff_ne.mpr c8
          obtain rfl := Option.some.inj H
          have p199 : 0 ≤ (x3_2 : Int) := of_decide_eq_true (by first | (with_reducible assumption) | assumption)
          have q199 : x3_2 < (l0.length : Int) := of_decide_eq_true (by first | (with_reducible assumption) | assumption)
          obtain ⟨ad199, e199, hx199_0, hx199_1, hx199_2, hx199_3, hx199_4⟩ := at_T53 HR0.out x3_2 p199 q199
          cases e199
          replace p199 := eq_true p199
          replace q199 := eq_true q199
          go_wp2
          repeat (go_quiet (fail); try go_wp2)
          go_ret
          exact ⟨by first | rfl | (simp; done) | (simp [*]; done), by repeat (first | exact Drawn0.refl _ | apply Drawn0.step)⟩
        ·rw [if_neg c7] at H
         exact absurd H (by simp)
       ·rw [if_neg c6] at H
        have c6b0 : (x3_2 == 0) = false := beq_eq_false_iff_ne.mpr c6
        have c6b1 : (x3_2 != 0) = true := bne_iff_ne.mpr c6
        by_cases c12 : x3_2 > 0
        ·rw [if_pos c12] at H
         have c12b0 : decide (0 < x3_2) = true := decide_eq_true c12
         clear c12
         by_cases c13 : 0 ≤ x3_2
         ·rw [if_pos c13] at H
          have c13b0 : decide (0 ≤ x3_2) = true := decide_eq_true c13
          clear c13
          by_cases c14 : ((rd_T53 l0 x3_2).f0) < 0
          ·rw [if_pos c14] at H
           have c14b0 : decide (((rd_T53 l0 x3_2).f0) < 0) = true := decide_eq_true c14
           clear c14
           obtain rfl := Option.some.inj H
           have p202 : 0 ≤ (x3_2 : Int) := of_decide_eq_true (by first | (with_reducible assumption) | assumption)
           have q202 : x3_2 < (l0.length : Int) := of_decide_eq_true (by first | (with_reducible assumption) | assumption)
           obtain ⟨ad202, e202, hx202_0, hx202_1, hx202_2, hx202_3, hx202_4⟩ := at_T53 HR0.out x3_2 p202 q202
           cases e202
           replace p202 := eq_true p202
           replace q202 := eq_true q202
           go_wp2
           repeat (go_quiet (fail); try go_wp2)
           go_ret
           exact ⟨by first | rfl | (simp; done) | (simp [*]; done), by repeat (first | exact Drawn0.refl _ | apply Drawn0.step)⟩
          ·rw [if_neg c14] at H
           have c14b0 : decide (((rd_T53 l0 x3_2).f0) < 0) = false := decide_eq_false c14
           clear c14
           by_cases c15 : ((rd_T53 l0 x3_2).f0) ≥ x3_2
           ·rw [if_pos c15] at H
            have c15b0 : decide (x3_2 ≤ ((rd_T53 l0 x3_2).f0)) = true := decide_eq_true c15
            clear c15
            obtain rfl := Option.some.inj H
            have p202 : 0 ≤ (x3_2 : Int) := of_decide_eq_true (by first | (with_reducible assumption) | assumption)
            have q202 : x3_2 < (l0.length : Int) := of_decide_eq_true (by first | (with_reducible assumption) | assumption)
            obtain ⟨ad202, e202, hx202_0, hx202_1, hx202_2, hx202_3, hx202_4⟩ := at_T53 HR0.out x3_2 p202 q202
            cases e202
            replace p202 := eq_true p202
            replace q202 := eq_true q202
            have p203 : 0 ≤ (x3_2 : Int) := of_decide_eq_true (by first | (with_reducible assumption) | assumption)
            have q203 : x3_2 < (l0.length : Int) := of_decide_eq_true (by first | (with_reducible assumption) | assumption)
            obtain ⟨ad203, e203, hx203_0, hx203_1, hx203_2, hx203_3, hx203_4⟩ := at_T53 HR0.out x3_2 p203 q203
            obtain rfl : ad202 = ad203 := (by injection e203)
            replace p203 := eq_true p203
            replace q203 := eq_true q203
            go_wp2
            repeat (go_quiet (fail); try go_wp2)
            go_ret
            exact ⟨by first | rfl | (simp; done) | (simp [*]; done), by repeat (first | exact Drawn0.refl _ | apply Drawn0.step)⟩
           ·rw [if_neg c15] at H
            have c15b0 : decide (x3_2 ≤ ((rd_T53 l0 x3_2).f0)) = false := decide_eq_false c15
            clear c15
            have H' := Aside0.mk H
            clear H
            have p202 : 0 ≤ (x3_2 : Int) := of_decide_eq_true (by first | (with_reducible assumption) | assumption)
            have q202 : x3_2 < (l0.length : Int) := of_decide_eq_true (by first | (with_reducible assumption) | assumption)
            obtain ⟨ad202, e202, hx202_0, hx202_1, hx202_2, hx202_3, hx202_4⟩ := at_T53 HR0.out x3_2 p202 q202
            cases e202
            replace p202 := eq_true p202
            replace q202 := eq_true q202
            have p203 : 0 ≤ (x3_2 : Int) := of_decide_eq_true (by first | (with_reducible assumption) | assumption)
            have q203 : x3_2 < (l0.length : Int) := of_decide_eq_true (by first | (with_reducible assumption) | assumption)
            obtain ⟨ad203, e203, hx203_0, hx203_1, hx203_2, hx203_3, hx203_4⟩ := at_T53 HR0.out x3_2 p203 q203
            obtain rfl : ad202 = ad203 := (by injection e203)
            replace p203 := eq_true p203
            replace q203 := eq_true q203
            go_wp2
            repeat (go_quiet (fail); try go_wp2)
            go_roundg k2
            case measure => have := HJ1.out; have := HK2.out; omega
            case rel => exact ⟨(wrap64 (x3_2 + 1)), (by first | rfl | (simp; done) | (simp [*]; done)), H', ⟨by have := HJ1.out; have := HK2.out; omega⟩, by repeat (first | exact Drawn0.refl _ | apply Drawn0.step)⟩
         ·rw [if_neg c13] at H
          exact absurd H (by simp)
        ·rw [if_neg c12] at H
         have c12b0 : decide (0 < x3_2) = false := decide_eq_false c12
         clear c12
         have H' := Aside0.mk H
         clear H
         go_wp2
         repeat (go_quiet (fail); try go_wp2)
         go_roundg k2
         case measure => have := HJ1.out; have := HK2.out; omega
         case rel => exact ⟨(wrap64 (x3_2 + 1)), (by first | rfl | (simp; done) | (simp [*]; done)), H', ⟨by have := HJ1.out; have := HK2.out; omega⟩, by repeat (first | exact Drawn0.refl _ | apply Drawn0.step)⟩
      ·rw [if_neg c5] at H
       have c5b0 : decide (x3_2 < (l0.length : Int)) = false := decide_eq_false c5
       clear c5
       have H' := Aside0.mk H
       clear H
       go_wp2
       repeat (go_quiet (fail); try go_wp2)
       go_loopg [4] k2 (fun kq v4 w' => ∃ (x4_3 : Int), v4 = .int .i64 x4_3 ∧ Aside0 (estoversref19_Check.l1 kq l0 x4_3 = some r) ∧ Aside0 (kq ≤ k2) ∧ Drawn0 w w')
       case atStart => exact ⟨(0), (by first | rfl | (simp; done) | (simp [*]; done)), H', ⟨Nat.le_refl _⟩, by repeat (first | exact Drawn0.refl _ | apply Drawn0.step)⟩
       case round =>
        clear H'
        try clear c1
        try clear p1
        try clear q1
        try clear hx1
        try clear p2
        try clear q2
        try clear hx2
        try clear c3
        try clear c3b0
        try clear c3b1
        try clear c4
        try clear c5
        try clear c5b0
        try clear c6
        try clear c6b0
        try clear c6b1
        try clear p6
        try clear c7
        try clear c7b0
        try clear c8
        try clear c8b0
        try clear c8b1
        try clear c9
        try clear c9b0
        try clear c10
        try clear c10b0
        try clear c11
        try clear c11b0
        try clear c12
        try clear c12b0
        try clear c13
        try clear c13b0
        try clear c14
        try clear c14b0
        try clear c15
        try clear c15b0
        try clear hx199_0
        try clear hx199_1
        try clear hx199_2
        try clear hx199_3
        try clear hx199_4
        try clear hx200_0
        try clear hx200_1
        try clear hx200_2
        try clear hx200_3
        try clear hx200_4
        try clear hx201_0
        try clear hx201_1
        try clear hx201_2
        try clear hx201_3
        try clear hx201_4
        try clear hx202_0
        try clear hx202_1
        try clear hx202_2
        try clear hx202_3
        try clear hx202_4
        try clear hx203_0
        try clear hx203_1
        try clear hx203_2
        try clear hx203_3
        try clear hx203_4
        try clear p199
        try clear p2
        try clear p200
        try clear p201
        try clear p202
        try clear p203
        try clear q199
        try clear q200
        try clear q201
        try clear q202
        try clear q203
        obtain ⟨x4_3, rfl, HA, HK3, ⟨m3, rfl⟩⟩ := hrel
        cases gk with
        | zero => exact absurd HA.out (by simp [estoversref19_Check.l1])
        | succ k3 =>
         have H := HA.out
         clear HA
         simp only [estoversref19_Check.l1] at H
         by_cases c16 : x4_3 < (l0.length : Int)
         ·rw [if_pos c16] at H
          have c16b0 : decide (x4_3 < (l0.length : Int)) = true := decide_eq_true c16
          clear c16
          by_cases c17 : 0 ≤ x4_3
          ·rw [if_pos c17] at H
           have c17b0 : decide (0 ≤ x4_3) = true := decide_eq_true c17
           clear c17
           replace H := Option.bind_eq_some_iff.mp H
           obtain ⟨t205, A180, H⟩ := H
           replace H : (if t205 = true then ((estoversref19_in.f ((rd_T53 l0 x4_3).f2)).bind fun t207 => (if t207 = true then ((estoversref19_in.f ((rd_T53 l0 x4_3).f3)).bind fun t209 => (if t209 = true then ((estoversref19_in.f ((rd_T53 l0 x4_3).f4)).bind fun t211 => (if t211 = true then (estoversref19_Check.l1 k3 l0 (wrap64 (x4_3 + 1))) else (some 2))) else (some 2))) else (some 2))) else (some 2)) = some r := H
           have A18 := Aside0.mk A180
           clear A180
           by_cases c19 : t205 = true
           ·subst c19
            have H1 : ((estoversref19_in.f ((rd_T53 l0 x4_3).f2)).bind fun t207 => (if t207 = true then ((estoversref19_in.f ((rd_T53 l0 x4_3).f3)).bind fun t209 => (if t209 = true then ((estoversref19_in.f ((rd_T53 l0 x4_3).f4)).bind fun t211 => (if t211 = true then (estoversref19_Check.l1 k3 l0 (wrap64 (x4_3 + 1))) else (some 2))) else (some 2))) else (some 2))) = some r := by rw [if_pos rfl] at H; exact H
            clear H
            have H := H1
            clear H1
            replace H := Option.bind_eq_some_iff.mp H
            obtain ⟨t207, A200, H⟩ := H
            replace H : (if t207 = true then ((estoversref19_in.f ((rd_T53 l0 x4_3).f3)).bind fun t209 => (if t209 = true then ((estoversref19_in.f ((rd_T53 l0 x4_3).f4)).bind fun t211 => (if t211 = true then (estoversref19_Check.l1 k3 l0 (wrap64 (x4_3 + 1))) else (some 2))) else (some 2))) else (some 2)) = some r := H
            have A20 := Aside0.mk A200
            clear A200
            by_cases c21 : t207 = true
            ·subst c21
             have H1 : ((estoversref19_in.f ((rd_T53 l0 x4_3).f3)).bind fun t209 => (if t209 = true then ((estoversref19_in.f ((rd_T53 l0 x4_3).f4)).bind fun t211 => (if t211 = true then (estoversref19_Check.l1 k3 l0 (wrap64 (x4_3 + 1))) else (some 2))) else (some 2))) = some r := by rw [if_pos rfl] at H; exact H
             clear H
             have H := H1
             clear H1
             replace H := Option.bind_eq_some_iff.mp H
             obtain ⟨t209, A220, H⟩ := H
             replace H : (if t209 = true then ((estoversref19_in.f ((rd_T53 l0 x4_3).f4)).bind fun t211 => (if t211 = true then (estoversref19_Check.l1 k3 l0 (wrap64 (x4_3 + 1))) else (some 2))) else (some 2)) = some r := H
             have A22 := Aside0.mk A220
             clear A220
             by_cases c23 : t209 = true
             ·subst c23
              have H1 : ((estoversref19_in.f ((rd_T53 l0 x4_3).f4)).bind fun t211 => (if t211 = true then (estoversref19_Check.l1 k3 l0 (wrap64 (x4_3 + 1))) else (some 2))) = some r := by rw [if_pos rfl] at H; exact H
              clear H
              have H := H1
              clear H1
              replace H := Option.bind_eq_some_iff.mp H
              obtain ⟨t211, A240, H⟩ := H
              replace H : (if t211 = true then (estoversref19_Check.l1 k3 l0 (wrap64 (x4_3 + 1))) else (some 2)) = some r := H
              have A24 := Aside0.mk A240
              clear A240
              by_cases c25 : t211 = true
              ·subst c25
               have H1 : (estoversref19_Check.l1 k3 l0 (wrap64 (x4_3 + 1))) = some r := by rw [if_pos rfl] at H; exact H
               clear H
               have H := H1
               clear H1
               have H' := Aside0.mk H
               clear H
               have p204 : 0 ≤ (x4_3 : Int) := of_decide_eq_true (by first | (with_reducible assumption) | assumption)
               have q204 : x4_3 < (l0.length : Int) := of_decide_eq_true (by first | (with_reducible assumption) | assumption)
               obtain ⟨ad204, e204, hx204_0, hx204_1, hx204_2, hx204_3, hx204_4⟩ := at_T53 HR0.out x4_3 p204 q204
               cases e204
               replace p204 := eq_true p204
               replace q204 := eq_true q204
               go_wp2_with (first | (go_at_call 24; (with_reducible refine (estoversref19_in.calls ((rd_T53 l0 x4_3).f1) true _ A18.out).mono ?_); rintro e w' ⟨rfl, ⟨nd, rfl⟩⟩; (try first | exact ⟨rfl, _, World.drewN_drewN _ _ _⟩ | exact ⟨rfl, _, Eq.trans (World.drewN_drewN _ _ _) (congrArg (World.drewN _) (Nat.add_assoc _ _ _))⟩); have p206 : 0 ≤ (x4_3 : Int) := of_decide_eq_true (by first | (with_reducible assumption) | assumption); have q206 : x4_3 < (l0.length : Int) := of_decide_eq_true (by first | (with_reducible assumption) | assumption); obtain ⟨ad206, e206, hx206_0, hx206_1, hx206_2, hx206_3, hx206_4⟩ := at_T53 HR0.out x4_3 p206 q206; obtain rfl : ad204 = ad206 := (by injection e206); replace p206 := eq_true p206; replace q206 := eq_true q206) | (go_at_call 24; (with_reducible refine (estoversref19_in.calls ((rd_T53 l0 x4_3).f2) true _ A20.out).mono ?_); rintro e w' ⟨rfl, ⟨nd, rfl⟩⟩; (try first | exact ⟨rfl, _, World.drewN_drewN _ _ _⟩ | exact ⟨rfl, _, Eq.trans (World.drewN_drewN _ _ _) (congrArg (World.drewN _) (Nat.add_assoc _ _ _))⟩); have p208 : 0 ≤ (x4_3 : Int) := of_decide_eq_true (by first | (with_reducible assumption) | assumption); have q208 : x4_3 < (l0.length : Int) := of_decide_eq_true (by first | (with_reducible assumption) | assumption); obtain ⟨ad208, e208, hx208_0, hx208_1, hx208_2, hx208_3, hx208_4⟩ := at_T53 HR0.out x4_3 p208 q208; obtain rfl : ad204 = ad208 := (by injection e208); replace p208 := eq_true p208; replace q208 := eq_true q208) | (go_at_call 24; (with_reducible refine (estoversref19_in.calls ((rd_T53 l0 x4_3).f3) true _ A22.out).mono ?_); rintro e w' ⟨rfl, ⟨nd, rfl⟩⟩; (try first | exact ⟨rfl, _, World.drewN_drewN _ _ _⟩ | exact ⟨rfl, _, Eq.trans (World.drewN_drewN _ _ _) (congrArg (World.drewN _) (Nat.add_assoc _ _ _))⟩); have p210 : 0 ≤ (x4_3 : Int) := of_decide_eq_true (by first | (with_reducible assumption) | assumption); have q210 : x4_3 < (l0.length : Int) := of_decide_eq_true (by first | (with_reducible assumption) | assumption); obtain ⟨ad210, e210, hx210_0, hx210_1, hx210_2, hx210_3, hx210_4⟩ := at_T53 HR0.out x4_3 p210 q210; obtain rfl : ad204 = ad210 := (by injection e210); replace p210 := eq_true p210; replace q210 := eq_true q210) | (go_at_call 24; (with_reducible refine (estoversref19_in.calls ((rd_T53 l0 x4_3).f4) true _ A24.out).mono ?_); rintro e w' ⟨rfl, ⟨nd, rfl⟩⟩; (try first | exact ⟨rfl, _, World.drewN_drewN _ _ _⟩ | exact ⟨rfl, _, Eq.trans (World.drewN_drewN _ _ _) (congrArg (World.drewN _) (Nat.add_assoc _ _ _))⟩)))
               repeat (go_quiet (first | (go_at_call 24; (with_reducible refine (estoversref19_in.calls ((rd_T53 l0 x4_3).f1) true _ A18.out).mono ?_); rintro e w' ⟨rfl, ⟨nd, rfl⟩⟩; (try first | exact ⟨rfl, _, World.drewN_drewN _ _ _⟩ | exact ⟨rfl, _, Eq.trans (World.drewN_drewN _ _ _) (congrArg (World.drewN _) (Nat.add_assoc _ _ _))⟩); have p206 : 0 ≤ (x4_3 : Int) := of_decide_eq_true (by first | (with_reducible assumption) | assumption); have q206 : x4_3 < (l0.length : Int) := of_decide_eq_true (by first | (with_reducible assumption) | assumption); obtain ⟨ad206, e206, hx206_0, hx206_1, hx206_2, hx206_3, hx206_4⟩ := at_T53 HR0.out x4_3 p206 q206; obtain rfl : ad204 = ad206 := (by injection e206); replace p206 := eq_true p206; replace q206 := eq_true q206) | (go_at_call 24; (with_reducible refine (estoversref19_in.calls ((rd_T53 l0 x4_3).f2) true _ A20.out).mono ?_); rintro e w' ⟨rfl, ⟨nd, rfl⟩⟩; (try first | exact ⟨rfl, _, World.drewN_drewN _ _ _⟩ | exact ⟨rfl, _, Eq.trans (World.drewN_drewN _ _ _) (congrArg (World.drewN _) (Nat.add_assoc _ _ _))⟩); have p208 : 0 ≤ (x4_3 : Int) := of_decide_eq_true (by first | (with_reducible assumption) | assumption); have q208 : x4_3 < (l0.length : Int) := of_decide_eq_true (by first | (with_reducible assumption) | assumption); obtain ⟨ad208, e208, hx208_0, hx208_1, hx208_2, hx208_3, hx208_4⟩ := at_T53 HR0.out x4_3 p208 q208; obtain rfl : ad204 = ad208 := (by injection e208); replace p208 := eq_true p208; replace q208 := eq_true q208) | (go_at_call 24; (with_reducible refine (estoversref19_in.calls ((rd_T53 l0 x4_3).f3) true _ A22.out).mono ?_); rintro e w' ⟨rfl, ⟨nd, rfl⟩⟩; (try first | exact ⟨rfl, _, World.drewN_drewN _ _ _⟩ | exact ⟨rfl, _, Eq.trans (World.drewN_drewN _ _ _) (congrArg (World.drewN _) (Nat.add_assoc _ _ _))⟩); have p210 : 0 ≤ (x4_3 : Int) := of_decide_eq_true (by first | (with_reducible assumption) | assumption); have q210 : x4_3 < (l0.length : Int) := of_decide_eq_true (by first | (with_reducible assumption) | assumption); obtain ⟨ad210, e210, hx210_0, hx210_1, hx210_2, hx210_3, hx210_4⟩ := at_T53 HR0.out x4_3 p210 q210; obtain rfl : ad204 = ad210 := (by injection e210); replace p210 := eq_true p210; replace q210 := eq_true q210) | (go_at_call 24; (with_reducible refine (estoversref19_in.calls ((rd_T53 l0 x4_3).f4) true _ A24.out).mono ?_); rintro e w' ⟨rfl, ⟨nd, rfl⟩⟩; (try first | exact ⟨rfl, _, World.drewN_drewN _ _ _⟩ | exact ⟨rfl, _, Eq.trans (World.drewN_drewN _ _ _) (congrArg (World.drewN _) (Nat.add_assoc _ _ _))⟩))); try go_wp2_with (first | (go_at_call 24; (with_reducible refine (estoversref19_in.calls ((rd_T53 l0 x4_3).f1) true _ A18.out).mono ?_); rintro e w' ⟨rfl, ⟨nd, rfl⟩⟩; (try first | exact ⟨rfl, _, World.drewN_drewN _ _ _⟩ | exact ⟨rfl, _, Eq.trans (World.drewN_drewN _ _ _) (congrArg (World.drewN _) (Nat.add_assoc _ _ _))⟩); have p206 : 0 ≤ (x4_3 : Int) := of_decide_eq_true (by first | (with_reducible assumption) | assumption); have q206 : x4_3 < (l0.length : Int) := of_decide_eq_true (by first | (with_reducible assumption) | assumption); obtain ⟨ad206, e206, hx206_0, hx206_1, hx206_2, hx206_3, hx206_4⟩ := at_T53 HR0.out x4_3 p206 q206; obtain rfl : ad204 = ad206 := (by injection e206); replace p206 := eq_true p206; replace q206 := eq_true q206) | (go_at_call 24; (with_reducible refine (estoversref19_in.calls ((rd_T53 l0 x4_3).f2) true _ A20.out).mono ?_); rintro e w' ⟨rfl, ⟨nd, rfl⟩⟩; (try first | exact ⟨rfl, _, World.drewN_drewN _ _ _⟩ | exact ⟨rfl, _, Eq.trans (World.drewN_drewN _ _ _) (congrArg (World.drewN _) (Nat.add_assoc _ _ _))⟩); have p208 : 0 ≤ (x4_3 : Int) := of_decide_eq_true (by first | (with_reducible assumption) | assumption); have q208 : x4_3 < (l0.length : Int) := of_decide_eq_true (by first | (with_reducible assumption) | assumption); obtain ⟨ad208, e208, hx208_0, hx208_1, hx208_2, hx208_3, hx208_4⟩ := at_T53 HR0.out x4_3 p208 q208; obtain rfl : ad204 = ad208 := (by injection e208); replace p208 := eq_true p208; replace q208 := eq_true q208) | (go_at_call 24; (with_reducible refine (estoversref19_in.calls ((rd_T53 l0 x4_3).f3) true _ A22.out).mono ?_); rintro e w' ⟨rfl, ⟨nd, rfl⟩⟩; (try first | exact ⟨rfl, _, World.drewN_drewN _ _ _⟩ | exact ⟨rfl, _, Eq.trans (World.drewN_drewN _ _ _) (congrArg (World.drewN _) (Nat.add_assoc _ _ _))⟩); have p210 : 0 ≤ (x4_3 : Int) := of_decide_eq_true (by first | (with_reducible assumption) | assumption); have q210 : x4_3 < (l0.length : Int) := of_decide_eq_true (by first | (with_reducible assumption) | assumption); obtain ⟨ad210, e210, hx210_0, hx210_1, hx210_2, hx210_3, hx210_4⟩ := at_T53 HR0.out x4_3 p210 q210; obtain rfl : ad204 = ad210 := (by injection e210); replace p210 := eq_true p210; replace q210 := eq_true q210) | (go_at_call 24; (with_reducible refine (estoversref19_in.calls ((rd_T53 l0 x4_3).f4) true _ A24.out).mono ?_); rintro e w' ⟨rfl, ⟨nd, rfl⟩⟩; (try first | exact ⟨rfl, _, World.drewN_drewN _ _ _⟩ | exact ⟨rfl, _, Eq.trans (World.drewN_drewN _ _ _) (congrArg (World.drewN _) (Nat.add_assoc _ _ _))⟩))))
               go_roundg k3
               case measure => have := HJ1.out; have := HK2.out; have := HK3.out; omega
               case rel => exact ⟨(wrap64 (x4_3 + 1)), (by first | rfl | (simp; done) | (simp [*]; done)), H', ⟨by have := HJ1.out; have := HK2.out; have := HK3.out; omega⟩, by repeat (first | exact Drawn0.refl _ | apply Drawn0.step)⟩
              ·replace c25 := Bool.eq_false_iff.mpr c25
               subst c25
               have H1 : (some 2) = some r := by rw [if_neg (show ¬ (false = true) by decide)] at H; exact H
               clear H
               have H := H1
               clear H1
               obtain rfl := Option.some.inj H
               have p204 : 0 ≤ (x4_3 : Int) := of_decide_eq_true (by first | (with_reducible assumption) | assumption)
               have q204 : x4_3 < (l0.length : Int) := of_decide_eq_true (by first | (with_reducible assumption) | assumption)
               obtain ⟨ad204, e204, hx204_0, hx204_1, hx204_2, hx204_3, hx204_4⟩ := at_T53 HR0.out x4_3 p204 q204
               cases e204
               replace p204 := eq_true p204
               replace q204 := eq_true q204
               go_wp2_with (first | (go_at_call 24; (with_reducible refine (estoversref19_in.calls ((rd_T53 l0 x4_3).f1) true _ A18.out).mono ?_); rintro e w' ⟨rfl, ⟨nd, rfl⟩⟩; (try first | exact ⟨rfl, _, World.drewN_drewN _ _ _⟩ | exact ⟨rfl, _, Eq.trans (World.drewN_drewN _ _ _) (congrArg (World.drewN _) (Nat.add_assoc _ _ _))⟩); have p206 : 0 ≤ (x4_3 : Int) := of_decide_eq_true (by first | (with_reducible assumption) | assumption); have q206 : x4_3 < (l0.length : Int) := of_decide_eq_true (by first | (with_reducible assumption) | assumption); obtain ⟨ad206, e206, hx206_0, hx206_1, hx206_2, hx206_3, hx206_4⟩ := at_T53 HR0.out x4_3 p206 q206; obtain rfl : ad204 = ad206 := (by injection e206); replace p206 := eq_true p206; replace q206 := eq_true q206) | (go_at_call 24; (with_reducible refine (estoversref19_in.calls ((rd_T53 l0 x4_3).f2) true _ A20.out).mono ?_); rintro e w' ⟨rfl, ⟨nd, rfl⟩⟩; (try first | exact ⟨rfl, _, World.drewN_drewN _ _ _⟩ | exact ⟨rfl, _, Eq.trans (World.drewN_drewN _ _ _) (congrArg (World.drewN _) (Nat.add_assoc _ _ _))⟩); have p208 : 0 ≤ (x4_3 : Int) := of_decide_eq_true (by first | (with_reducible assumption) | assumption); have q208 : x4_3 < (l0.length : Int) := of_decide_eq_true (by first | (with_reducible assumption) | assumption); obtain ⟨ad208, e208, hx208_0, hx208_1, hx208_2, hx208_3, hx208_4⟩ := at_T53 HR0.out x4_3 p208 q208; obtain rfl : ad204 = ad208 := (by injection e208); replace p208 := eq_true p208; replace q208 := eq_true q208) | (go_at_call 24; (with_reducible refine (estoversref19_in.calls ((rd_T53 l0 x4_3).f3) true _ A22.out).mono ?_); rintro e w' ⟨rfl, ⟨nd, rfl⟩⟩; (try first | exact ⟨rfl, _, World.drewN_drewN _ _ _⟩ | exact ⟨rfl, _, Eq.trans (World.drewN_drewN _ _ _) (congrArg (World.drewN _) (Nat.add_assoc _ _ _))⟩); have p210 : 0 ≤ (x4_3 : Int) := of_decide_eq_true (by first | (with_reducible assumption) | assumption); have q210 : x4_3 < (l0.length : Int) := of_decide_eq_true (by first | (with_reducible assumption) | assumption); obtain ⟨ad210, e210, hx210_0, hx210_1, hx210_2, hx210_3, hx210_4⟩ := at_T53 HR0.out x4_3 p210 q210; obtain rfl : ad204 = ad210 := (by injection e210); replace p210 := eq_true p210; replace q210 := eq_true q210) | (go_at_call 24; (with_reducible refine (estoversref19_in.calls ((rd_T53 l0 x4_3).f4) false _ A24.out).mono ?_); rintro e w' ⟨rfl, ⟨nd, rfl⟩⟩; (try first | exact ⟨rfl, _, World.drewN_drewN _ _ _⟩ | exact ⟨rfl, _, Eq.trans (World.drewN_drewN _ _ _) (congrArg (World.drewN _) (Nat.add_assoc _ _ _))⟩)))
               repeat (go_quiet (first | (go_at_call 24; (with_reducible refine (estoversref19_in.calls ((rd_T53 l0 x4_3).f1) true _ A18.out).mono ?_); rintro e w' ⟨rfl, ⟨nd, rfl⟩⟩; (try first | exact ⟨rfl, _, World.drewN_drewN _ _ _⟩ | exact ⟨rfl, _, Eq.trans (World.drewN_drewN _ _ _) (congrArg (World.drewN _) (Nat.add_assoc _ _ _))⟩); have p206 : 0 ≤ (x4_3 : Int) := of_decide_eq_true (by first | (with_reducible assumption) | assumption); have q206 : x4_3 < (l0.length : Int) := of_decide_eq_true (by first | (with_reducible assumption) | assumption); obtain ⟨ad206, e206, hx206_0, hx206_1, hx206_2, hx206_3, hx206_4⟩ := at_T53 HR0.out x4_3 p206 q206; obtain rfl : ad204 = ad206 := (by injection e206); replace p206 := eq_true p206; replace q206 := eq_true q206) | (go_at_call 24; (with_reducible refine (estoversref19_in.calls ((rd_T53 l0 x4_3).f2) true _ A20.out).mono ?_); rintro e w' ⟨rfl, ⟨nd, rfl⟩⟩; (try first | exact ⟨rfl, _, World.drewN_drewN _ _ _⟩ | exact ⟨rfl, _, Eq.trans (World.drewN_drewN _ _ _) (congrArg (World.drewN _) (Nat.add_assoc _ _ _))⟩); have p208 : 0 ≤ (x4_3 : Int) := of_decide_eq_true (by first | (with_reducible assumption) | assumption); have q208 : x4_3 < (l0.length : Int) := of_decide_eq_true (by first | (with_reducible assumption) | assumption); obtain ⟨ad208, e208, hx208_0, hx208_1, hx208_2, hx208_3, hx208_4⟩ := at_T53 HR0.out x4_3 p208 q208; obtain rfl : ad204 = ad208 := (by injection e208); replace p208 := eq_true p208; replace q208 := eq_true q208) | (go_at_call 24; (with_reducible refine (estoversref19_in.calls ((rd_T53 l0 x4_3).f3) true _ A22.out).mono ?_); rintro e w' ⟨rfl, ⟨nd, rfl⟩⟩; (try first | exact ⟨rfl, _, World.drewN_drewN _ _ _⟩ | exact ⟨rfl, _, Eq.trans (World.drewN_drewN _ _ _) (congrArg (World.drewN _) (Nat.add_assoc _ _ _))⟩); have p210 : 0 ≤ (x4_3 : Int) := of_decide_eq_true (by first | (with_reducible assumption) | assumption); have q210 : x4_3 < (l0.length : Int) := of_decide_eq_true (by first | (with_reducible assumption) | assumption); obtain ⟨ad210, e210, hx210_0, hx210_1, hx210_2, hx210_3, hx210_4⟩ := at_T53 HR0.out x4_3 p210 q210; obtain rfl : ad204 = ad210 := (by injection e210); replace p210 := eq_true p210; replace q210 := eq_true q210) | (go_at_call 24; (with_reducible refine (estoversref19_in.calls ((rd_T53 l0 x4_3).f4) false _ A24.out).mono ?_); rintro e w' ⟨rfl, ⟨nd, rfl⟩⟩; (try first | exact ⟨rfl, _, World.drewN_drewN _ _ _⟩ | exact ⟨rfl, _, Eq.trans (World.drewN_drewN _ _ _) (congrArg (World.drewN _) (Nat.add_assoc _ _ _))⟩))); try go_wp2_with (first | (go_at_call 24; (with_reducible refine (estoversref19_in.calls ((rd_T53 l0 x4_3).f1) true _ A18.out).mono ?_); rintro e w' ⟨rfl, ⟨nd, rfl⟩⟩; (try first | exact ⟨rfl, _, World.drewN_drewN _ _ _⟩ | exact ⟨rfl, _, Eq.trans (World.drewN_drewN _ _ _) (congrArg (World.drewN _) (Nat.add_assoc _ _ _))⟩); have p206 : 0 ≤ (x4_3 : Int) := of_decide_eq_true (by first | (with_reducible assumption) | assumption); have q206 : x4_3 < (l0.length : Int) := of_decide_eq_true (by first | (with_reducible assumption) | assumption); obtain ⟨ad206, e206, hx206_0, hx206_1, hx206_2, hx206_3, hx206_4⟩ := at_T53 HR0.out x4_3 p206 q206; obtain rfl : ad204 = ad206 := (by injection e206); replace p206 := eq_true p206; replace q206 := eq_true q206) | (go_at_call 24; (with_reducible refine (estoversref19_in.calls ((rd_T53 l0 x4_3).f2) true _ A20.out).mono ?_); rintro e w' ⟨rfl, ⟨nd, rfl⟩⟩; (try first | exact ⟨rfl, _, World.drewN_drewN _ _ _⟩ | exact ⟨rfl, _, Eq.trans (World.drewN_drewN _ _ _) (congrArg (World.drewN _) (Nat.add_assoc _ _ _))⟩); have p208 : 0 ≤ (x4_3 : Int) := of_decide_eq_true (by first | (with_reducible assumption) | assumption); have q208 : x4_3 < (l0.length : Int) := of_decide_eq_true (by first | (with_reducible assumption) | assumption); obtain ⟨ad208, e208, hx208_0, hx208_1, hx208_2, hx208_3, hx208_4⟩ := at_T53 HR0.out x4_3 p208 q208; obtain rfl : ad204 = ad208 := (by injection e208); replace p208 := eq_true p208; replace q208 := eq_true q208) | (go_at_call 24; (with_reducible refine (estoversref19_in.calls ((rd_T53 l0 x4_3).f3) true _ A22.out).mono ?_); rintro e w' ⟨rfl, ⟨nd, rfl⟩⟩; (try first | exact ⟨rfl, _, World.drewN_drewN _ _ _⟩ | exact ⟨rfl, _, Eq.trans (World.drewN_drewN _ _ _) (congrArg (World.drewN _) (Nat.add_assoc _ _ _))⟩); have p210 : 0 ≤ (x4_3 : Int) := of_decide_eq_true (by first | (with_reducible assumption) | assumption); have q210 : x4_3 < (l0.length : Int) := of_decide_eq_true (by first | (with_reducible assumption) | assumption); obtain ⟨ad210, e210, hx210_0, hx210_1, hx210_2, hx210_3, hx210_4⟩ := at_T53 HR0.out x4_3 p210 q210; obtain rfl : ad204 = ad210 := (by injection e210); replace p210 := eq_true p210; replace q210 := eq_true q210) | (go_at_call 24; (with_reducible refine (estoversref19_in.calls ((rd_T53 l0 x4_3).f4) false _ A24.out).mono ?_); rintro e w' ⟨rfl, ⟨nd, rfl⟩⟩; (try first | exact ⟨rfl, _, World.drewN_drewN _ _ _⟩ | exact ⟨rfl, _, Eq.trans (World.drewN_drewN _ _ _) (congrArg (World.drewN _) (Nat.add_assoc _ _ _))⟩))))
               go_ret
               exact ⟨by first | rfl | (simp; done) | (simp [*]; done), by repeat (first | exact Drawn0.refl _ | apply Drawn0.step)⟩
             ·replace c23 := Bool.eq_false_iff.mpr c23
              subst c23
              have H1 : (some 2) = some r := by rw [if_neg (show ¬ (false = true) by decide)] at H; exact H
              clear H
              have H := H1
              clear H1
              obtain rfl := Option.some.inj H
              have p204 : 0 ≤ (x4_3 : Int) := of_decide_eq_true (by first | (with_reducible assumption) | assumption)
              have q204 : x4_3 < (l0.length : Int) := of_decide_eq_true (by first | (with_reducible assumption) | assumption)
              obtain ⟨ad204, e204, hx204_0, hx204_1, hx204_2, hx204_3, hx204_4⟩ := at_T53 HR0.out x4_3 p204 q204
              cases e204
              replace p204 := eq_true p204
              replace q204 := eq_true q204
              go_wp2_with (first | (go_at_call 24; (with_reducible refine (estoversref19_in.calls ((rd_T53 l0 x4_3).f1) true _ A18.out).mono ?_); rintro e w' ⟨rfl, ⟨nd, rfl⟩⟩; (try first | exact ⟨rfl, _, World.drewN_drewN _ _ _⟩ | exact ⟨rfl, _, Eq.trans (World.drewN_drewN _ _ _) (congrArg (World.drewN _) (Nat.add_assoc _ _ _))⟩); have p206 : 0 ≤ (x4_3 : Int) := of_decide_eq_true (by first | (with_reducible assumption) | assumption); have q206 : x4_3 < (l0.length : Int) := of_decide_eq_true (by first | (with_reducible assumption) | assumption); obtain ⟨ad206, e206, hx206_0, hx206_1, hx206_2, hx206_3, hx206_4⟩ := at_T53 HR0.out x4_3 p206 q206; obtain rfl : ad204 = ad206 := (by injection e206); replace p206 := eq_true p206; replace q206 := eq_true q206) | (go_at_call 24; (with_reducible refine (estoversref19_in.calls ((rd_T53 l0 x4_3).f2) true _ A20.out).mono ?_); rintro e w' ⟨rfl, ⟨nd, rfl⟩⟩; (try first | exact ⟨rfl, _, World.drewN_drewN _ _ _⟩ | exact ⟨rfl, _, Eq.trans (World.drewN_drewN _ _ _) (congrArg (World.drewN _) (Nat.add_assoc _ _ _))⟩); have p208 : 0 ≤ (x4_3 : Int) := of_decide_eq_true (by first | (with_reducible assumption) | assumption); have q208 : x4_3 < (l0.length : Int) := of_decide_eq_true (by first | (with_reducible assumption) | assumption); obtain ⟨ad208, e208, hx208_0, hx208_1, hx208_2, hx208_3, hx208_4⟩ := at_T53 HR0.out x4_3 p208 q208; obtain rfl : ad204 = ad208 := (by injection e208); replace p208 := eq_true p208; replace q208 := eq_true q208) | (go_at_call 24; (with_reducible refine (estoversref19_in.calls ((rd_T53 l0 x4_3).f3) false _ A22.out).mono ?_); rintro e w' ⟨rfl, ⟨nd, rfl⟩⟩; (try first | exact ⟨rfl, _, World.drewN_drewN _ _ _⟩ | exact ⟨rfl, _, Eq.trans (World.drewN_drewN _ _ _) (congrArg (World.drewN _) (Nat.add_assoc _ _ _))⟩)))
              repeat (go_quiet (first | (go_at_call 24; (with_reducible refine (estoversref19_in.calls ((rd_T53 l0 x4_3).f1) true _ A18.out).mono ?_); rintro e w' ⟨rfl, ⟨nd, rfl⟩⟩; (try first | exact ⟨rfl, _, World.drewN_drewN _ _ _⟩ | exact ⟨rfl, _, Eq.trans (World.drewN_drewN _ _ _) (congrArg (World.drewN _) (Nat.add_assoc _ _ _))⟩); have p206 : 0 ≤ (x4_3 : Int) := of_decide_eq_true (by first | (with_reducible assumption) | assumption); have q206 : x4_3 < (l0.length : Int) := of_decide_eq_true (by first | (with_reducible assumption) | assumption); obtain ⟨ad206, e206, hx206_0, hx206_1, hx206_2, hx206_3, hx206_4⟩ := at_T53 HR0.out x4_3 p206 q206; obtain rfl : ad204 = ad206 := (by injection e206); replace p206 := eq_true p206; replace q206 := eq_true q206) | (go_at_call 24; (with_reducible refine (estoversref19_in.calls ((rd_T53 l0 x4_3).f2) true _ A20.out).mono ?_); rintro e w' ⟨rfl, ⟨nd, rfl⟩⟩; (try first | exact ⟨rfl, _, World.drewN_drewN _ _ _⟩ | exact ⟨rfl, _, Eq.trans (World.drewN_drewN _ _ _) (congrArg (World.drewN _) (Nat.add_assoc _ _ _))⟩); have p208 : 0 ≤ (x4_3 : Int) := of_decide_eq_true (by first | (with_reducible assumption) | assumption); have q208 : x4_3 < (l0.length : Int) := of_decide_eq_true (by first | (with_reducible assumption) | assumption); obtain ⟨ad208, e208, hx208_0, hx208_1, hx208_2, hx208_3, hx208_4⟩ := at_T53 HR0.out x4_3 p208 q208; obtain rfl : ad204 = ad208 := (by injection e208); replace p208 := eq_true p208; replace q208 := eq_true q208) | (go_at_call 24; (with_reducible refine (estoversref19_in.calls ((rd_T53 l0 x4_3).f3) false _ A22.out).mono ?_); rintro e w' ⟨rfl, ⟨nd, rfl⟩⟩; (try first | exact ⟨rfl, _, World.drewN_drewN _ _ _⟩ | exact ⟨rfl, _, Eq.trans (World.drewN_drewN _ _ _) (congrArg (World.drewN _) (Nat.add_assoc _ _ _))⟩))); try go_wp2_with (first | (go_at_call 24; (with_reducible refine (estoversref19_in.calls ((rd_T53 l0 x4_3).f1) true _ A18.out).mono ?_); rintro e w' ⟨rfl, ⟨nd, rfl⟩⟩; (try first | exact ⟨rfl, _, World.drewN_drewN _ _ _⟩ | exact ⟨rfl, _, Eq.trans (World.drewN_drewN _ _ _) (congrArg (World.drewN _) (Nat.add_assoc _ _ _))⟩); have p206 : 0 ≤ (x4_3 : Int) := of_decide_eq_true (by first | (with_reducible assumption) | assumption); have q206 : x4_3 < (l0.length : Int) := of_decide_eq_true (by first | (with_reducible assumption) | assumption); obtain ⟨ad206, e206, hx206_0, hx206_1, hx206_2, hx206_3, hx206_4⟩ := at_T53 HR0.out x4_3 p206 q206; obtain rfl : ad204 = ad206 := (by injection e206); replace p206 := eq_true p206; replace q206 := eq_true q206) | (go_at_call 24; (with_reducible refine (estoversref19_in.calls ((rd_T53 l0 x4_3).f2) true _ A20.out).mono ?_); rintro e w' ⟨rfl, ⟨nd, rfl⟩⟩; (try first | exact ⟨rfl, _, World.drewN_drewN _ _ _⟩ | exact ⟨rfl, _, Eq.trans (World.drewN_drewN _ _ _) (congrArg (World.drewN _) (Nat.add_assoc _ _ _))⟩); have p208 : 0 ≤ (x4_3 : Int) := of_decide_eq_true (by first | (with_reducible assumption) | assumption); have q208 : x4_3 < (l0.length : Int) := of_decide_eq_true (by first | (with_reducible assumption) | assumption); obtain ⟨ad208, e208, hx208_0, hx208_1, hx208_2, hx208_3, hx208_4⟩ := at_T53 HR0.out x4_3 p208 q208; obtain rfl : ad204 = ad208 := (by injection e208); replace p208 := eq_true p208; replace q208 := eq_true q208) | (go_at_call 24; (with_reducible refine (estoversref19_in.calls ((rd_T53 l0 x4_3).f3) false _ A22.out).mono ?_); rintro e w' ⟨rfl, ⟨nd, rfl⟩⟩; (try first | exact ⟨rfl, _, World.drewN_drewN _ _ _⟩ | exact ⟨rfl, _, Eq.trans (World.drewN_drewN _ _ _) (congrArg (World.drewN _) (Nat.add_assoc _ _ _))⟩))))
              go_ret
              exact ⟨by first | rfl | (simp; done) | (simp [*]; done), by repeat (first | exact Drawn0.refl _ | apply Drawn0.step)⟩
            ·replace c21 := Bool.eq_false_iff.mpr c21
             subst c21
             have H1 : (some 2) = some r := by rw [if_neg (show ¬ (false = true) by decide)] at H; exact H
             clear H
             have H := H1
             clear H1
             obtain rfl := Option.some.inj H
             have p204 : 0 ≤ (x4_3 : Int) := of_decide_eq_true (by first | (with_reducible assumption) | assumption)
             have q204 : x4_3 < (l0.length : Int) := of_decide_eq_true (by first | (with_reducible assumption) | assumption)
             obtain ⟨ad204, e204, hx204_0, hx204_1, hx204_2, hx204_3, hx204_4⟩ := at_T53 HR0.out x4_3 p204 q204
             cases e204
             replace p204 := eq_true p204
             replace q204 := eq_true q204
             go_wp2_with (first | (go_at_call 24; (with_reducible refine (estoversref19_in.calls ((rd_T53 l0 x4_3).f1) true _ A18.out).mono ?_); rintro e w' ⟨rfl, ⟨nd, rfl⟩⟩; (try first | exact ⟨rfl, _, World.drewN_drewN _ _ _⟩ | exact ⟨rfl, _, Eq.trans (World.drewN_drewN _ _ _) (congrArg (World.drewN _) (Nat.add_assoc _ _ _))⟩); have p206 : 0 ≤ (x4_3 : Int) := of_decide_eq_true (by first | (with_reducible assumption) | assumption); have q206 : x4_3 < (l0.length : Int) := of_decide_eq_true (by first | (with_reducible assumption) | assumption); obtain ⟨ad206, e206, hx206_0, hx206_1, hx206_2, hx206_3, hx206_4⟩ := at_T53 HR0.out x4_3 p206 q206; obtain rfl : ad204 = ad206 := (by injection e206); replace p206 := eq_true p206; replace q206 := eq_true q206) | (go_at_call 24; (with_reducible refine (estoversref19_in.calls ((rd_T53 l0 x4_3).f2) false _ A20.out).mono ?_); rintro e w' ⟨rfl, ⟨nd, rfl⟩⟩; (try first | exact ⟨rfl, _, World.drewN_drewN _ _ _⟩ | exact ⟨rfl, _, Eq.trans (World.drewN_drewN _ _ _) (congrArg (World.drewN _) (Nat.add_assoc _ _ _))⟩)))
             repeat (go_quiet (first | (go_at_call 24; (with_reducible refine (estoversref19_in.calls ((rd_T53 l0 x4_3).f1) true _ A18.out).mono ?_); rintro e w' ⟨rfl, ⟨nd, rfl⟩⟩; (try first | exact ⟨rfl, _, World.drewN_drewN _ _ _⟩ | exact ⟨rfl, _, Eq.trans (World.drewN_drewN _ _ _) (congrArg (World.drewN _) (Nat.add_assoc _ _ _))⟩); have p206 : 0 ≤ (x4_3 : Int) := of_decide_eq_true (by first | (with_reducible assumption) | assumption); have q206 : x4_3 < (l0.length : Int) := of_decide_eq_true (by first | (with_reducible assumption) | assumption); obtain ⟨ad206, e206, hx206_0, hx206_1, hx206_2, hx206_3, hx206_4⟩ := at_T53 HR0.out x4_3 p206 q206; obtain rfl : ad204 = ad206 := (by injection e206); replace p206 := eq_true p206; replace q206 := eq_true q206) | (go_at_call 24; (with_reducible refine (estoversref19_in.calls ((rd_T53 l0 x4_3).f2) false _ A20.out).mono ?_); rintro e w' ⟨rfl, ⟨nd, rfl⟩⟩; (try first | exact ⟨rfl, _, World.drewN_drewN _ _ _⟩ | exact ⟨rfl, _, Eq.trans (World.drewN_drewN _ _ _) (congrArg (World.drewN _) (Nat.add_assoc _ _ _))⟩))); try go_wp2_with (first | (go_at_call 24; (with_reducible refine (estoversref19_in.calls ((rd_T53 l0 x4_3).f1) true _ A18.out).mono ?_); rintro e w' ⟨rfl, ⟨nd, rfl⟩⟩; (try first | exact ⟨rfl, _, World.drewN_drewN _ _ _⟩ | exact ⟨rfl, _, Eq.trans (World.drewN_drewN _ _ _) (congrArg (World.drewN _) (Nat.add_assoc _ _ _))⟩); have p206 : 0 ≤ (x4_3 : Int) := of_decide_eq_true (by first | (with_reducible assumption) | assumption); have q206 : x4_3 < (l0.length : Int) := of_decide_eq_true (by first | (with_reducible assumption) | assumption); obtain ⟨ad206, e206, hx206_0, hx206_1, hx206_2, hx206_3, hx206_4⟩ := at_T53 HR0.out x4_3 p206 q206; obtain rfl : ad204 = ad206 := (by injection e206); replace p206 := eq_true p206; replace q206 := eq_true q206) | (go_at_call 24; (with_reducible refine (estoversref19_in.calls ((rd_T53 l0 x4_3).f2) false _ A20.out).mono ?_); rintro e w' ⟨rfl, ⟨nd, rfl⟩⟩; (try first | exact ⟨rfl, _, World.drewN_drewN _ _ _⟩ | exact ⟨rfl, _, Eq.trans (World.drewN_drewN _ _ _) (congrArg (World.drewN _) (Nat.add_assoc _ _ _))⟩))))
             go_ret
             exact ⟨by first | rfl | (simp; done) | (simp [*]; done), by repeat (first | exact Drawn0.refl _ | apply Drawn0.step)⟩
           ·replace c19 := Bool.eq_false_iff.mpr c19
            subst c19
            have H1 : (some 2) = some r := by rw [if_neg (show ¬ (false = true) by decide)] at H; exact H
            clear H
            have H := H1
            clear H1
            obtain rfl := Option.some.inj H
            have p204 : 0 ≤ (x4_3 : Int) := of_decide_eq_true (by first | (with_reducible assumption) | assumption)
            have q204 : x4_3 < (l0.length : Int) := of_decide_eq_true (by first | (with_reducible assumption) | assumption)
            obtain ⟨ad204, e204, hx204_0, hx204_1, hx204_2, hx204_3, hx204_4⟩ := at_T53 HR0.out x4_3 p204 q204
            cases e204
            replace p204 := eq_true p204
            replace q204 := eq_true q204
            go_wp2_with (first | (go_at_call 24; (with_reducible refine (estoversref19_in.calls ((rd_T53 l0 x4_3).f1) false _ A18.out).mono ?_); rintro e w' ⟨rfl, ⟨nd, rfl⟩⟩; (try first | exact ⟨rfl, _, World.drewN_drewN _ _ _⟩ | exact ⟨rfl, _, Eq.trans (World.drewN_drewN _ _ _) (congrArg (World.drewN _) (Nat.add_assoc _ _ _))⟩)))
            repeat (go_quiet (first | (go_at_call 24; (with_reducible refine (estoversref19_in.calls ((rd_T53 l0 x4_3).f1) false _ A18.out).mono ?_); rintro e w' ⟨rfl, ⟨nd, rfl⟩⟩; (try first | exact ⟨rfl, _, World.drewN_drewN _ _ _⟩ | exact ⟨rfl, _, Eq.trans (World.drewN_drewN _ _ _) (congrArg (World.drewN _) (Nat.add_assoc _ _ _))⟩))); try go_wp2_with (first | (go_at_call 24; (with_reducible refine (estoversref19_in.calls ((rd_T53 l0 x4_3).f1) false _ A18.out).mono ?_); rintro e w' ⟨rfl, ⟨nd, rfl⟩⟩; (try first | exact ⟨rfl, _, World.drewN_drewN _ _ _⟩ | exact ⟨rfl, _, Eq.trans (World.drewN_drewN _ _ _) (congrArg (World.drewN _) (Nat.add_assoc _ _ _))⟩))))
            go_ret
            exact ⟨by first | rfl | (simp; done) | (simp [*]; done), by repeat (first | exact Drawn0.refl _ | apply Drawn0.step)⟩
          ·rw [if_neg c17] at H
           exact absurd H (by simp)
         ·rw [if_neg c16] at H
          have c16b0 : decide (x4_3 < (l0.length : Int)) = false := decide_eq_false c16
          clear c16
          have HC26 := Aside0.mk H
          clear H
          go_upto_region 13 with (fail)
          repeat (go_quiet (fail); go_upto_region 13 with (fail))
          go_cut [103] (fun v103 wc => ∃ (kq : Nat) (x103_25 : Bool), v103 = .bool x103_25 ∧ Aside0 (estoversref19_Check.j3 kq l0 x103_25 = some r) ∧ Aside0 (kq ≤ k3) ∧ Drawn0 w wc)
          case first =>
           have H := HC26.out
           clear HC26
           by_cases c27 : 0 < (l0.length : Int)
           ·rw [if_pos c27] at H
            have c27b0 : decide (0 < (l0.length : Int)) = true := decide_eq_true c27
            have c27b1 : decide (0 < l0.length) = true := decide_eq_true (by omega)
            clear c27
            (first | rw [c27b0] | (simp only [i64_w, i32_w]; rw [c27b0]) | skip)
            by_cases c28 : ((rd_T53 l0 0).f2) = 0
            ·rw [if_pos c28] at H
             have c28b0 : (((rd_T53 l0 0).f2) == 0) = true := beq_iff_eq.mpr c28
             have c28b1 : (((rd_T53 l0 0).f2) != 0) = false := bne_eq_false_iff_eq.mpr c28
             clear c28
             have H' := Aside0.mk H
             clear H
             have p212 : 0 ≤ (0 : Int) := (by omega)
             have q212 : 0 < (l0.length : Int) := of_decide_eq_true (by first | (with_reducible assumption) | assumption)
             obtain ⟨ad212, e212, hx212_0, hx212_1, hx212_2, hx212_3, hx212_4⟩ := at_T53 HR0.out 0 p212 q212
             cases e212
             have qi212 : (0 < l0.length) = True := eq_true (by omega)
             (try rw [show ((0 : Int)).toNat = 0 from rfl] at hx212_0)
             (try rw [show 0 * 5 = 0 from rfl] at hx212_0)
             (try rw [Addr.add_zero'] at hx212_0)
             (try rw [show ((0 : Int)).toNat = 0 from rfl] at hx212_1)
             (try rw [show 0 * 5 = 0 from rfl] at hx212_1)
             (try rw [Addr.add_zero'] at hx212_1)
             (try rw [show ((0 : Int)).toNat = 0 from rfl] at hx212_2)
             (try rw [show 0 * 5 = 0 from rfl] at hx212_2)
             (try rw [Addr.add_zero'] at hx212_2)
             (try rw [show ((0 : Int)).toNat = 0 from rfl] at hx212_3)
             (try rw [show 0 * 5 = 0 from rfl] at hx212_3)
             (try rw [Addr.add_zero'] at hx212_3)
             (try rw [show ((0 : Int)).toNat = 0 from rfl] at hx212_4)
             (try rw [show 0 * 5 = 0 from rfl] at hx212_4)
             (try rw [Addr.add_zero'] at hx212_4)
             replace p212 := eq_true p212
             replace q212 := eq_true q212
             have p213 : 0 ≤ (0 : Int) := (by omega)
             have q213 : 0 < (l0.length : Int) := of_decide_eq_true (by first | (with_reducible assumption) | assumption)
             obtain ⟨ad213, e213, hx213_0, hx213_1, hx213_2, hx213_3, hx213_4⟩ := at_T53 HR0.out 0 p213 q213
             obtain rfl : ad212 = ad213 := (by injection e213)
             have qi213 : (0 < l0.length) = True := eq_true (by omega)
             (try rw [show ((0 : Int)).toNat = 0 from rfl] at hx213_0)
             (try rw [show 0 * 5 = 0 from rfl] at hx213_0)
             (try rw [Addr.add_zero'] at hx213_0)
             (try rw [show ((0 : Int)).toNat = 0 from rfl] at hx213_1)
             (try rw [show 0 * 5 = 0 from rfl] at hx213_1)
             (try rw [Addr.add_zero'] at hx213_1)
             (try rw [show ((0 : Int)).toNat = 0 from rfl] at hx213_2)
             (try rw [show 0 * 5 = 0 from rfl] at hx213_2)
             (try rw [Addr.add_zero'] at hx213_2)
             (try rw [show ((0 : Int)).toNat = 0 from rfl] at hx213_3)
             (try rw [show 0 * 5 = 0 from rfl] at hx213_3)
             (try rw [Addr.add_zero'] at hx213_3)
             (try rw [show ((0 : Int)).toNat = 0 from rfl] at hx213_4)
             (try rw [show 0 * 5 = 0 from rfl] at hx213_4)
             (try rw [Addr.add_zero'] at hx213_4)
             replace p213 := eq_true p213
             replace q213 := eq_true q213
             go_wp2
             repeat (go_quiet (fail); try go_wp2)
             go_meet
             case rel => exact ⟨_, ((((rd_T53 l0 0).f3) != 0)), (by first | rfl | (simp; done) | (simp [*]; done)), H', ⟨by have := HJ1.out; have := HK2.out; have := HK3.out; first | omega | exact Nat.le_refl _⟩, by repeat (first | exact Drawn0.refl _ | apply Drawn0.step)⟩
            ·rw [if_neg c28] at H
             have c28b0 : (((rd_T53 l0 0).f2) == 0) = false := beq_eq_false_iff_ne.mpr c28
             have c28b1 : (((rd_T53 l0 0).f2) != 0) = true := bne_iff_ne.mpr c28
             have H' := Aside0.mk H
             clear H
             have p212 : 0 ≤ (0 : Int) := (by omega)
             have q212 : 0 < (l0.length : Int) := of_decide_eq_true (by first | (with_reducible assumption) | assumption)
             obtain ⟨ad212, e212, hx212_0, hx212_1, hx212_2, hx212_3, hx212_4⟩ := at_T53 HR0.out 0 p212 q212
             cases e212
             have qi212 : (0 < l0.length) = True := eq_true (by omega)
             (try rw [show ((0 : Int)).toNat = 0 from rfl] at hx212_0)
             (try rw [show 0 * 5 = 0 from rfl] at hx212_0)
             (try rw [Addr.add_zero'] at hx212_0)
             (try rw [show ((0 : Int)).toNat = 0 from rfl] at hx212_1)
             (try rw [show 0 * 5 = 0 from rfl] at hx212_1)
             (try rw [Addr.add_zero'] at hx212_1)
             (try rw [show ((0 : Int)).toNat = 0 from rfl] at hx212_2)
             (try rw [show 0 * 5 = 0 from rfl] at hx212_2)
             (try rw [Addr.add_zero'] at hx212_2)
             (try rw [show ((0 : Int)).toNat = 0 from rfl] at hx212_3)
             (try rw [show 0 * 5 = 0 from rfl] at hx212_3)
             (try rw [Addr.add_zero'] at hx212_3)
             (try rw [show ((0 : Int)).toNat = 0 from rfl] at hx212_4)
             (try rw [show 0 * 5 = 0 from rfl] at hx212_4)
             (try rw [Addr.add_zero'] at hx212_4)
             replace p212 := eq_true p212
             replace q212 := eq_true q212
             go_wp2
             repeat (go_quiet (fail); try go_wp2)
             go_meet
             case rel => exact ⟨_, (true), (by first | rfl | (simp; done) | (simp [*]; done)), H', ⟨by have := HJ1.out; have := HK2.out; have := HK3.out; first | omega | exact Nat.le_refl _⟩, by repeat (first | exact Drawn0.refl _ | apply Drawn0.step)⟩
           ·rw [if_neg c27] at H
            exact absurd H (by simp)
          case rest =>
           clear HC26
           try clear c1
           try clear p1
           try clear q1
           try clear hx1
           try clear c2
           try clear p2
           try clear q2
           try clear hx2
           try clear qi2
           try clear c3
           try clear c3b0
           try clear c3b1
           try clear c4
           try clear c5
           try clear c5b0
           try clear c6
           try clear c6b0
           try clear c6b1
           try clear p6
           try clear c7
           try clear c7b0
           try clear c8
           try clear c8b0
           try clear c8b1
           try clear c9
           try clear c9b0
           try clear c10
           try clear c10b0
           try clear c11
           try clear c11b0
           try clear c12
           try clear c12b0
           try clear c13
           try clear c13b0
           try clear c14
           try clear c14b0
           try clear c15
           try clear c15b0
           try clear c16
           try clear c16b0
           try clear c17
           try clear c17b0
           try clear c19
           try clear p19
           try clear q19
           try clear hx19
           try clear p20
           try clear q20
           try clear hx20
           try clear c21
           try clear p21
           try clear q21
           try clear hx21
           try clear qi21
           try clear c23
           try clear c25
           try clear c27
           try clear c27b0
           try clear c27b1
           try clear c28
           try clear c28b0
           try clear c28b1
           try clear hx199_0
           try clear hx199_1
           try clear hx199_2
           try clear hx199_3
           try clear hx199_4
           try clear hx200_0
           try clear hx200_1
           try clear hx200_2
           try clear hx200_3
           try clear hx200_4
           try clear hx201_0
           try clear hx201_1
           try clear hx201_2
           try clear hx201_3
           try clear hx201_4
           try clear hx202_0
           try clear hx202_1
           try clear hx202_2
           try clear hx202_3
           try clear hx202_4
           try clear hx203_0
           try clear hx203_1
           try clear hx203_2
           try clear hx203_3
           try clear hx203_4
           try clear hx204_0
           try clear hx204_1
           try clear hx204_2
           try clear hx204_3
           try clear hx204_4
           try clear hx206_0
           try clear hx206_1
           try clear hx206_2
           try clear hx206_3
           try clear hx206_4
           try clear hx208_0
           try clear hx208_1
           try clear hx208_2
           try clear hx208_3
           try clear hx208_4
           try clear hx210_0
           try clear hx210_1
           try clear hx210_2
           try clear hx210_3
           try clear hx210_4
           try clear hx212_0
           try clear hx212_1
           try clear hx212_2
           try clear hx212_3
           try clear hx212_4
           try clear hx213_0
           try clear hx213_1
           try clear hx213_2
           try clear hx213_3
           try clear hx213_4
           try clear p1
           try clear p199
           try clear p2
           try clear p200
           try clear p201
           try clear p202
           try clear p203
           try clear p204
           try clear p206
           try clear p208
           try clear p210
           try clear p212
           try clear p213
           try clear p6
           try clear q1
           try clear q199
           try clear q2
           try clear q200
           try clear q201
           try clear q202
           try clear q203
           try clear q204
           try clear q206
           try clear q208
           try clear q210
           try clear q212
           try clear q213
           obtain ⟨kq, x103_25, rfl, HA, HJ25, ⟨mc25, rfl⟩⟩ := hcut
           cases kq with
           | zero => exact absurd HA.out (by simp [estoversref19_Check.j3])
           | succ kj25 =>
            have H := HA.out
            clear HA
            simp only [estoversref19_Check.j3] at H
            by_cases c29 : x103_25 = true
            ·subst c29
             have H1 : (some 2) = some r := by rw [if_pos rfl] at H; exact H
             clear H
             have H := H1
             clear H1
             obtain rfl := Option.some.inj H
             go_wp2
             repeat (go_quiet (fail); try go_wp2)
             go_ret
             exact ⟨by first | rfl | (simp; done) | (simp [*]; done), by repeat (first | exact Drawn0.refl _ | apply Drawn0.step)⟩
            ·replace c29 := Bool.eq_false_iff.mpr c29
             subst c29
             have H1 : (estoversref19_Check.l2 kj25 l0 0) = some r := by rw [if_neg (show ¬ (false = true) by decide)] at H; exact H
             clear H
             have H := H1
             clear H1
             have H' := Aside0.mk H
             clear H
             go_wp2
             repeat (go_quiet (fail); try go_wp2)
             go_loopg [5] kj25 (fun kq v5 w' => ∃ (x5_5 : Int), v5 = .int .i64 x5_5 ∧ Aside0 (estoversref19_Check.l2 kq l0 x5_5 = some r) ∧ Aside0 (kq ≤ kj25) ∧ Drawn0 w w')
             case atStart => exact ⟨(0), (by first | rfl | (simp; done) | (simp [*]; done)), H', ⟨Nat.le_refl _⟩, by repeat (first | exact Drawn0.refl _ | apply Drawn0.step)⟩
             case round =>
              clear H'
              try clear c1
              try clear p1
              try clear q1
              try clear hx1
              try clear c2
              try clear p2
              try clear q2
              try clear hx2
              try clear qi2
              try clear c3
              try clear c3b0
              try clear c3b1
              try clear c4
              try clear c5
              try clear c5b0
              try clear c6
              try clear c6b0
              try clear c6b1
              try clear p6
              try clear c7
              try clear c7b0
              try clear c8
              try clear c8b0
              try clear c8b1
              try clear c9
              try clear c9b0
              try clear c10
              try clear c10b0
              try clear c11
              try clear c11b0
              try clear c12
              try clear c12b0
              try clear c13
              try clear c13b0
              try clear c14
              try clear c14b0
              try clear c15
              try clear c15b0
              try clear c16
              try clear c16b0
              try clear c17
              try clear c17b0
              try clear c19
              try clear p19
              try clear q19
              try clear hx19
              try clear p20
              try clear q20
              try clear hx20
              try clear c21
              try clear p21
              try clear q21
              try clear hx21
              try clear qi21
              try clear c23
              try clear c25
              try clear c27
              try clear c27b0
              try clear c27b1
              try clear c28
              try clear c28b0
              try clear c28b1
              try clear c29
              try clear hx199_0
              try clear hx199_1
              try clear hx199_2
              try clear hx199_3
              try clear hx199_4
              try clear hx200_0
              try clear hx200_1
              try clear hx200_2
              try clear hx200_3
              try clear hx200_4
              try clear hx201_0
              try clear hx201_1
              try clear hx201_2
              try clear hx201_3
              try clear hx201_4
              try clear hx202_0
              try clear hx202_1
              try clear hx202_2
              try clear hx202_3
              try clear hx202_4
              try clear hx203_0
              try clear hx203_1
              try clear hx203_2
              try clear hx203_3
              try clear hx203_4
              try clear hx204_0
              try clear hx204_1
              try clear hx204_2
              try clear hx204_3
              try clear hx204_4
              try clear hx206_0
              try clear hx206_1
              try clear hx206_2
              try clear hx206_3
              try clear hx206_4
              try clear hx208_0
              try clear hx208_1
              try clear hx208_2
              try clear hx208_3
              try clear hx208_4
              try clear hx210_0
              try clear hx210_1
              try clear hx210_2
              try clear hx210_3
              try clear hx210_4
              try clear hx212_0
              try clear hx212_1
              try clear hx212_2
              try clear hx212_3
              try clear hx212_4
              try clear hx213_0
              try clear hx213_1
              try clear hx213_2
              try clear hx213_3
              try clear hx213_4
              try clear p1
              try clear p19
              try clear p199
              try clear p2
              try clear p20
              try clear p200
              try clear p201
              try clear p202
              try clear p203
              try clear p204
              try clear p206
              try clear p208
              try clear p21
              try clear p210
              try clear p212
              try clear p213
              try clear p6
              try clear q1
              try clear q19
              try clear q199
              try clear q2
              try clear q20
              try clear q200
              try clear q201
              try clear q202
              try clear q203
              try clear q204
              try clear q206
              try clear q208
              try clear q21
              try clear q210
              try clear q212
              try clear q213
              obtain ⟨x5_5, rfl, HA, HK5, ⟨m5, rfl⟩⟩ := hrel
              cases gk with
              | zero => exact absurd HA.out (by simp [estoversref19_Check.l2])
              | succ k5 =>
               have H := HA.out
               clear HA
               simp only [estoversref19_Check.l2] at H
               by_cases c30 : x5_5 < (l0.length : Int)
               ·rw [if_pos c30] at H
                have c30b0 : decide (x5_5 < (l0.length : Int)) = true := decide_eq_true c30
                clear c30
                by_cases c31 : 0 ≤ x5_5
                ·rw [if_pos c31] at H
                 have c31b0 : decide (0 ≤ x5_5) = true := decide_eq_true c31
                 clear c31
                 by_cases c32 : ((rd_T53 l0 x5_5).f1) > ((rd_T53 l0 x5_5).f4)
                 ·rw [if_pos c32] at H
                  have c32b0 : decide (((rd_T53 l0 x5_5).f4) < ((rd_T53 l0 x5_5).f1)) = true := decide_eq_true c32
                  clear c32
                  obtain rfl := Option.some.inj H
                  have p214 : 0 ≤ (x5_5 : Int) := of_decide_eq_true (by first | (with_reducible assumption) | assumption)
                  have q214 : x5_5 < (l0.length : Int) := of_decide_eq_true (by first | (with_reducible assumption) | assumption)
                  obtain ⟨ad214, e214, hx214_0, hx214_1, hx214_2, hx214_3, hx214_4⟩ := at_T53 HR0.out x5_5 p214 q214
                  cases e214
                  replace p214 := eq_true p214
                  replace q214 := eq_true q214
                  have p215 : 0 ≤ (x5_5 : Int) := of_decide_eq_true (by first | (with_reducible assumption) | assumption)
                  have q215 : x5_5 < (l0.length : Int) := of_decide_eq_true (by first | (with_reducible assumption) | assumption)
                  obtain ⟨ad215, e215, hx215_0, hx215_1, hx215_2, hx215_3, hx215_4⟩ := at_T53 HR0.out x5_5 p215 q215
                  obtain rfl : ad214 = ad215 := (by injection e215)
                  replace p215 := eq_true p215
                  replace q215 := eq_true q215
                  go_wp2
                  repeat (go_quiet (fail); try go_wp2)
                  go_ret
                  exact ⟨by first | rfl | (simp; done) | (simp [*]; done), by repeat (first | exact Drawn0.refl _ | apply Drawn0.step)⟩
                 ·rw [if_neg c32] at H
                  have c32b0 : decide (((rd_T53 l0 x5_5).f4) < ((rd_T53 l0 x5_5).f1)) = false := decide_eq_false c32
                  clear c32
                  have H' := Aside0.mk H
                  clear H
                  have p214 : 0 ≤ (x5_5 : Int) := of_decide_eq_true (by first | (with_reducible assumption) | assumption)
                  have q214 : x5_5 < (l0.length : Int) := of_decide_eq_true (by first | (with_reducible assumption) | assumption)
                  obtain ⟨ad214, e214, hx214_0, hx214_1, hx214_2, hx214_3, hx214_4⟩ := at_T53 HR0.out x5_5 p214 q214
                  cases e214
                  replace p214 := eq_true p214
                  replace q214 := eq_true q214
                  have p215 : 0 ≤ (x5_5 : Int) := of_decide_eq_true (by first | (with_reducible assumption) | assumption)
                  have q215 : x5_5 < (l0.length : Int) := of_decide_eq_true (by first | (with_reducible assumption) | assumption)
                  obtain ⟨ad215, e215, hx215_0, hx215_1, hx215_2, hx215_3, hx215_4⟩ := at_T53 HR0.out x5_5 p215 q215
                  obtain rfl : ad214 = ad215 := (by injection e215)
                  replace p215 := eq_true p215
                  replace q215 := eq_true q215
                  go_wp2
                  repeat (go_quiet (fail); try go_wp2)
                  go_roundg k5
                  case measure => have := HJ1.out; have := HK2.out; have := HK3.out; have := HJ25.out; have := HK5.out; omega
                  case rel => exact ⟨(wrap64 (x5_5 + 1)), (by first | rfl | (simp; done) | (simp [*]; done)), H', ⟨by have := HJ1.out; have := HK2.out; have := HK3.out; have := HJ25.out; have := HK5.out; omega⟩, by repeat (first | exact Drawn0.refl _ | apply Drawn0.step)⟩
                ·rw [if_neg c31] at H
                 exact absurd H (by simp)
               ·rw [if_neg c30] at H
                have c30b0 : decide (x5_5 < (l0.length : Int)) = false := decide_eq_false c30
                clear c30
                have H' := Aside0.mk H
                clear H
                go_wp2
                repeat (go_quiet (fail); try go_wp2)
                go_loopg [6] k5 (fun kq v6 w' => ∃ (x6_6 : Int), v6 = .int .i64 x6_6 ∧ Aside0 (estoversref19_Check.l3 kq l0 x6_6 = some r) ∧ Aside0 (kq ≤ k5) ∧ Drawn0 w w')
                case atStart => exact ⟨(0), (by first | rfl | (simp; done) | (simp [*]; done)), H', ⟨Nat.le_refl _⟩, by repeat (first | exact Drawn0.refl _ | apply Drawn0.step)⟩
                case round =>
                 clear H'
                 try clear c1
                 try clear p1
                 try clear q1
                 try clear hx1
                 try clear c2
                 try clear p2
                 try clear q2
                 try clear hx2
                 try clear qi2
                 try clear c3
                 try clear c3b0
                 try clear c3b1
                 try clear c4
                 try clear c5
                 try clear c5b0
                 try clear c6
                 try clear c6b0
                 try clear c6b1
                 try clear p6
                 try clear c7
                 try clear c7b0
                 try clear c8
                 try clear c8b0
                 try clear c8b1
                 try clear c9
                 try clear c9b0
                 try clear c10
                 try clear c10b0
                 try clear c11
                 try clear c11b0
                 try clear c12
                 try clear c12b0
                 try clear c13
                 try clear c13b0
                 try clear c14
                 try clear c14b0
                 try clear c15
                 try clear c15b0
                 try clear c16
                 try clear c16b0
                 try clear c17
                 try clear c17b0
                 try clear c19
                 try clear p19
                 try clear q19
                 try clear hx19
                 try clear p20
                 try clear q20
                 try clear hx20
                 try clear c21
                 try clear p21
                 try clear q21
                 try clear hx21
                 try clear qi21
                 try clear c23
                 try clear c25
                 try clear c27
                 try clear c27b0
                 try clear c27b1
                 try clear c28
                 try clear c28b0
                 try clear c28b1
                 try clear c29
                 try clear c30
                 try clear c30b0
                 try clear c31
                 try clear c31b0
                 try clear c32
                 try clear c32b0
                 try clear hx199_0
                 try clear hx199_1
                 try clear hx199_2
                 try clear hx199_3
                 try clear hx199_4
                 try clear hx200_0
                 try clear hx200_1
                 try clear hx200_2
                 try clear hx200_3
                 try clear hx200_4
                 try clear hx201_0
                 try clear hx201_1
                 try clear hx201_2
                 try clear hx201_3
                 try clear hx201_4
                 try clear hx202_0
                 try clear hx202_1
                 try clear hx202_2
                 try clear hx202_3
                 try clear hx202_4
                 try clear hx203_0
                 try clear hx203_1
                 try clear hx203_2
                 try clear hx203_3
                 try clear hx203_4
                 try clear hx204_0
                 try clear hx204_1
                 try clear hx204_2
                 try clear hx204_3
                 try clear hx204_4
                 try clear hx206_0
                 try clear hx206_1
                 try clear hx206_2
                 try clear hx206_3
                 try clear hx206_4
                 try clear hx208_0
                 try clear hx208_1
                 try clear hx208_2
                 try clear hx208_3
                 try clear hx208_4
                 try clear hx210_0
                 try clear hx210_1
                 try clear hx210_2
                 try clear hx210_3
                 try clear hx210_4
                 try clear hx212_0
                 try clear hx212_1
                 try clear hx212_2
                 try clear hx212_3
                 try clear hx212_4
                 try clear hx213_0
                 try clear hx213_1
                 try clear hx213_2
                 try clear hx213_3
                 try clear hx213_4
                 try clear hx214_0
                 try clear hx214_1
                 try clear hx214_2
                 try clear hx214_3
                 try clear hx214_4
                 try clear hx215_0
                 try clear hx215_1
                 try clear hx215_2
                 try clear hx215_3
                 try clear hx215_4
                 try clear p1
                 try clear p19
                 try clear p199
                 try clear p2
                 try clear p20
                 try clear p200
                 try clear p201
                 try clear p202
                 try clear p203
                 try clear p204
                 try clear p206
                 try clear p208
                 try clear p21
                 try clear p210
                 try clear p212
                 try clear p213
                 try clear p214
                 try clear p215
                 try clear p6
                 try clear q1
                 try clear q19
                 try clear q199
                 try clear q2
                 try clear q20
                 try clear q200
                 try clear q201
                 try clear q202
                 try clear q203
                 try clear q204
                 try clear q206
                 try clear q208
                 try clear q21
                 try clear q210
                 try clear q212
                 try clear q213
                 try clear q214
                 try clear q215
                 obtain ⟨x6_6, rfl, HA, HK6, ⟨m6, rfl⟩⟩ := hrel
                 cases gk with
                 | zero => exact absurd HA.out (by simp [estoversref19_Check.l3])
                 | succ k6 =>
                  have H := HA.out
                  clear HA
                  simp only [estoversref19_Check.l3] at H
                  by_cases c33 : x6_6 < (l0.length : Int)
                  ·rw [if_pos c33] at H
                   have c33b0 : decide (x6_6 < (l0.length : Int)) = true := decide_eq_true c33
                   clear c33
                   by_cases c34 : 0 ≤ x6_6
                   ·rw [if_pos c34] at H
                    have c34b0 : decide (0 ≤ x6_6) = true := decide_eq_true c34
                    clear c34
                    replace H := Option.bind_eq_some_iff.mp H
                    obtain ⟨t217, A350, H⟩ := H
                    replace H : (if ((rd_T53 l0 x6_6).f1) < t217 then (some 11) else (estoversref19_Check.l3 k6 l0 (wrap64 (x6_6 + 1)))) = some r := H
                    have A35 := Aside0.mk A350
                    clear A350
                    by_cases c36 : ((rd_T53 l0 x6_6).f1) < t217
                    ·rw [if_pos c36] at H
                     have c36b0 : decide (((rd_T53 l0 x6_6).f1) < t217) = true := decide_eq_true c36
                     clear c36
                     obtain rfl := Option.some.inj H
                     have p216 : 0 ≤ (x6_6 : Int) := of_decide_eq_true (by first | (with_reducible assumption) | assumption)
                     have q216 : x6_6 < (l0.length : Int) := of_decide_eq_true (by first | (with_reducible assumption) | assumption)
                     obtain ⟨ad216, e216, hx216_0, hx216_1, hx216_2, hx216_3, hx216_4⟩ := at_T53 HR0.out x6_6 p216 q216
                     cases e216
                     replace p216 := eq_true p216
                     replace q216 := eq_true q216
                     go_wp2_with (first | (go_at_call 25; (with_reducible refine (estoversref19_kids.calls k6 _ _ l0 x6_6 t217 _ ?side1 ?side2 A35.out).mono ?_); (case side1 => repeat (first | exact HR0.out | (with_reducible refine Kd.C_alloc ?_ _) | (with_reducible refine Kd.C_drewN ?_ _) | (with_reducible refine Kd.C_drew ?_))); (case side2 => exact HC0.out); rintro e w' ⟨rfl, ⟨nd, rfl⟩⟩; (try first | exact ⟨rfl, _, World.drewN_drewN _ _ _⟩ | exact ⟨rfl, _, Eq.trans (World.drewN_drewN _ _ _) (congrArg (World.drewN _) (Nat.add_assoc _ _ _))⟩)))
                     repeat (go_quiet (first | (go_at_call 25; (with_reducible refine (estoversref19_kids.calls k6 _ _ l0 x6_6 t217 _ ?side1 ?side2 A35.out).mono ?_); (case side1 => repeat (first | exact HR0.out | (with_reducible refine Kd.C_alloc ?_ _) | (with_reducible refine Kd.C_drewN ?_ _) | (with_reducible refine Kd.C_drew ?_))); (case side2 => exact HC0.out); rintro e w' ⟨rfl, ⟨nd, rfl⟩⟩; (try first | exact ⟨rfl, _, World.drewN_drewN _ _ _⟩ | exact ⟨rfl, _, Eq.trans (World.drewN_drewN _ _ _) (congrArg (World.drewN _) (Nat.add_assoc _ _ _))⟩))); try go_wp2_with (first | (go_at_call 25; (with_reducible refine (estoversref19_kids.calls k6 _ _ l0 x6_6 t217 _ ?side1 ?side2 A35.out).mono ?_); (case side1 => repeat (first | exact HR0.out | (with_reducible refine Kd.C_alloc ?_ _) | (with_reducible refine Kd.C_drewN ?_ _) | (with_reducible refine Kd.C_drew ?_))); (case side2 => exact HC0.out); rintro e w' ⟨rfl, ⟨nd, rfl⟩⟩; (try first | exact ⟨rfl, _, World.drewN_drewN _ _ _⟩ | exact ⟨rfl, _, Eq.trans (World.drewN_drewN _ _ _) (congrArg (World.drewN _) (Nat.add_assoc _ _ _))⟩))))
                     go_ret
                     exact ⟨by first | rfl | (simp; done) | (simp [*]; done), by repeat (first | exact Drawn0.refl _ | apply Drawn0.step)⟩
                    ·rw [if_neg c36] at H
                     have c36b0 : decide (((rd_T53 l0 x6_6).f1) < t217) = false := decide_eq_false c36
                     clear c36
                     have H' := Aside0.mk H
                     clear H
                     have p216 : 0 ≤ (x6_6 : Int) := of_decide_eq_true (by first | (with_reducible assumption) | assumption)
                     have q216 : x6_6 < (l0.length : Int) := of_decide_eq_true (by first | (with_reducible assumption) | assumption)
                     obtain ⟨ad216, e216, hx216_0, hx216_1, hx216_2, hx216_3, hx216_4⟩ := at_T53 HR0.out x6_6 p216 q216
                     cases e216
                     replace p216 := eq_true p216
                     replace q216 := eq_true q216
                     go_wp2_with (first | (go_at_call 25; (with_reducible refine (estoversref19_kids.calls k6 _ _ l0 x6_6 t217 _ ?side1 ?side2 A35.out).mono ?_); (case side1 => repeat (first | exact HR0.out | (with_reducible refine Kd.C_alloc ?_ _) | (with_reducible refine Kd.C_drewN ?_ _) | (with_reducible refine Kd.C_drew ?_))); (case side2 => exact HC0.out); rintro e w' ⟨rfl, ⟨nd, rfl⟩⟩; (try first | exact ⟨rfl, _, World.drewN_drewN _ _ _⟩ | exact ⟨rfl, _, Eq.trans (World.drewN_drewN _ _ _) (congrArg (World.drewN _) (Nat.add_assoc _ _ _))⟩)))
                     repeat (go_quiet (first | (go_at_call 25; (with_reducible refine (estoversref19_kids.calls k6 _ _ l0 x6_6 t217 _ ?side1 ?side2 A35.out).mono ?_); (case side1 => repeat (first | exact HR0.out | (with_reducible refine Kd.C_alloc ?_ _) | (with_reducible refine Kd.C_drewN ?_ _) | (with_reducible refine Kd.C_drew ?_))); (case side2 => exact HC0.out); rintro e w' ⟨rfl, ⟨nd, rfl⟩⟩; (try first | exact ⟨rfl, _, World.drewN_drewN _ _ _⟩ | exact ⟨rfl, _, Eq.trans (World.drewN_drewN _ _ _) (congrArg (World.drewN _) (Nat.add_assoc _ _ _))⟩))); try go_wp2_with (first | (go_at_call 25; (with_reducible refine (estoversref19_kids.calls k6 _ _ l0 x6_6 t217 _ ?side1 ?side2 A35.out).mono ?_); (case side1 => repeat (first | exact HR0.out | (with_reducible refine Kd.C_alloc ?_ _) | (with_reducible refine Kd.C_drewN ?_ _) | (with_reducible refine Kd.C_drew ?_))); (case side2 => exact HC0.out); rintro e w' ⟨rfl, ⟨nd, rfl⟩⟩; (try first | exact ⟨rfl, _, World.drewN_drewN _ _ _⟩ | exact ⟨rfl, _, Eq.trans (World.drewN_drewN _ _ _) (congrArg (World.drewN _) (Nat.add_assoc _ _ _))⟩))))
                     go_roundg k6
                     case measure => have := HJ1.out; have := HK2.out; have := HK3.out; have := HJ25.out; have := HK5.out; have := HK6.out; omega
                     case rel => exact ⟨(wrap64 (x6_6 + 1)), (by first | rfl | (simp; done) | (simp [*]; done)), H', ⟨by have := HJ1.out; have := HK2.out; have := HK3.out; have := HJ25.out; have := HK5.out; have := HK6.out; omega⟩, by repeat (first | exact Drawn0.refl _ | apply Drawn0.step)⟩
                   ·rw [if_neg c34] at H
                    exact absurd H (by simp)
                  ·rw [if_neg c33] at H
                   have c33b0 : decide (x6_6 < (l0.length : Int)) = false := decide_eq_false c33
                   clear c33
                   obtain rfl := Option.some.inj H
                   go_wp2
                   repeat (go_quiet (fail); try go_wp2)
                   go_ret
                   exact ⟨by first | rfl | (simp; done) | (simp [*]; done), by repeat (first | exact Drawn0.refl _ | apply Drawn0.step)⟩
end Go.Proofs.Ytpccpkpljlafcaa.PTopSharesKept
