-- Printed by a copy of the kit's printer that this session has patched (wip/tools/patch_print.py): the session's own text. Lean checks it.
import Derived.Test.YtimlodcdfekbhaaPGrantServesx0
import Derived.Test.YtimlodcdfekbhaaPGrantServesx8
namespace Go.Proofs.Ytimlodcdfekbhaa.PGrantServes
open Go.RowKit Go.Proofs.YtimlodcdfekbhaaW.PrintWords Go.Proofs.YtimlodcdfekbhaaW.PrintLast Go.Proofs.YtimlodcdfekbhaaW.PrintMore
attribute [local go_sem] max2_int min2_int max_two min_two max_three min_three max_four min_four   -- for this text's walks alone
set_option linter.unusedVariables false
set_option linter.unusedSimpArgs false
mutual
def estoversref19_Check.j0 : Nat → List (S59) → Bool → Option (Int)
 | 0, _, _ => none
 | k + 1, x0, x14 => if x14 = true then (some 9) else (estoversref19_Check.l0 k x0 0)
def estoversref19_Check.l0 : Nat → List (S59) → Int → Option (Int)
 | 0, _, _ => none
 | k + 1, x0, x3 => if x3 < (x0.length : Int) then (if x3 = 0 then (if 0 ≤ x3 then (if ((rd_T59 x0 x3).f0) = (-1) then (if x3 > 0 then (if ((rd_T59 x0 x3).f0) < 0 then (some 1) else (if ((rd_T59 x0 x3).f0) ≥ x3 then (some 1) else (estoversref19_Check.l0 k x0 (wrap64 (x3 + 1))))) else (estoversref19_Check.l0 k x0 (wrap64 (x3 + 1)))) else (some 1)) else (none)) else (if x3 > 0 then (if 0 ≤ x3 then (if ((rd_T59 x0 x3).f0) < 0 then (some 1) else (if ((rd_T59 x0 x3).f0) ≥ x3 then (some 1) else (estoversref19_Check.l0 k x0 (wrap64 (x3 + 1))))) else (none)) else (estoversref19_Check.l0 k x0 (wrap64 (x3 + 1))))) else (estoversref19_Check.l1 k x0 0)
def estoversref19_Check.l1 : Nat → List (S59) → Int → Option (Int)
 | 0, _, _ => none
 | k + 1, x0, x4 => if x4 < (x0.length : Int) then (if 0 ≤ x4 then ((estoversref19_in.f ((rd_T59 x0 x4).f1)).bind fun t280 => (if t280 = true then ((estoversref19_in.f ((rd_T59 x0 x4).f2)).bind fun t282 => (if t282 = true then ((estoversref19_in.f ((rd_T59 x0 x4).f3)).bind fun t284 => (if t284 = true then ((estoversref19_in.f ((rd_T59 x0 x4).f4)).bind fun t286 => (if t286 = true then (estoversref19_Check.l1 k x0 (wrap64 (x4 + 1))) else (some 2))) else (some 2))) else (some 2))) else (some 2))) else (none)) else (if 0 < (x0.length : Int) then (if ((rd_T59 x0 0).f2) = 0 then (estoversref19_Check.j3 k x0 (((rd_T59 x0 0).f3) != 0)) else (estoversref19_Check.j3 k x0 true)) else (none))
def estoversref19_Check.j3 : Nat → List (S59) → Bool → Option (Int)
 | 0, _, _ => none
 | k + 1, x0, x103 => if x103 = true then (some 2) else (estoversref19_Check.l2 k x0 0)
def estoversref19_Check.l2 : Nat → List (S59) → Int → Option (Int)
 | 0, _, _ => none
 | k + 1, x0, x5 => if x5 < (x0.length : Int) then (if 0 ≤ x5 then (if ((rd_T59 x0 x5).f1) > ((rd_T59 x0 x5).f4) then (some 17) else (estoversref19_Check.l2 k x0 (wrap64 (x5 + 1)))) else (none)) else (estoversref19_Check.l3 k x0 0)
def estoversref19_Check.l3 : Nat → List (S59) → Int → Option (Int)
 | 0, _, _ => none
 | k + 1, x0, x6 => if x6 < (x0.length : Int) then (if 0 ≤ x6 then ((estoversref19_kids.f k x0 x6).bind fun t292 => (if ((rd_T59 x0 x6).f1) < t292 then (some 11) else (estoversref19_Check.l3 k x0 (wrap64 (x6 + 1))))) else (none)) else (some 0)
end
def estoversref19_Check.f (k : Nat) (l0 : List (S59)) : Option (Int) := if (l0.length : Int) < 1 then (estoversref19_Check.j0 k l0 true) else (estoversref19_Check.j0 k l0 (decide ((l0.length : Int) > 8)))
theorem estoversref19_Check.mono_l : ∀ k, (∀ y0 y1, LeO (estoversref19_Check.j0 k y0 y1) (estoversref19_Check.j0 (k + 1) y0 y1)) ∧ (∀ y0 y1, LeO (estoversref19_Check.l0 k y0 y1) (estoversref19_Check.l0 (k + 1) y0 y1)) ∧ (∀ y0 y1, LeO (estoversref19_Check.l1 k y0 y1) (estoversref19_Check.l1 (k + 1) y0 y1)) ∧ (∀ y0 y1, LeO (estoversref19_Check.j3 k y0 y1) (estoversref19_Check.j3 (k + 1) y0 y1)) ∧ (∀ y0 y1, LeO (estoversref19_Check.l2 k y0 y1) (estoversref19_Check.l2 (k + 1) y0 y1)) ∧ (∀ y0 y1, LeO (estoversref19_Check.l3 k y0 y1) (estoversref19_Check.l3 (k + 1) y0 y1))
 | 0 => ⟨fun _ _ r h => by simp [estoversref19_Check.j0] at h, fun _ _ r h => by simp [estoversref19_Check.l0] at h, fun _ _ r h => by simp [estoversref19_Check.l1] at h, fun _ _ r h => by simp [estoversref19_Check.j3] at h, fun _ _ r h => by simp [estoversref19_Check.l2] at h, fun _ _ r h => by simp [estoversref19_Check.l3] at h⟩
 | k + 1 => by
  obtain ⟨ih0, ih1, ih2, ih3, ih4, ih5⟩ := estoversref19_Check.mono_l k
  refine ⟨?_, ?_, ?_, ?_, ?_, ?_⟩
  ·intro y0 y1
   unfold estoversref19_Check.j0
   repeat' first
   | (with_reducible exact ih0 _ _)
   | (with_reducible exact ih1 _ _)
   | (with_reducible exact ih2 _ _)
   | (with_reducible exact ih3 _ _)
   | (with_reducible exact ih4 _ _)
   | (with_reducible exact ih5 _ _)
   | (with_reducible exact estoversref19_kids.mono _ _ _)
   | (with_reducible exact LeO.refl _)
   | (with_reducible exact LeO.none _)
   | (with_reducible refine LeO.ite ?_ ?_)
   | (with_reducible refine LeO.bind ?_ (fun _ => ?_))
   | exact ih0 _ _
   | exact ih1 _ _
   | exact ih2 _ _
   | exact ih3 _ _
   | exact ih4 _ _
   | exact ih5 _ _
   | exact estoversref19_kids.mono _ _ _
   | exact LeO.none _
   | refine LeO.ite ?_ ?_
   | refine LeO.bind ?_ (fun _ => ?_)
  ·intro y0 y1
   unfold estoversref19_Check.l0
   repeat' first
   | (with_reducible exact ih0 _ _)
   | (with_reducible exact ih1 _ _)
   | (with_reducible exact ih2 _ _)
   | (with_reducible exact ih3 _ _)
   | (with_reducible exact ih4 _ _)
   | (with_reducible exact ih5 _ _)
   | (with_reducible exact estoversref19_kids.mono _ _ _)
   | (with_reducible exact LeO.refl _)
   | (with_reducible exact LeO.none _)
   | (with_reducible refine LeO.ite ?_ ?_)
   | (with_reducible refine LeO.bind ?_ (fun _ => ?_))
   | exact ih0 _ _
   | exact ih1 _ _
   | exact ih2 _ _
   | exact ih3 _ _
   | exact ih4 _ _
   | exact ih5 _ _
   | exact estoversref19_kids.mono _ _ _
   | exact LeO.none _
   | refine LeO.ite ?_ ?_
   | refine LeO.bind ?_ (fun _ => ?_)
  ·intro y0 y1
   unfold estoversref19_Check.l1
   repeat' first
   | (with_reducible exact ih0 _ _)
   | (with_reducible exact ih1 _ _)
   | (with_reducible exact ih2 _ _)
   | (with_reducible exact ih3 _ _)
   | (with_reducible exact ih4 _ _)
   | (with_reducible exact ih5 _ _)
   | (with_reducible exact estoversref19_kids.mono _ _ _)
   | (with_reducible exact LeO.refl _)
   | (with_reducible exact LeO.none _)
   | (with_reducible refine LeO.ite ?_ ?_)
   | (with_reducible refine LeO.bind ?_ (fun _ => ?_))
   | exact ih0 _ _
   | exact ih1 _ _
   | exact ih2 _ _
   | exact ih3 _ _
   | exact ih4 _ _
   | exact ih5 _ _
   | exact estoversref19_kids.mono _ _ _
   | exact LeO.none _
   | refine LeO.ite ?_ ?_
   | refine LeO.bind ?_ (fun _ => ?_)
  ·intro y0 y1
   unfold estoversref19_Check.j3
   repeat' first
   | (with_reducible exact ih0 _ _)
   | (with_reducible exact ih1 _ _)
   | (with_reducible exact ih2 _ _)
   | (with_reducible exact ih3 _ _)
   | (with_reducible exact ih4 _ _)
   | (with_reducible exact ih5 _ _)
   | (with_reducible exact estoversref19_kids.mono _ _ _)
   | (with_reducible exact LeO.refl _)
   | (with_reducible exact LeO.none _)
   | (with_reducible refine LeO.ite ?_ ?_)
   | (with_reducible refine LeO.bind ?_ (fun _ => ?_))
   | exact ih0 _ _
   | exact ih1 _ _
   | exact ih2 _ _
   | exact ih3 _ _
   | exact ih4 _ _
   | exact ih5 _ _
   | exact estoversref19_kids.mono _ _ _
   | exact LeO.none _
   | refine LeO.ite ?_ ?_
   | refine LeO.bind ?_ (fun _ => ?_)
  ·intro y0 y1
   unfold estoversref19_Check.l2
   repeat' first
   | (with_reducible exact ih0 _ _)
   | (with_reducible exact ih1 _ _)
   | (with_reducible exact ih2 _ _)
   | (with_reducible exact ih3 _ _)
   | (with_reducible exact ih4 _ _)
   | (with_reducible exact ih5 _ _)
   | (with_reducible exact estoversref19_kids.mono _ _ _)
   | (with_reducible exact LeO.refl _)
   | (with_reducible exact LeO.none _)
   | (with_reducible refine LeO.ite ?_ ?_)
   | (with_reducible refine LeO.bind ?_ (fun _ => ?_))
   | exact ih0 _ _
   | exact ih1 _ _
   | exact ih2 _ _
   | exact ih3 _ _
   | exact ih4 _ _
   | exact ih5 _ _
   | exact estoversref19_kids.mono _ _ _
   | exact LeO.none _
   | refine LeO.ite ?_ ?_
   | refine LeO.bind ?_ (fun _ => ?_)
  ·intro y0 y1
   unfold estoversref19_Check.l3
   repeat' first
   | (with_reducible exact ih0 _ _)
   | (with_reducible exact ih1 _ _)
   | (with_reducible exact ih2 _ _)
   | (with_reducible exact ih3 _ _)
   | (with_reducible exact ih4 _ _)
   | (with_reducible exact ih5 _ _)
   | (with_reducible exact estoversref19_kids.mono _ _ _)
   | (with_reducible exact LeO.refl _)
   | (with_reducible exact LeO.none _)
   | (with_reducible refine LeO.ite ?_ ?_)
   | (with_reducible refine LeO.bind ?_ (fun _ => ?_))
   | exact ih0 _ _
   | exact ih1 _ _
   | exact ih2 _ _
   | exact ih3 _ _
   | exact ih4 _ _
   | exact ih5 _ _
   | exact estoversref19_kids.mono _ _ _
   | exact LeO.none _
   | refine LeO.ite ?_ ?_
   | refine LeO.bind ?_ (fun _ => ?_)
theorem estoversref19_Check.mono : ∀ a0 k, LeO (estoversref19_Check.f k a0) (estoversref19_Check.f (k + 1) a0) := by
 intro a0 k
 obtain ⟨ih0, ih1, ih2, ih3, ih4, ih5⟩ := estoversref19_Check.mono_l k
 unfold estoversref19_Check.f
 repeat' first
   | (with_reducible exact ih0 _ _)
   | (with_reducible exact ih1 _ _)
   | (with_reducible exact ih2 _ _)
   | (with_reducible exact ih3 _ _)
   | (with_reducible exact ih4 _ _)
   | (with_reducible exact ih5 _ _)
   | (with_reducible exact estoversref19_kids.mono _ _ _)
   | (with_reducible exact LeO.refl _)
   | (with_reducible exact LeO.none _)
   | (with_reducible refine LeO.ite ?_ ?_)
   | (with_reducible refine LeO.bind ?_ (fun _ => ?_))
   | exact ih0 _ _
   | exact ih1 _ _
   | exact ih2 _ _
   | exact ih3 _ _
   | exact ih4 _ _
   | exact ih5 _ _
   | exact estoversref19_kids.mono _ _ _
   | exact LeO.none _
   | refine LeO.ite ?_ ?_
   | refine LeO.bind ?_ (fun _ => ?_)
set_option maxHeartbeats 8000000 in
set_option maxRecDepth 100000 in
theorem estoversref19_Check.calls (k : Nat) (A0 : Option Addr) (c0 : Nat) (l0 : List (S59)) (r : Int) (w : World) (hr0 : Kd.C k59 w A0 l0.length l0) (hc0 : l0.length ≤ c0) (h : estoversref19_Check.f k l0 = some r) :
  Calls Try.prog 39 #[.slice A0 l0.length c0] w fun e w' => e = .returned (.int .i64 r) ∧ Drawn0 w w' := by
 have HR0 := zM hr0
 have HC0 := zM hc0
 clear hr0 hc0
 have H : (if (l0.length : Int) < 1 then (estoversref19_Check.j0 k l0 true) else (estoversref19_Check.j0 k l0 (decide ((l0.length : Int) > 8)))) = some r := h
 clear h
 have HC2 := zM H
 clear H
 go_enter Try.func39, Try.ntmps39
 go_upto_region 1 with (fail)
 repeat (go_quiet (fail); go_upto_region 1 with (fail))
 go_cut [14] (fun v14 wc => ∃ (kq : Nat) (x14_1 : Bool), v14 = .bool x14_1 ∧ Aside0 (estoversref19_Check.j0 kq l0 x14_1 = some r) ∧ Aside0 (kq ≤ k) ∧ Drawn0 w wc)
 case first =>
  have H := HC2.1
  clear HC2
  by_cases c3 : (l0.length : Int) < 1
  ·rw [if_pos c3] at H
   have c3b0 : decide ((l0.length : Int) < 1) = true := decide_eq_true c3
   have c3b1 : decide (l0.length < 1) = true := decide_eq_true (by omega)
   clear c3
   (first | rw [c3b0] | (simp only [i64_w, i32_w]; rw [c3b0]) | skip)
   have H' := zM H
   clear H
   go_wp2
   repeat (go_quiet (fail); try go_wp2)
   go_meet
   case rel => exact ⟨_, (true), (by first | rfl | (simp; done) | (simp [*]; done)), H', ⟨by first | omega | exact Nat.le_refl _⟩, by repeat (first | exact Drawn0.refl _ | apply Drawn0.step)⟩
  ·rw [if_neg c3] at H
   have c3b0 : decide ((l0.length : Int) < 1) = false := decide_eq_false c3
   have c3b1 : decide (l0.length < 1) = false := decide_eq_false (by omega)
   clear c3
   (first | rw [c3b0] | (simp only [i64_w, i32_w]; rw [c3b0]) | skip)
   have H' := zM H
   clear H
   go_wp2
   repeat (go_quiet (fail); try go_wp2)
   go_meet
   case rel => exact ⟨_, (decide ((l0.length : Int) > 8)), (by first | rfl | (simp; done) | (simp [*]; done)), H', ⟨by first | omega | exact Nat.le_refl _⟩, by repeat (first | exact Drawn0.refl _ | apply Drawn0.step)⟩
 case rest =>
  clear HC2
  try clear p2
  try clear c3
  try clear c3b0
  try clear c3b1
  obtain ⟨kq, x14_1, rfl, HA, HJ1, ⟨mc1, rfl⟩⟩ := hcut
  cases kq with
  | zero => exact absurd HA.1 (by simp [estoversref19_Check.j0])
  | succ kj1 =>
   have H := HA.1
   clear HA
   simp only [estoversref19_Check.j0] at H
   by_cases c4 : x14_1 = true
   ·subst c4
    have H1 : (some 9) = some r := by rw [if_pos rfl] at H; exact H
    clear H
    have H := H1
    clear H1
    obtain rfl := Option.some.inj H
    go_wp2
    repeat (go_quiet (fail); try go_wp2)
    go_ret
    exact ⟨by first | rfl | (simp; done) | (simp [*]; done), by repeat (first | exact Drawn0.refl _ | apply Drawn0.step)⟩
   ·replace c4 := Bool.eq_false_iff.mpr c4
    subst c4
    have H1 : (estoversref19_Check.l0 kj1 l0 0) = some r := by rw [if_neg (show ¬ (false = true) by decide)] at H; exact H
    clear H
    have H := H1
    clear H1
    have H' := zM H
    clear H
    go_wp2
    repeat (go_quiet (fail); try go_wp2)
    go_loopg [3] kj1 (fun kq v3 w' => ∃ (x3_2 : Int), v3 = .int .i64 x3_2 ∧ Aside0 (estoversref19_Check.l0 kq l0 x3_2 = some r) ∧ Aside0 (kq ≤ kj1) ∧ Drawn0 w w')
    case atStart => exact ⟨(0), (by first | rfl | (simp; done) | (simp [*]; done)), H', ⟨Nat.le_refl _⟩, by repeat (first | exact Drawn0.refl _ | apply Drawn0.step)⟩
    case round =>
     clear H'
     try clear c1
     try clear p2
     try clear c3
     try clear c3b0
     try clear c3b1
     try clear c4
     try clear p2
     obtain ⟨x3_2, rfl, HA, HK2, ⟨m2, rfl⟩⟩ := hrel
     cases gk with
     | zero => exact absurd HA.1 (by simp [estoversref19_Check.l0])
     | succ k2 =>
      have H := HA.1
      clear HA
      simp only [estoversref19_Check.l0] at H
      by_cases c5 : x3_2 < (l0.length : Int)
      ·rw [if_pos c5] at H
       have c5b0 : decide (x3_2 < (l0.length : Int)) = true := decide_eq_true c5
       clear c5
       by_cases c6 : x3_2 = 0
       ·rw [if_pos c6] at H
        have c6b0 : (x3_2 == 0) = true := beq_iff_eq.mpr c6
        have c6b1 : (x3_2 != 0) = false := bne_eq_false_iff_eq.mpr c6
        clear c6
        by_cases c7 : 0 ≤ x3_2
        ·rw [if_pos c7] at H
         have c7b0 : decide (0 ≤ x3_2) = true := decide_eq_true c7
         clear c7
         by_cases c8 : ((rd_T59 l0 x3_2).f0) = (-1)
         ·rw [if_pos c8] at H
          have c8b0 : (((rd_T59 l0 x3_2).f0) == (-1)) = true := beq_iff_eq.mpr c8
          have c8b1 : (((rd_T59 l0 x3_2).f0) != (-1)) = false := bne_eq_false_iff_eq.mpr c8
          clear c8
          by_cases c9 : x3_2 > 0
          ·rw [if_pos c9] at H
           have c9b0 : decide (0 < x3_2) = true := decide_eq_true c9
           clear c9
           by_cases c10 : ((rd_T59 l0 x3_2).f0) < 0
           ·rw [if_pos c10] at H
            have c10b0 : decide (((rd_T59 l0 x3_2).f0) < 0) = true := decide_eq_true c10
            clear c10
            obtain rfl := Option.some.inj H
            have p274 : 0 ≤ (x3_2 : Int) := zo (by first | (with_reducible assumption) | assumption)
            have q274 : x3_2 < (l0.length : Int) := zo (by first | (with_reducible assumption) | assumption)
            obtain ⟨ad274, e274, hx274_0, hx274_1, hx274_2, hx274_3, hx274_4⟩ := at_T59 HR0.1 x3_2 p274 q274
            cases e274
            replace p274 := eq_true p274
            replace q274 := eq_true q274
            have p275 : 0 ≤ (x3_2 : Int) := zo (by first | (with_reducible assumption) | assumption)
            have q275 : x3_2 < (l0.length : Int) := zo (by first | (with_reducible assumption) | assumption)
            obtain ⟨ad275, e275, hx275_0, hx275_1, hx275_2, hx275_3, hx275_4⟩ := at_T59 HR0.1 x3_2 p275 q275
            obtain rfl : ad274 = ad275 := (by injection e275)
            replace p275 := eq_true p275
            replace q275 := eq_true q275
            go_wp2
            repeat (go_quiet (fail); try go_wp2)
            go_ret
            exact ⟨by first | rfl | (simp; done) | (simp [*]; done), by repeat (first | exact Drawn0.refl _ | apply Drawn0.step)⟩
           ·rw [if_neg c10] at H
            have c10b0 : decide (((rd_T59 l0 x3_2).f0) < 0) = false := decide_eq_false c10
            clear c10
            by_cases c11 : ((rd_T59 l0 x3_2).f0) ≥ x3_2
            ·rw [if_pos c11] at H
             have c11b0 : decide (x3_2 ≤ ((rd_T59 l0 x3_2).f0)) = true := decide_eq_true c11
             clear c11
             obtain rfl := Option.some.inj H
             have p274 : 0 ≤ (x3_2 : Int) := zo (by first | (with_reducible assumption) | assumption)
             have q274 : x3_2 < (l0.length : Int) := zo (by first | (with_reducible assumption) | assumption)
             obtain ⟨ad274, e274, hx274_0, hx274_1, hx274_2, hx274_3, hx274_4⟩ := at_T59 HR0.1 x3_2 p274 q274
             cases e274
             replace p274 := eq_true p274
             replace q274 := eq_true q274
             have p275 : 0 ≤ (x3_2 : Int) := zo (by first | (with_reducible assumption) | assumption)
             have q275 : x3_2 < (l0.length : Int) := zo (by first | (with_reducible assumption) | assumption)
             obtain ⟨ad275, e275, hx275_0, hx275_1, hx275_2, hx275_3, hx275_4⟩ := at_T59 HR0.1 x3_2 p275 q275
             obtain rfl : ad274 = ad275 := (by injection e275)
             replace p275 := eq_true p275
             replace q275 := eq_true q275
             have p276 : 0 ≤ (x3_2 : Int) := zo (by first | (with_reducible assumption) | assumption)
             have q276 : x3_2 < (l0.length : Int) := zo (by first | (with_reducible assumption) | assumption)
             obtain ⟨ad276, e276, hx276_0, hx276_1, hx276_2, hx276_3, hx276_4⟩ := at_T59 HR0.1 x3_2 p276 q276
             obtain rfl : ad274 = ad276 := (by injection e276)
             replace p276 := eq_true p276
             replace q276 := eq_true q276
             go_wp2
             repeat (go_quiet (fail); try go_wp2)
             go_ret
             exact ⟨by first | rfl | (simp; done) | (simp [*]; done), by repeat (first | exact Drawn0.refl _ | apply Drawn0.step)⟩
            ·rw [if_neg c11] at H
             have c11b0 : decide (x3_2 ≤ ((rd_T59 l0 x3_2).f0)) = false := decide_eq_false c11
             clear c11
             have H' := zM H
             clear H
             have p274 : 0 ≤ (x3_2 : Int) := zo (by first | (with_reducible assumption) | assumption)
             have q274 : x3_2 < (l0.length : Int) := zo (by first | (with_reducible assumption) | assumption)
             obtain ⟨ad274, e274, hx274_0, hx274_1, hx274_2, hx274_3, hx274_4⟩ := at_T59 HR0.1 x3_2 p274 q274
             cases e274
             replace p274 := eq_true p274
             replace q274 := eq_true q274
             have p275 : 0 ≤ (x3_2 : Int) := zo (by first | (with_reducible assumption) | assumption)
             have q275 : x3_2 < (l0.length : Int) := zo (by first | (with_reducible assumption) | assumption)
             obtain ⟨ad275, e275, hx275_0, hx275_1, hx275_2, hx275_3, hx275_4⟩ := at_T59 HR0.1 x3_2 p275 q275
             obtain rfl : ad274 = ad275 := (by injection e275)
             replace p275 := eq_true p275
             replace q275 := eq_true q275
             have p276 : 0 ≤ (x3_2 : Int) := zo (by first | (with_reducible assumption) | assumption)
             have q276 : x3_2 < (l0.length : Int) := zo (by first | (with_reducible assumption) | assumption)
             obtain ⟨ad276, e276, hx276_0, hx276_1, hx276_2, hx276_3, hx276_4⟩ := at_T59 HR0.1 x3_2 p276 q276
             obtain rfl : ad274 = ad276 := (by injection e276)
             replace p276 := eq_true p276
             replace q276 := eq_true q276
             go_wp2
             repeat (go_quiet (fail); try go_wp2)
             go_roundg k2
             case measure => have := HJ1.1; have := HK2.1; omega
             case rel => exact ⟨(wrap64 (x3_2 + 1)), (by first | rfl | (simp; done) | (simp [*]; done)), H', ⟨by have := HJ1.1; have := HK2.1; omega⟩, by repeat (first | exact Drawn0.refl _ | apply Drawn0.step)⟩
          ·rw [if_neg c9] at H
           have c9b0 : decide (0 < x3_2) = false := decide_eq_false c9
           clear c9
           have H' := zM H
           clear H
           have p274 : 0 ≤ (x3_2 : Int) := zo (by first | (with_reducible assumption) | assumption)
           have q274 : x3_2 < (l0.length : Int) := zo (by first | (with_reducible assumption) | assumption)
           obtain ⟨ad274, e274, hx274_0, hx274_1, hx274_2, hx274_3, hx274_4⟩ := at_T59 HR0.1 x3_2 p274 q274
           cases e274
           replace p274 := eq_true p274
           replace q274 := eq_true q274
           go_wp2
           repeat (go_quiet (fail); try go_wp2)
           go_roundg k2
           case measure => have := HJ1.1; have := HK2.1; omega
           case rel => exact ⟨(wrap64 (x3_2 + 1)), (by first | rfl | (simp; done) | (simp [*]; done)), H', ⟨by have := HJ1.1; have := HK2.1; omega⟩, by repeat (first | exact Drawn0.refl _ | apply Drawn0.step)⟩
         ·rw [if_neg c8] at H
          have c8b0 : (((rd_T59 l0 x3_2).f0) == (-1)) = false := beq_eq_false_iff_ne.mpr c8
          have c8b1 : (((rd_T59 l0 x3_2).f0) != (-1)) = true := bne_iff_ne.mpr c8
          obtain rfl := Option.some.inj H
          have p274 : 0 ≤ (x3_2 : Int) := zo (by first | (with_reducible assumption) | assumption)
          have q274 : x3_2 < (l0.length : Int) := zo (by first | (with_reducible assumption) | assumption)
          obtain ⟨ad274, e274, hx274_0, hx274_1, hx274_2, hx274_3, hx274_4⟩ := at_T59 HR0.1 x3_2 p274 q274
          cases e274
          replace p274 := eq_true p274
          replace q274 := eq_true q274
          go_wp2
          repeat (go_quiet (fail); try go_wp2)
          go_ret
          exact ⟨by first | rfl | (simp; done) | (simp [*]; done), by repeat (first | exact Drawn0.refl _ | apply Drawn0.step)⟩
        ·rw [if_neg c7] at H
         exact absurd H (by simp)
       ·rw [if_neg c6] at H
        have c6b0 : (x3_2 == 0) = false := beq_eq_false_iff_ne.mpr c6
        have c6b1 : (x3_2 != 0) = true := bne_iff_ne.mpr c6
        by_cases c12 : x3_2 > 0
        ·rw [if_pos c12] at H
         have c12b0 : decide (0 < x3_2) = true := decide_eq_true c12
         clear c12
         by_cases c13 : 0 ≤ x3_2
         ·rw [if_pos c13] at H
          have c13b0 : decide (0 ≤ x3_2) = true := decide_eq_true c13
          clear c13
          by_cases c14 : ((rd_T59 l0 x3_2).f0) < 0
          ·rw [if_pos c14] at H
           have c14b0 : decide (((rd_T59 l0 x3_2).f0) < 0) = true := decide_eq_true c14
           clear c14
           obtain rfl := Option.some.inj H
           have p277 : 0 ≤ (x3_2 : Int) := zo (by first | (with_reducible assumption) | assumption)
           have q277 : x3_2 < (l0.length : Int) := zo (by first | (with_reducible assumption) | assumption)
           obtain ⟨ad277, e277, hx277_0, hx277_1, hx277_2, hx277_3, hx277_4⟩ := at_T59 HR0.1 x3_2 p277 q277
           cases e277
           replace p277 := eq_true p277
           replace q277 := eq_true q277
           go_wp2
           repeat (go_quiet (fail); try go_wp2)
           go_ret
           exact ⟨by first | rfl | (simp; done) | (simp [*]; done), by repeat (first | exact Drawn0.refl _ | apply Drawn0.step)⟩
          ·rw [if_neg c14] at H
           have c14b0 : decide (((rd_T59 l0 x3_2).f0) < 0) = false := decide_eq_false c14
           clear c14
           by_cases c15 : ((rd_T59 l0 x3_2).f0) ≥ x3_2
           ·rw [if_pos c15] at H
            have c15b0 : decide (x3_2 ≤ ((rd_T59 l0 x3_2).f0)) = true := decide_eq_true c15
            clear c15
            obtain rfl := Option.some.inj H
            have p277 : 0 ≤ (x3_2 : Int) := zo (by first | (with_reducible assumption) | assumption)
            have q277 : x3_2 < (l0.length : Int) := zo (by first | (with_reducible assumption) | assumption)
            obtain ⟨ad277, e277, hx277_0, hx277_1, hx277_2, hx277_3, hx277_4⟩ := at_T59 HR0.1 x3_2 p277 q277
            cases e277
            replace p277 := eq_true p277
            replace q277 := eq_true q277
            have p278 : 0 ≤ (x3_2 : Int) := zo (by first | (with_reducible assumption) | assumption)
            have q278 : x3_2 < (l0.length : Int) := zo (by first | (with_reducible assumption) | assumption)
            obtain ⟨ad278, e278, hx278_0, hx278_1, hx278_2, hx278_3, hx278_4⟩ := at_T59 HR0.1 x3_2 p278 q278
            obtain rfl : ad277 = ad278 := (by injection e278)
            replace p278 := eq_true p278
            replace q278 := eq_true q278
            go_wp2
            repeat (go_quiet (fail); try go_wp2)
            go_ret
            exact ⟨by first | rfl | (simp; done) | (simp [*]; done), by repeat (first | exact Drawn0.refl _ | apply Drawn0.step)⟩
           ·rw [if_neg c15] at H
            have c15b0 : decide (x3_2 ≤ ((rd_T59 l0 x3_2).f0)) = false := decide_eq_false c15
            clear c15
            have H' := zM H
            clear H
            have p277 : 0 ≤ (x3_2 : Int) := zo (by first | (with_reducible assumption) | assumption)
            have q277 : x3_2 < (l0.length : Int) := zo (by first | (with_reducible assumption) | assumption)
            obtain ⟨ad277, e277, hx277_0, hx277_1, hx277_2, hx277_3, hx277_4⟩ := at_T59 HR0.1 x3_2 p277 q277
            cases e277
            replace p277 := eq_true p277
            replace q277 := eq_true q277
            have p278 : 0 ≤ (x3_2 : Int) := zo (by first | (with_reducible assumption) | assumption)
            have q278 : x3_2 < (l0.length : Int) := zo (by first | (with_reducible assumption) | assumption)
            obtain ⟨ad278, e278, hx278_0, hx278_1, hx278_2, hx278_3, hx278_4⟩ := at_T59 HR0.1 x3_2 p278 q278
            obtain rfl : ad277 = ad278 := (by injection e278)
            replace p278 := eq_true p278
            replace q278 := eq_true q278
            go_wp2
            repeat (go_quiet (fail); try go_wp2)
            go_roundg k2
            case measure => have := HJ1.1; have := HK2.1; omega
            case rel => exact ⟨(wrap64 (x3_2 + 1)), (by first | rfl | (simp; done) | (simp [*]; done)), H', ⟨by have := HJ1.1; have := HK2.1; omega⟩, by repeat (first | exact Drawn0.refl _ | apply Drawn0.step)⟩
         ·rw [if_neg c13] at H
          exact absurd H (by simp)
        ·rw [if_neg c12] at H
         have c12b0 : decide (0 < x3_2) = false := decide_eq_false c12
         clear c12
         have H' := zM H
         clear H
         go_wp2
         repeat (go_quiet (fail); try go_wp2)
         go_roundg k2
         case measure => have := HJ1.1; have := HK2.1; omega
         case rel => exact ⟨(wrap64 (x3_2 + 1)), (by first | rfl | (simp; done) | (simp [*]; done)), H', ⟨by have := HJ1.1; have := HK2.1; omega⟩, by repeat (first | exact Drawn0.refl _ | apply Drawn0.step)⟩
      ·rw [if_neg c5] at H
       have c5b0 : decide (x3_2 < (l0.length : Int)) = false := decide_eq_false c5
       clear c5
       have H' := zM H
       clear H
       go_wp2
       repeat (go_quiet (fail); try go_wp2)
       go_loopg [4] k2 (fun kq v4 w' => ∃ (x4_3 : Int), v4 = .int .i64 x4_3 ∧ Aside0 (estoversref19_Check.l1 kq l0 x4_3 = some r) ∧ Aside0 (kq ≤ k2) ∧ Drawn0 w w')
       case atStart => exact ⟨(0), (by first | rfl | (simp; done) | (simp [*]; done)), H', ⟨Nat.le_refl _⟩, by repeat (first | exact Drawn0.refl _ | apply Drawn0.step)⟩
       case round =>
        clear H'
        try clear c1
        try clear p2
        try clear q2
        try clear hx2
        try clear c3
        try clear c3b0
        try clear c3b1
        try clear c4
        try clear c5
        try clear c5b0
        try clear c6
        try clear c6b0
        try clear c6b1
        try clear p6
        try clear c7
        try clear c7b0
        try clear c8
        try clear c8b0
        try clear c8b1
        try clear c9
        try clear c9b0
        try clear c10
        try clear c10b0
        try clear c11
        try clear c11b0
        try clear c12
        try clear c12b0
        try clear c13
        try clear c13b0
        try clear c14
        try clear c14b0
        try clear c15
        try clear c15b0
        try clear hx274_0
        try clear hx274_1
        try clear hx274_2
        try clear hx274_3
        try clear hx274_4
        try clear hx275_0
        try clear hx275_1
        try clear hx275_2
        try clear hx275_3
        try clear hx275_4
        try clear hx276_0
        try clear hx276_1
        try clear hx276_2
        try clear hx276_3
        try clear hx276_4
        try clear hx277_0
        try clear hx277_1
        try clear hx277_2
        try clear hx277_3
        try clear hx277_4
        try clear hx278_0
        try clear hx278_1
        try clear hx278_2
        try clear hx278_3
        try clear hx278_4
        try clear p2
        try clear p274
        try clear p275
        try clear p276
        try clear p277
        try clear p278
        try clear q274
        try clear q275
        try clear q276
        try clear q277
        try clear q278
        obtain ⟨x4_3, rfl, HA, HK3, ⟨m3, rfl⟩⟩ := hrel
        cases gk with
        | zero => exact absurd HA.1 (by simp [estoversref19_Check.l1])
        | succ k3 =>
         have H := HA.1
         clear HA
         simp only [estoversref19_Check.l1] at H
         by_cases c16 : x4_3 < (l0.length : Int)
         ·rw [if_pos c16] at H
          have c16b0 : decide (x4_3 < (l0.length : Int)) = true := decide_eq_true c16
          clear c16
          by_cases c17 : 0 ≤ x4_3
          ·rw [if_pos c17] at H
           have c17b0 : decide (0 ≤ x4_3) = true := decide_eq_true c17
           clear c17
           replace H := Option.bind_eq_some_iff.mp H
           obtain ⟨t280, A180, H⟩ := H
           replace H : (if t280 = true then ((estoversref19_in.f ((rd_T59 l0 x4_3).f2)).bind fun t282 => (if t282 = true then ((estoversref19_in.f ((rd_T59 l0 x4_3).f3)).bind fun t284 => (if t284 = true then ((estoversref19_in.f ((rd_T59 l0 x4_3).f4)).bind fun t286 => (if t286 = true then (estoversref19_Check.l1 k3 l0 (wrap64 (x4_3 + 1))) else (some 2))) else (some 2))) else (some 2))) else (some 2)) = some r := H
           have A18 := zM A180
           clear A180
           by_cases c19 : t280 = true
           ·subst c19
            have H1 : ((estoversref19_in.f ((rd_T59 l0 x4_3).f2)).bind fun t282 => (if t282 = true then ((estoversref19_in.f ((rd_T59 l0 x4_3).f3)).bind fun t284 => (if t284 = true then ((estoversref19_in.f ((rd_T59 l0 x4_3).f4)).bind fun t286 => (if t286 = true then (estoversref19_Check.l1 k3 l0 (wrap64 (x4_3 + 1))) else (some 2))) else (some 2))) else (some 2))) = some r := by rw [if_pos rfl] at H; exact H
            clear H
            have H := H1
            clear H1
            replace H := Option.bind_eq_some_iff.mp H
            obtain ⟨t282, A200, H⟩ := H
            replace H : (if t282 = true then ((estoversref19_in.f ((rd_T59 l0 x4_3).f3)).bind fun t284 => (if t284 = true then ((estoversref19_in.f ((rd_T59 l0 x4_3).f4)).bind fun t286 => (if t286 = true then (estoversref19_Check.l1 k3 l0 (wrap64 (x4_3 + 1))) else (some 2))) else (some 2))) else (some 2)) = some r := H
            have A20 := zM A200
            clear A200
            by_cases c21 : t282 = true
            ·subst c21
             have H1 : ((estoversref19_in.f ((rd_T59 l0 x4_3).f3)).bind fun t284 => (if t284 = true then ((estoversref19_in.f ((rd_T59 l0 x4_3).f4)).bind fun t286 => (if t286 = true then (estoversref19_Check.l1 k3 l0 (wrap64 (x4_3 + 1))) else (some 2))) else (some 2))) = some r := by rw [if_pos rfl] at H; exact H
             clear H
             have H := H1
             clear H1
             replace H := Option.bind_eq_some_iff.mp H
             obtain ⟨t284, A220, H⟩ := H
             replace H : (if t284 = true then ((estoversref19_in.f ((rd_T59 l0 x4_3).f4)).bind fun t286 => (if t286 = true then (estoversref19_Check.l1 k3 l0 (wrap64 (x4_3 + 1))) else (some 2))) else (some 2)) = some r := H
             have A22 := zM A220
             clear A220
             by_cases c23 : t284 = true
             ·subst c23
              have H1 : ((estoversref19_in.f ((rd_T59 l0 x4_3).f4)).bind fun t286 => (if t286 = true then (estoversref19_Check.l1 k3 l0 (wrap64 (x4_3 + 1))) else (some 2))) = some r := by rw [if_pos rfl] at H; exact H
              clear H
              have H := H1
              clear H1
              replace H := Option.bind_eq_some_iff.mp H
              obtain ⟨t286, A240, H⟩ := H
              replace H : (if t286 = true then (estoversref19_Check.l1 k3 l0 (wrap64 (x4_3 + 1))) else (some 2)) = some r := H
              have A24 := zM A240
              clear A240
              by_cases c25 : t286 = true
              ·subst c25
               have H1 : (estoversref19_Check.l1 k3 l0 (wrap64 (x4_3 + 1))) = some r := by rw [if_pos rfl] at H; exact H
               clear H
               have H := H1
               clear H1
               have H' := zM H
               clear H
               have p279 : 0 ≤ (x4_3 : Int) := zo (by first | (with_reducible assumption) | assumption)
               have q279 : x4_3 < (l0.length : Int) := zo (by first | (with_reducible assumption) | assumption)
               obtain ⟨ad279, e279, hx279_0, hx279_1, hx279_2, hx279_3, hx279_4⟩ := at_T59 HR0.1 x4_3 p279 q279
               cases e279
               replace p279 := eq_true p279
               replace q279 := eq_true q279
               go_wp2_with (first | (go_at_call 63; (with_reducible refine (estoversref19_in.calls ((rd_T59 l0 x4_3).f1) true _ A18.1).mono ?_); rintro e w' ⟨rfl, ⟨nd, rfl⟩⟩; (try first | exact ⟨rfl, _, zw _ _ _⟩ | exact ⟨rfl, _, Eq.trans (zw _ _ _) (congrArg (World.drewN _) (Nat.add_assoc _ _ _))⟩); have p281 : 0 ≤ (x4_3 : Int) := zo (by first | (with_reducible assumption) | assumption); have q281 : x4_3 < (l0.length : Int) := zo (by first | (with_reducible assumption) | assumption); obtain ⟨ad281, e281, hx281_0, hx281_1, hx281_2, hx281_3, hx281_4⟩ := at_T59 HR0.1 x4_3 p281 q281; obtain rfl : ad279 = ad281 := (by injection e281); replace p281 := eq_true p281; replace q281 := eq_true q281) | (go_at_call 63; (with_reducible refine (estoversref19_in.calls ((rd_T59 l0 x4_3).f2) true _ A20.1).mono ?_); rintro e w' ⟨rfl, ⟨nd, rfl⟩⟩; (try first | exact ⟨rfl, _, zw _ _ _⟩ | exact ⟨rfl, _, Eq.trans (zw _ _ _) (congrArg (World.drewN _) (Nat.add_assoc _ _ _))⟩); have p283 : 0 ≤ (x4_3 : Int) := zo (by first | (with_reducible assumption) | assumption); have q283 : x4_3 < (l0.length : Int) := zo (by first | (with_reducible assumption) | assumption); obtain ⟨ad283, e283, hx283_0, hx283_1, hx283_2, hx283_3, hx283_4⟩ := at_T59 HR0.1 x4_3 p283 q283; obtain rfl : ad279 = ad283 := (by injection e283); replace p283 := eq_true p283; replace q283 := eq_true q283) | (go_at_call 63; (with_reducible refine (estoversref19_in.calls ((rd_T59 l0 x4_3).f3) true _ A22.1).mono ?_); rintro e w' ⟨rfl, ⟨nd, rfl⟩⟩; (try first | exact ⟨rfl, _, zw _ _ _⟩ | exact ⟨rfl, _, Eq.trans (zw _ _ _) (congrArg (World.drewN _) (Nat.add_assoc _ _ _))⟩); have p285 : 0 ≤ (x4_3 : Int) := zo (by first | (with_reducible assumption) | assumption); have q285 : x4_3 < (l0.length : Int) := zo (by first | (with_reducible assumption) | assumption); obtain ⟨ad285, e285, hx285_0, hx285_1, hx285_2, hx285_3, hx285_4⟩ := at_T59 HR0.1 x4_3 p285 q285; obtain rfl : ad279 = ad285 := (by injection e285); replace p285 := eq_true p285; replace q285 := eq_true q285) | (go_at_call 63; (with_reducible refine (estoversref19_in.calls ((rd_T59 l0 x4_3).f4) true _ A24.1).mono ?_); rintro e w' ⟨rfl, ⟨nd, rfl⟩⟩; (try first | exact ⟨rfl, _, zw _ _ _⟩ | exact ⟨rfl, _, Eq.trans (zw _ _ _) (congrArg (World.drewN _) (Nat.add_assoc _ _ _))⟩)))
               go_roundg k3
               case measure => have := HJ1.1; have := HK2.1; have := HK3.1; omega
               case rel => exact ⟨(wrap64 (x4_3 + 1)), (by first | rfl | (simp; done) | (simp [*]; done)), H', ⟨by have := HJ1.1; have := HK2.1; have := HK3.1; omega⟩, by repeat (first | exact Drawn0.refl _ | apply Drawn0.step)⟩
              ·replace c25 := Bool.eq_false_iff.mpr c25
               subst c25
               have H1 : (some 2) = some r := by rw [if_neg (show ¬ (false = true) by decide)] at H; exact H
               clear H
               have H := H1
               clear H1
               obtain rfl := Option.some.inj H
               have p279 : 0 ≤ (x4_3 : Int) := zo (by first | (with_reducible assumption) | assumption)
               have q279 : x4_3 < (l0.length : Int) := zo (by first | (with_reducible assumption) | assumption)
               obtain ⟨ad279, e279, hx279_0, hx279_1, hx279_2, hx279_3, hx279_4⟩ := at_T59 HR0.1 x4_3 p279 q279
               cases e279
               replace p279 := eq_true p279
               replace q279 := eq_true q279
               go_wp2_with (first | (go_at_call 63; (with_reducible refine (estoversref19_in.calls ((rd_T59 l0 x4_3).f1) true _ A18.1).mono ?_); rintro e w' ⟨rfl, ⟨nd, rfl⟩⟩; (try first | exact ⟨rfl, _, zw _ _ _⟩ | exact ⟨rfl, _, Eq.trans (zw _ _ _) (congrArg (World.drewN _) (Nat.add_assoc _ _ _))⟩); have p281 : 0 ≤ (x4_3 : Int) := zo (by first | (with_reducible assumption) | assumption); have q281 : x4_3 < (l0.length : Int) := zo (by first | (with_reducible assumption) | assumption); obtain ⟨ad281, e281, hx281_0, hx281_1, hx281_2, hx281_3, hx281_4⟩ := at_T59 HR0.1 x4_3 p281 q281; obtain rfl : ad279 = ad281 := (by injection e281); replace p281 := eq_true p281; replace q281 := eq_true q281) | (go_at_call 63; (with_reducible refine (estoversref19_in.calls ((rd_T59 l0 x4_3).f2) true _ A20.1).mono ?_); rintro e w' ⟨rfl, ⟨nd, rfl⟩⟩; (try first | exact ⟨rfl, _, zw _ _ _⟩ | exact ⟨rfl, _, Eq.trans (zw _ _ _) (congrArg (World.drewN _) (Nat.add_assoc _ _ _))⟩); have p283 : 0 ≤ (x4_3 : Int) := zo (by first | (with_reducible assumption) | assumption); have q283 : x4_3 < (l0.length : Int) := zo (by first | (with_reducible assumption) | assumption); obtain ⟨ad283, e283, hx283_0, hx283_1, hx283_2, hx283_3, hx283_4⟩ := at_T59 HR0.1 x4_3 p283 q283; obtain rfl : ad279 = ad283 := (by injection e283); replace p283 := eq_true p283; replace q283 := eq_true q283) | (go_at_call 63; (with_reducible refine (estoversref19_in.calls ((rd_T59 l0 x4_3).f3) true _ A22.1).mono ?_); rintro e w' ⟨rfl, ⟨nd, rfl⟩⟩; (try first | exact ⟨rfl, _, zw _ _ _⟩ | exact ⟨rfl, _, Eq.trans (zw _ _ _) (congrArg (World.drewN _) (Nat.add_assoc _ _ _))⟩); have p285 : 0 ≤ (x4_3 : Int) := zo (by first | (with_reducible assumption) | assumption); have q285 : x4_3 < (l0.length : Int) := zo (by first | (with_reducible assumption) | assumption); obtain ⟨ad285, e285, hx285_0, hx285_1, hx285_2, hx285_3, hx285_4⟩ := at_T59 HR0.1 x4_3 p285 q285; obtain rfl : ad279 = ad285 := (by injection e285); replace p285 := eq_true p285; replace q285 := eq_true q285) | (go_at_call 63; (with_reducible refine (estoversref19_in.calls ((rd_T59 l0 x4_3).f4) false _ A24.1).mono ?_); rintro e w' ⟨rfl, ⟨nd, rfl⟩⟩; (try first | exact ⟨rfl, _, zw _ _ _⟩ | exact ⟨rfl, _, Eq.trans (zw _ _ _) (congrArg (World.drewN _) (Nat.add_assoc _ _ _))⟩)))
               go_ret
               exact ⟨by first | rfl | (simp; done) | (simp [*]; done), by repeat (first | exact Drawn0.refl _ | apply Drawn0.step)⟩
             ·replace c23 := Bool.eq_false_iff.mpr c23
              subst c23
              have H1 : (some 2) = some r := by rw [if_neg (show ¬ (false = true) by decide)] at H; exact H
              clear H
              have H := H1
              clear H1
              obtain rfl := Option.some.inj H
              have p279 : 0 ≤ (x4_3 : Int) := zo (by first | (with_reducible assumption) | assumption)
              have q279 : x4_3 < (l0.length : Int) := zo (by first | (with_reducible assumption) | assumption)
              obtain ⟨ad279, e279, hx279_0, hx279_1, hx279_2, hx279_3, hx279_4⟩ := at_T59 HR0.1 x4_3 p279 q279
              cases e279
              replace p279 := eq_true p279
              replace q279 := eq_true q279
              go_wp2_with (first | (go_at_call 63; (with_reducible refine (estoversref19_in.calls ((rd_T59 l0 x4_3).f1) true _ A18.1).mono ?_); rintro e w' ⟨rfl, ⟨nd, rfl⟩⟩; (try first | exact ⟨rfl, _, zw _ _ _⟩ | exact ⟨rfl, _, Eq.trans (zw _ _ _) (congrArg (World.drewN _) (Nat.add_assoc _ _ _))⟩); have p281 : 0 ≤ (x4_3 : Int) := zo (by first | (with_reducible assumption) | assumption); have q281 : x4_3 < (l0.length : Int) := zo (by first | (with_reducible assumption) | assumption); obtain ⟨ad281, e281, hx281_0, hx281_1, hx281_2, hx281_3, hx281_4⟩ := at_T59 HR0.1 x4_3 p281 q281; obtain rfl : ad279 = ad281 := (by injection e281); replace p281 := eq_true p281; replace q281 := eq_true q281) | (go_at_call 63; (with_reducible refine (estoversref19_in.calls ((rd_T59 l0 x4_3).f2) true _ A20.1).mono ?_); rintro e w' ⟨rfl, ⟨nd, rfl⟩⟩; (try first | exact ⟨rfl, _, zw _ _ _⟩ | exact ⟨rfl, _, Eq.trans (zw _ _ _) (congrArg (World.drewN _) (Nat.add_assoc _ _ _))⟩); have p283 : 0 ≤ (x4_3 : Int) := zo (by first | (with_reducible assumption) | assumption); have q283 : x4_3 < (l0.length : Int) := zo (by first | (with_reducible assumption) | assumption); obtain ⟨ad283, e283, hx283_0, hx283_1, hx283_2, hx283_3, hx283_4⟩ := at_T59 HR0.1 x4_3 p283 q283; obtain rfl : ad279 = ad283 := (by injection e283); replace p283 := eq_true p283; replace q283 := eq_true q283) | (go_at_call 63; (with_reducible refine (estoversref19_in.calls ((rd_T59 l0 x4_3).f3) false _ A22.1).mono ?_); rintro e w' ⟨rfl, ⟨nd, rfl⟩⟩; (try first | exact ⟨rfl, _, zw _ _ _⟩ | exact ⟨rfl, _, Eq.trans (zw _ _ _) (congrArg (World.drewN _) (Nat.add_assoc _ _ _))⟩)))
              go_ret
              exact ⟨by first | rfl | (simp; done) | (simp [*]; done), by repeat (first | exact Drawn0.refl _ | apply Drawn0.step)⟩
            ·replace c21 := Bool.eq_false_iff.mpr c21
             subst c21
             have H1 : (some 2) = some r := by rw [if_neg (show ¬ (false = true) by decide)] at H; exact H
             clear H
             have H := H1
             clear H1
             obtain rfl := Option.some.inj H
             have p279 : 0 ≤ (x4_3 : Int) := zo (by first | (with_reducible assumption) | assumption)
             have q279 : x4_3 < (l0.length : Int) := zo (by first | (with_reducible assumption) | assumption)
             obtain ⟨ad279, e279, hx279_0, hx279_1, hx279_2, hx279_3, hx279_4⟩ := at_T59 HR0.1 x4_3 p279 q279
             cases e279
             replace p279 := eq_true p279
             replace q279 := eq_true q279
             go_wp2_with (first | (go_at_call 63; (with_reducible refine (estoversref19_in.calls ((rd_T59 l0 x4_3).f1) true _ A18.1).mono ?_); rintro e w' ⟨rfl, ⟨nd, rfl⟩⟩; (try first | exact ⟨rfl, _, zw _ _ _⟩ | exact ⟨rfl, _, Eq.trans (zw _ _ _) (congrArg (World.drewN _) (Nat.add_assoc _ _ _))⟩); have p281 : 0 ≤ (x4_3 : Int) := zo (by first | (with_reducible assumption) | assumption); have q281 : x4_3 < (l0.length : Int) := zo (by first | (with_reducible assumption) | assumption); obtain ⟨ad281, e281, hx281_0, hx281_1, hx281_2, hx281_3, hx281_4⟩ := at_T59 HR0.1 x4_3 p281 q281; obtain rfl : ad279 = ad281 := (by injection e281); replace p281 := eq_true p281; replace q281 := eq_true q281) | (go_at_call 63; (with_reducible refine (estoversref19_in.calls ((rd_T59 l0 x4_3).f2) false _ A20.1).mono ?_); rintro e w' ⟨rfl, ⟨nd, rfl⟩⟩; (try first | exact ⟨rfl, _, zw _ _ _⟩ | exact ⟨rfl, _, Eq.trans (zw _ _ _) (congrArg (World.drewN _) (Nat.add_assoc _ _ _))⟩)))
             go_ret
             exact ⟨by first | rfl | (simp; done) | (simp [*]; done), by repeat (first | exact Drawn0.refl _ | apply Drawn0.step)⟩
           ·replace c19 := Bool.eq_false_iff.mpr c19
            subst c19
            have H1 : (some 2) = some r := by rw [if_neg (show ¬ (false = true) by decide)] at H; exact H
            clear H
            have H := H1
            clear H1
            obtain rfl := Option.some.inj H
            have p279 : 0 ≤ (x4_3 : Int) := zo (by first | (with_reducible assumption) | assumption)
            have q279 : x4_3 < (l0.length : Int) := zo (by first | (with_reducible assumption) | assumption)
            obtain ⟨ad279, e279, hx279_0, hx279_1, hx279_2, hx279_3, hx279_4⟩ := at_T59 HR0.1 x4_3 p279 q279
            cases e279
            replace p279 := eq_true p279
            replace q279 := eq_true q279
            go_wp2_with (first | (go_at_call 63; (with_reducible refine (estoversref19_in.calls ((rd_T59 l0 x4_3).f1) false _ A18.1).mono ?_); rintro e w' ⟨rfl, ⟨nd, rfl⟩⟩; (try first | exact ⟨rfl, _, zw _ _ _⟩ | exact ⟨rfl, _, Eq.trans (zw _ _ _) (congrArg (World.drewN _) (Nat.add_assoc _ _ _))⟩)))
            repeat (go_quiet (first | (go_at_call 63; (with_reducible refine (estoversref19_in.calls ((rd_T59 l0 x4_3).f1) false _ A18.1).mono ?_); rintro e w' ⟨rfl, ⟨nd, rfl⟩⟩; (try first | exact ⟨rfl, _, zw _ _ _⟩ | exact ⟨rfl, _, Eq.trans (zw _ _ _) (congrArg (World.drewN _) (Nat.add_assoc _ _ _))⟩))); try go_wp2_with (first | (go_at_call 63; (with_reducible refine (estoversref19_in.calls ((rd_T59 l0 x4_3).f1) false _ A18.1).mono ?_); rintro e w' ⟨rfl, ⟨nd, rfl⟩⟩; (try first | exact ⟨rfl, _, zw _ _ _⟩ | exact ⟨rfl, _, Eq.trans (zw _ _ _) (congrArg (World.drewN _) (Nat.add_assoc _ _ _))⟩))))
            go_ret
            exact ⟨by first | rfl | (simp; done) | (simp [*]; done), by repeat (first | exact Drawn0.refl _ | apply Drawn0.step)⟩
          ·rw [if_neg c17] at H
           exact absurd H (by simp)
         ·rw [if_neg c16] at H
          have c16b0 : decide (x4_3 < (l0.length : Int)) = false := decide_eq_false c16
          clear c16
          have HC26 := zM H
          clear H
          go_upto_region 13 with (fail)
          repeat (go_quiet (fail); go_upto_region 13 with (fail))
          go_cut [103] (fun v103 wc => ∃ (kq : Nat) (x103_25 : Bool), v103 = .bool x103_25 ∧ Aside0 (estoversref19_Check.j3 kq l0 x103_25 = some r) ∧ Aside0 (kq ≤ k3) ∧ Drawn0 w wc)
          case first =>
           have H := HC26.1
           clear HC26
           by_cases c27 : 0 < (l0.length : Int)
           ·rw [if_pos c27] at H
            have c27b0 : decide (0 < (l0.length : Int)) = true := decide_eq_true c27
            have c27b1 : decide (0 < l0.length) = true := decide_eq_true (by omega)
            clear c27
            (first | rw [c27b0] | (simp only [i64_w, i32_w]; rw [c27b0]) | skip)
            by_cases c28 : ((rd_T59 l0 0).f2) = 0
            ·rw [if_pos c28] at H
             have c28b0 : (((rd_T59 l0 0).f2) == 0) = true := beq_iff_eq.mpr c28
             have c28b1 : (((rd_T59 l0 0).f2) != 0) = false := bne_eq_false_iff_eq.mpr c28
             clear c28
             have H' := zM H
             clear H
             have p287 : 0 ≤ (0 : Int) := (by omega)
             have q287 : 0 < (l0.length : Int) := zo (by first | (with_reducible assumption) | assumption)
             obtain ⟨ad287, e287, hx287_0, hx287_1, hx287_2, hx287_3, hx287_4⟩ := at_T59 HR0.1 0 p287 q287
             cases e287
             have qi287 : (0 < l0.length) = True := eq_true (by omega)
             (try rw [show ((0 : Int)).toNat = 0 from rfl] at hx287_0)
             (try rw [show 0 * 5 = 0 from rfl] at hx287_0)
             (try rw [Addr.add_zero'] at hx287_0)
             (try rw [show ((0 : Int)).toNat = 0 from rfl] at hx287_1)
             (try rw [show 0 * 5 = 0 from rfl] at hx287_1)
             (try rw [Addr.add_zero'] at hx287_1)
             (try rw [show ((0 : Int)).toNat = 0 from rfl] at hx287_2)
             (try rw [show 0 * 5 = 0 from rfl] at hx287_2)
             (try rw [Addr.add_zero'] at hx287_2)
             (try rw [show ((0 : Int)).toNat = 0 from rfl] at hx287_3)
             (try rw [show 0 * 5 = 0 from rfl] at hx287_3)
             (try rw [Addr.add_zero'] at hx287_3)
             (try rw [show ((0 : Int)).toNat = 0 from rfl] at hx287_4)
             (try rw [show 0 * 5 = 0 from rfl] at hx287_4)
             (try rw [Addr.add_zero'] at hx287_4)
             replace p287 := eq_true p287
             replace q287 := eq_true q287
             have p288 : 0 ≤ (0 : Int) := (by omega)
             have q288 : 0 < (l0.length : Int) := zo (by first | (with_reducible assumption) | assumption)
             obtain ⟨ad288, e288, hx288_0, hx288_1, hx288_2, hx288_3, hx288_4⟩ := at_T59 HR0.1 0 p288 q288
             obtain rfl : ad287 = ad288 := (by injection e288)
             have qi288 : (0 < l0.length) = True := eq_true (by omega)
             (try rw [show ((0 : Int)).toNat = 0 from rfl] at hx288_0)
             (try rw [show 0 * 5 = 0 from rfl] at hx288_0)
             (try rw [Addr.add_zero'] at hx288_0)
             (try rw [show ((0 : Int)).toNat = 0 from rfl] at hx288_1)
             (try rw [show 0 * 5 = 0 from rfl] at hx288_1)
             (try rw [Addr.add_zero'] at hx288_1)
             (try rw [show ((0 : Int)).toNat = 0 from rfl] at hx288_2)
             (try rw [show 0 * 5 = 0 from rfl] at hx288_2)
             (try rw [Addr.add_zero'] at hx288_2)
             (try rw [show ((0 : Int)).toNat = 0 from rfl] at hx288_3)
             (try rw [show 0 * 5 = 0 from rfl] at hx288_3)
             (try rw [Addr.add_zero'] at hx288_3)
             (try rw [show ((0 : Int)).toNat = 0 from rfl] at hx288_4)
             (try rw [show 0 * 5 = 0 from rfl] at hx288_4)
             (try rw [Addr.add_zero'] at hx288_4)
             replace p288 := eq_true p288
             replace q288 := eq_true q288
             go_wp2
             repeat (go_quiet (fail); try go_wp2)
             go_meet
             case rel => exact ⟨_, ((((rd_T59 l0 0).f3) != 0)), (by first | rfl | (simp; done) | (simp [*]; done)), H', ⟨by have := HJ1.1; have := HK2.1; have := HK3.1; first | omega | exact Nat.le_refl _⟩, by repeat (first | exact Drawn0.refl _ | apply Drawn0.step)⟩
            ·rw [if_neg c28] at H
             have c28b0 : (((rd_T59 l0 0).f2) == 0) = false := beq_eq_false_iff_ne.mpr c28
             have c28b1 : (((rd_T59 l0 0).f2) != 0) = true := bne_iff_ne.mpr c28
             have H' := zM H
             clear H
             have p287 : 0 ≤ (0 : Int) := (by omega)
             have q287 : 0 < (l0.length : Int) := zo (by first | (with_reducible assumption) | assumption)
             obtain ⟨ad287, e287, hx287_0, hx287_1, hx287_2, hx287_3, hx287_4⟩ := at_T59 HR0.1 0 p287 q287
             cases e287
             have qi287 : (0 < l0.length) = True := eq_true (by omega)
             (try rw [show ((0 : Int)).toNat = 0 from rfl] at hx287_0)
             (try rw [show 0 * 5 = 0 from rfl] at hx287_0)
             (try rw [Addr.add_zero'] at hx287_0)
             (try rw [show ((0 : Int)).toNat = 0 from rfl] at hx287_1)
             (try rw [show 0 * 5 = 0 from rfl] at hx287_1)
             (try rw [Addr.add_zero'] at hx287_1)
             (try rw [show ((0 : Int)).toNat = 0 from rfl] at hx287_2)
             (try rw [show 0 * 5 = 0 from rfl] at hx287_2)
             (try rw [Addr.add_zero'] at hx287_2)
             (try rw [show ((0 : Int)).toNat = 0 from rfl] at hx287_3)
             (try rw [show 0 * 5 = 0 from rfl] at hx287_3)
             (try rw [Addr.add_zero'] at hx287_3)
             (try rw [show ((0 : Int)).toNat = 0 from rfl] at hx287_4)
             (try rw [show 0 * 5 = 0 from rfl] at hx287_4)
             (try rw [Addr.add_zero'] at hx287_4)
             replace p287 := eq_true p287
             replace q287 := eq_true q287
             go_wp2
             repeat (go_quiet (fail); try go_wp2)
             go_meet
             case rel => exact ⟨_, (true), (by first | rfl | (simp; done) | (simp [*]; done)), H', ⟨by have := HJ1.1; have := HK2.1; have := HK3.1; first | omega | exact Nat.le_refl _⟩, by repeat (first | exact Drawn0.refl _ | apply Drawn0.step)⟩
           ·rw [if_neg c27] at H
            exact absurd H (by simp)
          case rest =>
           clear HC26
           try clear c1
           try clear c2
           try clear p2
           try clear q2
           try clear hx2
           try clear qi2
           try clear c3
           try clear c3b0
           try clear c3b1
           try clear c4
           try clear c5
           try clear c5b0
           try clear c6
           try clear c6b0
           try clear c6b1
           try clear p6
           try clear c7
           try clear c7b0
           try clear c8
           try clear c8b0
           try clear c8b1
           try clear c9
           try clear c9b0
           try clear c10
           try clear c10b0
           try clear c11
           try clear c11b0
           try clear c12
           try clear c12b0
           try clear c13
           try clear c13b0
           try clear c14
           try clear c14b0
           try clear c15
           try clear c15b0
           try clear c16
           try clear c16b0
           try clear c17
           try clear c17b0
           try clear c19
           try clear c21
           try clear c23
           try clear c25
           try clear c27
           try clear c27b0
           try clear c27b1
           try clear p27
           try clear q27
           try clear hx27
           try clear c28
           try clear c28b0
           try clear c28b1
           try clear p28
           try clear q28
           try clear hx28
           try clear qi28
           try clear hx274_0
           try clear hx274_1
           try clear hx274_2
           try clear hx274_3
           try clear hx274_4
           try clear hx275_0
           try clear hx275_1
           try clear hx275_2
           try clear hx275_3
           try clear hx275_4
           try clear hx276_0
           try clear hx276_1
           try clear hx276_2
           try clear hx276_3
           try clear hx276_4
           try clear hx277_0
           try clear hx277_1
           try clear hx277_2
           try clear hx277_3
           try clear hx277_4
           try clear hx278_0
           try clear hx278_1
           try clear hx278_2
           try clear hx278_3
           try clear hx278_4
           try clear hx279_0
           try clear hx279_1
           try clear hx279_2
           try clear hx279_3
           try clear hx279_4
           try clear hx281_0
           try clear hx281_1
           try clear hx281_2
           try clear hx281_3
           try clear hx281_4
           try clear hx283_0
           try clear hx283_1
           try clear hx283_2
           try clear hx283_3
           try clear hx283_4
           try clear hx285_0
           try clear hx285_1
           try clear hx285_2
           try clear hx285_3
           try clear hx285_4
           try clear hx287_0
           try clear hx287_1
           try clear hx287_2
           try clear hx287_3
           try clear hx287_4
           try clear hx288_0
           try clear hx288_1
           try clear hx288_2
           try clear hx288_3
           try clear hx288_4
           try clear p2
           try clear p274
           try clear p275
           try clear p276
           try clear p277
           try clear p278
           try clear p279
           try clear p281
           try clear p283
           try clear p285
           try clear p287
           try clear p288
           try clear p6
           try clear q2
           try clear q274
           try clear q275
           try clear q276
           try clear q277
           try clear q278
           try clear q279
           try clear q281
           try clear q283
           try clear q285
           try clear q287
           try clear q288
           obtain ⟨kq, x103_25, rfl, HA, HJ25, ⟨mc25, rfl⟩⟩ := hcut
           cases kq with
           | zero => exact absurd HA.1 (by simp [estoversref19_Check.j3])
           | succ kj25 =>
            have H := HA.1
            clear HA
            simp only [estoversref19_Check.j3] at H
            by_cases c29 : x103_25 = true
            ·subst c29
             have H1 : (some 2) = some r := by rw [if_pos rfl] at H; exact H
             clear H
             have H := H1
             clear H1
             obtain rfl := Option.some.inj H
             go_wp2
             repeat (go_quiet (fail); try go_wp2)
             go_ret
             exact ⟨by first | rfl | (simp; done) | (simp [*]; done), by repeat (first | exact Drawn0.refl _ | apply Drawn0.step)⟩
            ·replace c29 := Bool.eq_false_iff.mpr c29
             subst c29
             have H1 : (estoversref19_Check.l2 kj25 l0 0) = some r := by rw [if_neg (show ¬ (false = true) by decide)] at H; exact H
             clear H
             have H := H1
             clear H1
             have H' := zM H
             clear H
             go_wp2
             repeat (go_quiet (fail); try go_wp2)
             go_loopg [5] kj25 (fun kq v5 w' => ∃ (x5_5 : Int), v5 = .int .i64 x5_5 ∧ Aside0 (estoversref19_Check.l2 kq l0 x5_5 = some r) ∧ Aside0 (kq ≤ kj25) ∧ Drawn0 w w')
             case atStart => exact ⟨(0), (by first | rfl | (simp; done) | (simp [*]; done)), H', ⟨Nat.le_refl _⟩, by repeat (first | exact Drawn0.refl _ | apply Drawn0.step)⟩
             case round =>
              clear H'
              try clear c1
              try clear c2
              try clear p2
              try clear q2
              try clear hx2
              try clear qi2
              try clear c3
              try clear c3b0
              try clear c3b1
              try clear c4
              try clear c5
              try clear c5b0
              try clear c6
              try clear c6b0
              try clear c6b1
              try clear p6
              try clear c7
              try clear c7b0
              try clear c8
              try clear c8b0
              try clear c8b1
              try clear c9
              try clear c9b0
              try clear c10
              try clear c10b0
              try clear c11
              try clear c11b0
              try clear c12
              try clear c12b0
              try clear c13
              try clear c13b0
              try clear c14
              try clear c14b0
              try clear c15
              try clear c15b0
              try clear c16
              try clear c16b0
              try clear c17
              try clear c17b0
              try clear c19
              try clear c21
              try clear c23
              try clear c25
              try clear c27
              try clear c27b0
              try clear c27b1
              try clear p27
              try clear q27
              try clear hx27
              try clear c28
              try clear c28b0
              try clear c28b1
              try clear p28
              try clear q28
              try clear hx28
              try clear qi28
              try clear c29
              try clear hx274_0
              try clear hx274_1
              try clear hx274_2
              try clear hx274_3
              try clear hx274_4
              try clear hx275_0
              try clear hx275_1
              try clear hx275_2
              try clear hx275_3
              try clear hx275_4
              try clear hx276_0
              try clear hx276_1
              try clear hx276_2
              try clear hx276_3
              try clear hx276_4
              try clear hx277_0
              try clear hx277_1
              try clear hx277_2
              try clear hx277_3
              try clear hx277_4
              try clear hx278_0
              try clear hx278_1
              try clear hx278_2
              try clear hx278_3
              try clear hx278_4
              try clear hx279_0
              try clear hx279_1
              try clear hx279_2
              try clear hx279_3
              try clear hx279_4
              try clear hx281_0
              try clear hx281_1
              try clear hx281_2
              try clear hx281_3
              try clear hx281_4
              try clear hx283_0
              try clear hx283_1
              try clear hx283_2
              try clear hx283_3
              try clear hx283_4
              try clear hx285_0
              try clear hx285_1
              try clear hx285_2
              try clear hx285_3
              try clear hx285_4
              try clear hx287_0
              try clear hx287_1
              try clear hx287_2
              try clear hx287_3
              try clear hx287_4
              try clear hx288_0
              try clear hx288_1
              try clear hx288_2
              try clear hx288_3
              try clear hx288_4
              try clear p2
              try clear p27
              try clear p274
              try clear p275
              try clear p276
              try clear p277
              try clear p278
              try clear p279
              try clear p28
              try clear p281
              try clear p283
              try clear p285
              try clear p287
              try clear p288
              try clear p6
              try clear q2
              try clear q27
              try clear q274
              try clear q275
              try clear q276
              try clear q277
              try clear q278
              try clear q279
              try clear q28
              try clear q281
              try clear q283
              try clear q285
              try clear q287
              try clear q288
              obtain ⟨x5_5, rfl, HA, HK5, ⟨m5, rfl⟩⟩ := hrel
              cases gk with
              | zero => exact absurd HA.1 (by simp [estoversref19_Check.l2])
              | succ k5 =>
               have H := HA.1
               clear HA
               simp only [estoversref19_Check.l2] at H
               by_cases c30 : x5_5 < (l0.length : Int)
               ·rw [if_pos c30] at H
                have c30b0 : decide (x5_5 < (l0.length : Int)) = true := decide_eq_true c30
                clear c30
                by_cases c31 : 0 ≤ x5_5
                ·rw [if_pos c31] at H
                 have c31b0 : decide (0 ≤ x5_5) = true := decide_eq_true c31
                 clear c31
                 by_cases c32 : ((rd_T59 l0 x5_5).f1) > ((rd_T59 l0 x5_5).f4)
                 ·rw [if_pos c32] at H
                  have c32b0 : decide (((rd_T59 l0 x5_5).f4) < ((rd_T59 l0 x5_5).f1)) = true := decide_eq_true c32
                  clear c32
                  obtain rfl := Option.some.inj H
                  have p289 : 0 ≤ (x5_5 : Int) := zo (by first | (with_reducible assumption) | assumption)
                  have q289 : x5_5 < (l0.length : Int) := zo (by first | (with_reducible assumption) | assumption)
                  obtain ⟨ad289, e289, hx289_0, hx289_1, hx289_2, hx289_3, hx289_4⟩ := at_T59 HR0.1 x5_5 p289 q289
                  cases e289
                  replace p289 := eq_true p289
                  replace q289 := eq_true q289
                  have p290 : 0 ≤ (x5_5 : Int) := zo (by first | (with_reducible assumption) | assumption)
                  have q290 : x5_5 < (l0.length : Int) := zo (by first | (with_reducible assumption) | assumption)
                  obtain ⟨ad290, e290, hx290_0, hx290_1, hx290_2, hx290_3, hx290_4⟩ := at_T59 HR0.1 x5_5 p290 q290
                  obtain rfl : ad289 = ad290 := (by injection e290)
                  replace p290 := eq_true p290
                  replace q290 := eq_true q290
                  go_wp2
                  repeat (go_quiet (fail); try go_wp2)
                  go_ret
                  exact ⟨by first | rfl | (simp; done) | (simp [*]; done), by repeat (first | exact Drawn0.refl _ | apply Drawn0.step)⟩
                 ·rw [if_neg c32] at H
                  have c32b0 : decide (((rd_T59 l0 x5_5).f4) < ((rd_T59 l0 x5_5).f1)) = false := decide_eq_false c32
                  clear c32
                  have H' := zM H
                  clear H
                  have p289 : 0 ≤ (x5_5 : Int) := zo (by first | (with_reducible assumption) | assumption)
                  have q289 : x5_5 < (l0.length : Int) := zo (by first | (with_reducible assumption) | assumption)
                  obtain ⟨ad289, e289, hx289_0, hx289_1, hx289_2, hx289_3, hx289_4⟩ := at_T59 HR0.1 x5_5 p289 q289
                  cases e289
                  replace p289 := eq_true p289
                  replace q289 := eq_true q289
                  have p290 : 0 ≤ (x5_5 : Int) := zo (by first | (with_reducible assumption) | assumption)
                  have q290 : x5_5 < (l0.length : Int) := zo (by first | (with_reducible assumption) | assumption)
                  obtain ⟨ad290, e290, hx290_0, hx290_1, hx290_2, hx290_3, hx290_4⟩ := at_T59 HR0.1 x5_5 p290 q290
                  obtain rfl : ad289 = ad290 := (by injection e290)
                  replace p290 := eq_true p290
                  replace q290 := eq_true q290
                  go_wp2
                  repeat (go_quiet (fail); try go_wp2)
                  go_roundg k5
                  case measure => have := HJ1.1; have := HK2.1; have := HK3.1; have := HJ25.1; have := HK5.1; omega
                  case rel => exact ⟨(wrap64 (x5_5 + 1)), (by first | rfl | (simp; done) | (simp [*]; done)), H', ⟨by have := HJ1.1; have := HK2.1; have := HK3.1; have := HJ25.1; have := HK5.1; omega⟩, by repeat (first | exact Drawn0.refl _ | apply Drawn0.step)⟩
                ·rw [if_neg c31] at H
                 exact absurd H (by simp)
               ·rw [if_neg c30] at H
                have c30b0 : decide (x5_5 < (l0.length : Int)) = false := decide_eq_false c30
                clear c30
                have H' := zM H
                clear H
                go_wp2
                repeat (go_quiet (fail); try go_wp2)
                go_loopg [6] k5 (fun kq v6 w' => ∃ (x6_6 : Int), v6 = .int .i64 x6_6 ∧ Aside0 (estoversref19_Check.l3 kq l0 x6_6 = some r) ∧ Aside0 (kq ≤ k5) ∧ Drawn0 w w')
                case atStart => exact ⟨(0), (by first | rfl | (simp; done) | (simp [*]; done)), H', ⟨Nat.le_refl _⟩, by repeat (first | exact Drawn0.refl _ | apply Drawn0.step)⟩
                case round =>
                 clear H'
                 try clear c1
                 try clear c2
                 try clear p2
                 try clear q2
                 try clear hx2
                 try clear qi2
                 try clear c3
                 try clear c3b0
                 try clear c3b1
                 try clear c4
                 try clear c5
                 try clear c5b0
                 try clear c6
                 try clear c6b0
                 try clear c6b1
                 try clear p6
                 try clear c7
                 try clear c7b0
                 try clear c8
                 try clear c8b0
                 try clear c8b1
                 try clear c9
                 try clear c9b0
                 try clear c10
                 try clear c10b0
                 try clear c11
                 try clear c11b0
                 try clear c12
                 try clear c12b0
                 try clear c13
                 try clear c13b0
                 try clear c14
                 try clear c14b0
                 try clear c15
                 try clear c15b0
                 try clear c16
                 try clear c16b0
                 try clear c17
                 try clear c17b0
                 try clear c19
                 try clear c21
                 try clear c23
                 try clear c25
                 try clear c27
                 try clear c27b0
                 try clear c27b1
                 try clear p27
                 try clear q27
                 try clear hx27
                 try clear c28
                 try clear c28b0
                 try clear c28b1
                 try clear p28
                 try clear q28
                 try clear hx28
                 try clear qi28
                 try clear c29
                 try clear p29
                 try clear q29
                 try clear hx29
                 try clear c30
                 try clear c30b0
                 try clear c31
                 try clear c31b0
                 try clear c32
                 try clear c32b0
                 try clear hx274_0
                 try clear hx274_1
                 try clear hx274_2
                 try clear hx274_3
                 try clear hx274_4
                 try clear hx275_0
                 try clear hx275_1
                 try clear hx275_2
                 try clear hx275_3
                 try clear hx275_4
                 try clear hx276_0
                 try clear hx276_1
                 try clear hx276_2
                 try clear hx276_3
                 try clear hx276_4
                 try clear hx277_0
                 try clear hx277_1
                 try clear hx277_2
                 try clear hx277_3
                 try clear hx277_4
                 try clear hx278_0
                 try clear hx278_1
                 try clear hx278_2
                 try clear hx278_3
                 try clear hx278_4
                 try clear hx279_0
                 try clear hx279_1
                 try clear hx279_2
                 try clear hx279_3
                 try clear hx279_4
                 try clear hx281_0
                 try clear hx281_1
                 try clear hx281_2
                 try clear hx281_3
                 try clear hx281_4
                 try clear hx283_0
                 try clear hx283_1
                 try clear hx283_2
                 try clear hx283_3
                 try clear hx283_4
                 try clear hx285_0
                 try clear hx285_1
                 try clear hx285_2
                 try clear hx285_3
                 try clear hx285_4
                 try clear hx287_0
                 try clear hx287_1
                 try clear hx287_2
                 try clear hx287_3
                 try clear hx287_4
                 try clear hx288_0
                 try clear hx288_1
                 try clear hx288_2
                 try clear hx288_3
                 try clear hx288_4
                 try clear hx289_0
                 try clear hx289_1
                 try clear hx289_2
                 try clear hx289_3
                 try clear hx289_4
                 try clear hx290_0
                 try clear hx290_1
                 try clear hx290_2
                 try clear hx290_3
                 try clear hx290_4
                 try clear p2
                 try clear p27
                 try clear p274
                 try clear p275
                 try clear p276
                 try clear p277
                 try clear p278
                 try clear p279
                 try clear p28
                 try clear p281
                 try clear p283
                 try clear p285
                 try clear p287
                 try clear p288
                 try clear p289
                 try clear p290
                 try clear p6
                 try clear q2
                 try clear q27
                 try clear q274
                 try clear q275
                 try clear q276
                 try clear q277
                 try clear q278
                 try clear q279
                 try clear q28
                 try clear q281
                 try clear q283
                 try clear q285
                 try clear q287
                 try clear q288
                 try clear q289
                 try clear q290
                 obtain ⟨x6_6, rfl, HA, HK6, ⟨m6, rfl⟩⟩ := hrel
                 cases gk with
                 | zero => exact absurd HA.1 (by simp [estoversref19_Check.l3])
                 | succ k6 =>
                  have H := HA.1
                  clear HA
                  simp only [estoversref19_Check.l3] at H
                  by_cases c33 : x6_6 < (l0.length : Int)
                  ·rw [if_pos c33] at H
                   have c33b0 : decide (x6_6 < (l0.length : Int)) = true := decide_eq_true c33
                   clear c33
                   by_cases c34 : 0 ≤ x6_6
                   ·rw [if_pos c34] at H
                    have c34b0 : decide (0 ≤ x6_6) = true := decide_eq_true c34
                    clear c34
                    replace H := Option.bind_eq_some_iff.mp H
                    obtain ⟨t292, A350, H⟩ := H
                    replace H : (if ((rd_T59 l0 x6_6).f1) < t292 then (some 11) else (estoversref19_Check.l3 k6 l0 (wrap64 (x6_6 + 1)))) = some r := H
                    have A35 := zM A350
                    clear A350
                    by_cases c36 : ((rd_T59 l0 x6_6).f1) < t292
                    ·rw [if_pos c36] at H
                     have c36b0 : decide (((rd_T59 l0 x6_6).f1) < t292) = true := decide_eq_true c36
                     clear c36
                     obtain rfl := Option.some.inj H
                     have p291 : 0 ≤ (x6_6 : Int) := zo (by first | (with_reducible assumption) | assumption)
                     have q291 : x6_6 < (l0.length : Int) := zo (by first | (with_reducible assumption) | assumption)
                     obtain ⟨ad291, e291, hx291_0, hx291_1, hx291_2, hx291_3, hx291_4⟩ := at_T59 HR0.1 x6_6 p291 q291
                     cases e291
                     replace p291 := eq_true p291
                     replace q291 := eq_true q291
                     go_wp2_with (first | (go_at_call 64; (with_reducible refine (estoversref19_kids.calls k6 _ _ l0 x6_6 t292 _ ?side1 ?side2 A35.1).mono ?_); (case side1 => repeat (first | exact HR0.1 | (with_reducible refine Kd.C_alloc ?_ _) | (with_reducible refine Kd.C_drewN ?_ _) | (with_reducible refine Kd.C_drew ?_))); (case side2 => exact HC0.1); rintro e w' ⟨rfl, ⟨nd, rfl⟩⟩; (try first | exact ⟨rfl, _, zw _ _ _⟩ | exact ⟨rfl, _, Eq.trans (zw _ _ _) (congrArg (World.drewN _) (Nat.add_assoc _ _ _))⟩)))
                     repeat (go_quiet (first | (go_at_call 64; (with_reducible refine (estoversref19_kids.calls k6 _ _ l0 x6_6 t292 _ ?side1 ?side2 A35.1).mono ?_); (case side1 => repeat (first | exact HR0.1 | (with_reducible refine Kd.C_alloc ?_ _) | (with_reducible refine Kd.C_drewN ?_ _) | (with_reducible refine Kd.C_drew ?_))); (case side2 => exact HC0.1); rintro e w' ⟨rfl, ⟨nd, rfl⟩⟩; (try first | exact ⟨rfl, _, zw _ _ _⟩ | exact ⟨rfl, _, Eq.trans (zw _ _ _) (congrArg (World.drewN _) (Nat.add_assoc _ _ _))⟩))); try go_wp2_with (first | (go_at_call 64; (with_reducible refine (estoversref19_kids.calls k6 _ _ l0 x6_6 t292 _ ?side1 ?side2 A35.1).mono ?_); (case side1 => repeat (first | exact HR0.1 | (with_reducible refine Kd.C_alloc ?_ _) | (with_reducible refine Kd.C_drewN ?_ _) | (with_reducible refine Kd.C_drew ?_))); (case side2 => exact HC0.1); rintro e w' ⟨rfl, ⟨nd, rfl⟩⟩; (try first | exact ⟨rfl, _, zw _ _ _⟩ | exact ⟨rfl, _, Eq.trans (zw _ _ _) (congrArg (World.drewN _) (Nat.add_assoc _ _ _))⟩))))
                     go_ret
                     exact ⟨by first | rfl | (simp; done) | (simp [*]; done), by repeat (first | exact Drawn0.refl _ | apply Drawn0.step)⟩
                    ·rw [if_neg c36] at H
                     have c36b0 : decide (((rd_T59 l0 x6_6).f1) < t292) = false := decide_eq_false c36
                     clear c36
                     have H' := zM H
                     clear H
                     have p291 : 0 ≤ (x6_6 : Int) := zo (by first | (with_reducible assumption) | assumption)
                     have q291 : x6_6 < (l0.length : Int) := zo (by first | (with_reducible assumption) | assumption)
                     obtain ⟨ad291, e291, hx291_0, hx291_1, hx291_2, hx291_3, hx291_4⟩ := at_T59 HR0.1 x6_6 p291 q291
                     cases e291
                     replace p291 := eq_true p291
                     replace q291 := eq_true q291
                     go_wp2_with (first | (go_at_call 64; (with_reducible refine (estoversref19_kids.calls k6 _ _ l0 x6_6 t292 _ ?side1 ?side2 A35.1).mono ?_); (case side1 => repeat (first | exact HR0.1 | (with_reducible refine Kd.C_alloc ?_ _) | (with_reducible refine Kd.C_drewN ?_ _) | (with_reducible refine Kd.C_drew ?_))); (case side2 => exact HC0.1); rintro e w' ⟨rfl, ⟨nd, rfl⟩⟩; (try first | exact ⟨rfl, _, zw _ _ _⟩ | exact ⟨rfl, _, Eq.trans (zw _ _ _) (congrArg (World.drewN _) (Nat.add_assoc _ _ _))⟩)))
                     repeat (go_quiet (first | (go_at_call 64; (with_reducible refine (estoversref19_kids.calls k6 _ _ l0 x6_6 t292 _ ?side1 ?side2 A35.1).mono ?_); (case side1 => repeat (first | exact HR0.1 | (with_reducible refine Kd.C_alloc ?_ _) | (with_reducible refine Kd.C_drewN ?_ _) | (with_reducible refine Kd.C_drew ?_))); (case side2 => exact HC0.1); rintro e w' ⟨rfl, ⟨nd, rfl⟩⟩; (try first | exact ⟨rfl, _, zw _ _ _⟩ | exact ⟨rfl, _, Eq.trans (zw _ _ _) (congrArg (World.drewN _) (Nat.add_assoc _ _ _))⟩))); try go_wp2_with (first | (go_at_call 64; (with_reducible refine (estoversref19_kids.calls k6 _ _ l0 x6_6 t292 _ ?side1 ?side2 A35.1).mono ?_); (case side1 => repeat (first | exact HR0.1 | (with_reducible refine Kd.C_alloc ?_ _) | (with_reducible refine Kd.C_drewN ?_ _) | (with_reducible refine Kd.C_drew ?_))); (case side2 => exact HC0.1); rintro e w' ⟨rfl, ⟨nd, rfl⟩⟩; (try first | exact ⟨rfl, _, zw _ _ _⟩ | exact ⟨rfl, _, Eq.trans (zw _ _ _) (congrArg (World.drewN _) (Nat.add_assoc _ _ _))⟩))))
                     go_roundg k6
                     case measure => have := HJ1.1; have := HK2.1; have := HK3.1; have := HJ25.1; have := HK5.1; have := HK6.1; omega
                     case rel => exact ⟨(wrap64 (x6_6 + 1)), (by first | rfl | (simp; done) | (simp [*]; done)), H', ⟨by have := HJ1.1; have := HK2.1; have := HK3.1; have := HJ25.1; have := HK5.1; have := HK6.1; omega⟩, by repeat (first | exact Drawn0.refl _ | apply Drawn0.step)⟩
                   ·rw [if_neg c34] at H
                    exact absurd H (by simp)
                  ·rw [if_neg c33] at H
                   have c33b0 : decide (x6_6 < (l0.length : Int)) = false := decide_eq_false c33
                   clear c33
                   obtain rfl := Option.some.inj H
                   go_wp2
                   repeat (go_quiet (fail); try go_wp2)
                   go_ret
                   exact ⟨by first | rfl | (simp; done) | (simp [*]; done), by repeat (first | exact Drawn0.refl _ | apply Drawn0.step)⟩
end Go.Proofs.Ytimlodcdfekbhaa.PGrantServes
