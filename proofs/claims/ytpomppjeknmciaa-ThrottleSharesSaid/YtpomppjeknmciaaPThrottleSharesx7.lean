-- Printed by a copy of the kit's printer that this session has patched (wip/tools/patch_print.py): the session's own text. Lean checks it.
import Derived.Test.YtpomppjeknmciaaPThrottleSharesx0
import Derived.Test.YtpomppjeknmciaaPThrottleSharesx3
import Derived.Test.YtpomppjeknmciaaPThrottleSharesx5
import Derived.Test.YtpomppjeknmciaaPThrottleSharesx6
namespace Go.Proofs.Ytpomppjeknmciaa.PThrottleShares
open Go.RowKit Go.Proofs.YtpomppjeknmciaaW.PrintWords Go.Proofs.YtpomppjeknmciaaW.PrintLast Go.Proofs.YtpomppjeknmciaaW.PrintMore
attribute [local go_sem] max2_int min2_int max_two min_two max_three min_three max_four min_four   -- for this text's walks alone
set_option linter.unusedVariables false
set_option linter.unusedSimpArgs false

/-! ### estoversref30_Share: function 20 -/
mutual
def estoversref30_Share.j0 : Nat → List (S43) → Int → Int → Bool → Option (Int × Int)
  | 0, _, _, _, _ => none
  | k + 1, x0, x1, x2, x19 => if x19 = true then (some (0, 2)) else (if x2 < 0 then (estoversref30_Share.j1 k x0 x1 x2 true) else (estoversref30_Share.j1 k x0 x1 x2 (decide (x2 ≥ (x0.length : Int)))))
def estoversref30_Share.j1 : Nat → List (S43) → Int → Int → Bool → Option (Int × Int)
  | 0, _, _, _, _ => none
  | k + 1, x0, x1, x2, x27 => if x27 = true then (some (0, 6)) else (if 0 < (x0.length : Int) then (if ((rd_T43 x0 0).f1) = 0 then (some (x1, 0)) else (if 0 ≤ x2 then (if x2 < (x0.length : Int) then (some (wrap64 (Int.tdiv (wrap64 (x1 * ((rd_T43 x0 x2).f1))) ((rd_T43 x0 0).f1)), 0)) else (none)) else (none))) else (none))
end
def estoversref30_Share.f (k : Nat) (l0 : List (S43)) (a1 : Int) (a2 : Int) : Option (Int × Int) := (estoversref19_Check.f k l0).bind fun t189 => (if t189 = 0 then (if a1 < 0 then (estoversref30_Share.j0 k l0 a1 a2 true) else (estoversref30_Share.j0 k l0 a1 a2 (decide (a1 > 1048576)))) else (some (0, t189)))
theorem estoversref30_Share.mono_l : ∀ k, (∀ y0 y1 y2 y3, LeO (estoversref30_Share.j0 k y0 y1 y2 y3) (estoversref30_Share.j0 (k + 1) y0 y1 y2 y3)) ∧ (∀ y0 y1 y2 y3, LeO (estoversref30_Share.j1 k y0 y1 y2 y3) (estoversref30_Share.j1 (k + 1) y0 y1 y2 y3))
  | 0 => ⟨fun _ _ _ _ r h => by simp [estoversref30_Share.j0] at h, fun _ _ _ _ r h => by simp [estoversref30_Share.j1] at h⟩
  | k + 1 => by
    obtain ⟨ih0, ih1⟩ := estoversref30_Share.mono_l k
    refine ⟨?_, ?_⟩
    · intro y0 y1 y2 y3
      unfold estoversref30_Share.j0
      repeat' first
      | (with_reducible exact ih0 _ _ _ _)
      | (with_reducible exact ih1 _ _ _ _)
      | (with_reducible exact estoversref19_Check.mono _ _)
      | (with_reducible exact LeO.refl _)
      | (with_reducible exact LeO.none _)
      | (with_reducible refine LeO.ite ?_ ?_)
      | (with_reducible refine LeO.bind ?_ (fun _ => ?_))
      | exact ih0 _ _ _ _
      | exact ih1 _ _ _ _
      | exact estoversref19_Check.mono _ _
      | exact LeO.none _
      | refine LeO.ite ?_ ?_
      | refine LeO.bind ?_ (fun _ => ?_)
    · intro y0 y1 y2 y3
      unfold estoversref30_Share.j1
      repeat' first
      | (with_reducible exact ih0 _ _ _ _)
      | (with_reducible exact ih1 _ _ _ _)
      | (with_reducible exact estoversref19_Check.mono _ _)
      | (with_reducible exact LeO.refl _)
      | (with_reducible exact LeO.none _)
      | (with_reducible refine LeO.ite ?_ ?_)
      | (with_reducible refine LeO.bind ?_ (fun _ => ?_))
      | exact ih0 _ _ _ _
      | exact ih1 _ _ _ _
      | exact estoversref19_Check.mono _ _
      | exact LeO.none _
      | refine LeO.ite ?_ ?_
      | refine LeO.bind ?_ (fun _ => ?_)
theorem estoversref30_Share.mono : ∀ a0 a1 a2 k, LeO (estoversref30_Share.f k a0 a1 a2) (estoversref30_Share.f (k + 1) a0 a1 a2) := by
  intro a0 a1 a2 k
  obtain ⟨ih0, ih1⟩ := estoversref30_Share.mono_l k
  unfold estoversref30_Share.f
  repeat' first
      | (with_reducible exact ih0 _ _ _ _)
      | (with_reducible exact ih1 _ _ _ _)
      | (with_reducible exact estoversref19_Check.mono _ _)
      | (with_reducible exact LeO.refl _)
      | (with_reducible exact LeO.none _)
      | (with_reducible refine LeO.ite ?_ ?_)
      | (with_reducible refine LeO.bind ?_ (fun _ => ?_))
      | exact ih0 _ _ _ _
      | exact ih1 _ _ _ _
      | exact estoversref19_Check.mono _ _
      | exact LeO.none _
      | refine LeO.ite ?_ ?_
      | refine LeO.bind ?_ (fun _ => ?_)
set_option maxHeartbeats 8000000 in
set_option maxRecDepth 100000 in
theorem estoversref30_Share.calls (k : Nat) (A0 : Option Addr) (c0 : Nat) (l0 : List (S43)) (a1 : Int) (a2 : Int) (r1 : Int) (r2 : Int) (w : World) (hr0 : Kd.C k43 w A0 l0.length l0) (hc0 : l0.length ≤ c0) (h : estoversref30_Share.f k l0 a1 a2 = some (r1, r2)) :
    Calls Try.prog 20 #[.slice A0 l0.length c0, .int .i64 a1, .int .i64 a2] w fun e w' => e = .returned (.tuple #[.int .i64 r1, .int .i64 r2]) ∧ Drawn0 w w' := by
  have HR0 := Aside0.mk hr0
  have HC0 := Aside0.mk hc0
  clear hr0 hc0
  have H : ((estoversref19_Check.f k l0).bind fun t189 => (if t189 = 0 then (if a1 < 0 then (estoversref30_Share.j0 k l0 a1 a2 true) else (estoversref30_Share.j0 k l0 a1 a2 (decide (a1 > 1048576)))) else (some (0, t189)))) = some (r1, r2) := h
  clear h
  replace H := Option.bind_eq_some_iff.mp H
  obtain ⟨t189, A40, H⟩ := H
  replace H : (if t189 = 0 then (if a1 < 0 then (estoversref30_Share.j0 k l0 a1 a2 true) else (estoversref30_Share.j0 k l0 a1 a2 (decide (a1 > 1048576)))) else (some (0, t189))) = some (r1, r2) := H
  have A4 := Aside0.mk A40
  clear A40
  by_cases c5 : t189 = 0
  · rw [if_pos c5] at H
    have c5b0 : (t189 == 0) = true := beq_iff_eq.mpr c5
    have c5b1 : (t189 != 0) = false := bne_eq_false_iff_eq.mpr c5
    clear c5
    have HC6 := Aside0.mk H
    clear H
    go_enter Try.func20, Try.ntmps20
    go_upto_region 4 with (first | (go_at_call 25; (with_reducible refine (estoversref19_Check.calls k _ _ l0 t189 _ ?side1 ?side2 A4.out).mono ?_); (case side1 => repeat (first | exact HR0.out | (with_reducible refine Kd.C_alloc ?_ _) | (with_reducible refine Kd.C_drewN ?_ _) | (with_reducible refine Kd.C_drew ?_))); (case side2 => exact HC0.out); rintro e w' ⟨rfl, ⟨nd, rfl⟩⟩; (try first | exact ⟨rfl, _, World.drewN_drewN _ _ _⟩ | exact ⟨rfl, _, Eq.trans (World.drewN_drewN _ _ _) (congrArg (World.drewN _) (Nat.add_assoc _ _ _))⟩)))
    repeat (go_quiet (first | (go_at_call 25; (with_reducible refine (estoversref19_Check.calls k _ _ l0 t189 _ ?side1 ?side2 A4.out).mono ?_); (case side1 => repeat (first | exact HR0.out | (with_reducible refine Kd.C_alloc ?_ _) | (with_reducible refine Kd.C_drewN ?_ _) | (with_reducible refine Kd.C_drew ?_))); (case side2 => exact HC0.out); rintro e w' ⟨rfl, ⟨nd, rfl⟩⟩; (try first | exact ⟨rfl, _, World.drewN_drewN _ _ _⟩ | exact ⟨rfl, _, Eq.trans (World.drewN_drewN _ _ _) (congrArg (World.drewN _) (Nat.add_assoc _ _ _))⟩))); go_upto_region 4 with (first | (go_at_call 25; (with_reducible refine (estoversref19_Check.calls k _ _ l0 t189 _ ?side1 ?side2 A4.out).mono ?_); (case side1 => repeat (first | exact HR0.out | (with_reducible refine Kd.C_alloc ?_ _) | (with_reducible refine Kd.C_drewN ?_ _) | (with_reducible refine Kd.C_drew ?_))); (case side2 => exact HC0.out); rintro e w' ⟨rfl, ⟨nd, rfl⟩⟩; (try first | exact ⟨rfl, _, World.drewN_drewN _ _ _⟩ | exact ⟨rfl, _, Eq.trans (World.drewN_drewN _ _ _) (congrArg (World.drewN _) (Nat.add_assoc _ _ _))⟩))))
    (try simp only [Act.put, List.setIfInBounds_toArray, List.set_cons_zero, List.set_cons_succ])
    go_cut [19] (fun v19 wc => ∃ (kq : Nat) (x19_5 : Bool), v19 = .bool x19_5 ∧ Aside0 (estoversref30_Share.j0 kq l0 a1 a2 x19_5 = some (r1, r2)) ∧ Aside0 (kq ≤ k) ∧ Drawn0 w wc)
    case first =>
      have H := HC6.out
      clear HC6
      by_cases c7 : a1 < 0
      · rw [if_pos c7] at H
        have c7b0 : decide (a1 < 0) = true := decide_eq_true c7
        clear c7
        (first | rw [c7b0] | (simp only [i64_w, i32_w]; rw [c7b0]) | skip)
        have H' := Aside0.mk H
        clear H
        go_wp2
        repeat (go_quiet (fail); try go_wp2)
        go_meet
        case rel => exact ⟨_, (true), (by first | rfl | (simp; done) | (simp [*]; done)), H', ⟨by first | omega | exact Nat.le_refl _⟩, by repeat (first | exact Drawn0.refl _ | apply Drawn0.step)⟩
      · rw [if_neg c7] at H
        have c7b0 : decide (a1 < 0) = false := decide_eq_false c7
        clear c7
        (first | rw [c7b0] | (simp only [i64_w, i32_w]; rw [c7b0]) | skip)
        have H' := Aside0.mk H
        clear H
        go_wp2
        repeat (go_quiet (fail); try go_wp2)
        go_meet
        case rel => exact ⟨_, (decide (a1 > 1048576)), (by first | rfl | (simp; done) | (simp [*]; done)), H', ⟨by first | omega | exact Nat.le_refl _⟩, by repeat (first | exact Drawn0.refl _ | apply Drawn0.step)⟩
    case rest =>
      clear HC6
      try clear c2
      try clear p2
      try clear c5
      try clear c5b0
      try clear c5b1
      try clear c7
      try clear c7b0
      obtain ⟨kq, x19_5, rfl, HA, HJ5, ⟨mc5, rfl⟩⟩ := hcut
      cases kq with
      | zero => exact absurd HA.out (by simp [estoversref30_Share.j0])
      | succ kj5 =>
        have H := HA.out
        clear HA
        simp only [estoversref30_Share.j0] at H
        by_cases c8 : x19_5 = true
        · subst c8
          have H1 : (some (0, 2)) = some (r1, r2) := by rw [if_pos rfl] at H; exact H
          clear H
          have H := H1
          clear H1
          simp only [Option.some.injEq, Prod.mk.injEq] at H
          obtain ⟨rfl, rfl⟩ := H
          go_wp2
          repeat (go_quiet (fail); try go_wp2)
          go_ret2
          exact ⟨by first | rfl | (simp; done) | (simp [*]; done), by repeat (first | exact Drawn0.refl _ | apply Drawn0.step)⟩
        · replace c8 := Bool.eq_false_iff.mpr c8
          subst c8
          have H1 : (if a2 < 0 then (estoversref30_Share.j1 kj5 l0 a1 a2 true) else (estoversref30_Share.j1 kj5 l0 a1 a2 (decide (a2 ≥ (l0.length : Int))))) = some (r1, r2) := by rw [if_neg (show ¬ (false = true) by decide)] at H; exact H
          clear H
          have H := H1
          clear H1
          have HC9 := Aside0.mk H
          clear H
          go_upto_region 6 with (fail)
          repeat (go_quiet (fail); go_upto_region 6 with (fail))
          go_cut [27] (fun v27 wc => ∃ (kq : Nat) (x27_8 : Bool), v27 = .bool x27_8 ∧ Aside0 (estoversref30_Share.j1 kq l0 a1 a2 x27_8 = some (r1, r2)) ∧ Aside0 (kq ≤ kj5) ∧ Drawn0 w wc)
          case first =>
            have H := HC9.out
            clear HC9
            by_cases c10 : a2 < 0
            · rw [if_pos c10] at H
              have c10b0 : decide (a2 < 0) = true := decide_eq_true c10
              clear c10
              (first | rw [c10b0] | (simp only [i64_w, i32_w]; rw [c10b0]) | skip)
              have H' := Aside0.mk H
              clear H
              go_wp2
              repeat (go_quiet (fail); try go_wp2)
              go_meet
              case rel => exact ⟨_, (true), (by first | rfl | (simp; done) | (simp [*]; done)), H', ⟨by have := HJ5.out; first | omega | exact Nat.le_refl _⟩, by repeat (first | exact Drawn0.refl _ | apply Drawn0.step)⟩
            · rw [if_neg c10] at H
              have c10b0 : decide (a2 < 0) = false := decide_eq_false c10
              clear c10
              (first | rw [c10b0] | (simp only [i64_w, i32_w]; rw [c10b0]) | skip)
              have H' := Aside0.mk H
              clear H
              go_wp2
              repeat (go_quiet (fail); try go_wp2)
              go_meet
              case rel => exact ⟨_, (decide (a2 ≥ (l0.length : Int))), (by first | rfl | (simp; done) | (simp [*]; done)), H', ⟨by have := HJ5.out; first | omega | exact Nat.le_refl _⟩, by repeat (first | exact Drawn0.refl _ | apply Drawn0.step)⟩
          case rest =>
            clear HC9
            try clear c1
            try clear c2
            try clear p2
            try clear c5
            try clear c5b0
            try clear c5b1
            try clear c7
            try clear c7b0
            try clear c8
            try clear c10
            try clear c10b0
            try clear p2
            obtain ⟨kq, x27_8, rfl, HA, HJ8, ⟨mc8, rfl⟩⟩ := hcut
            cases kq with
            | zero => exact absurd HA.out (by simp [estoversref30_Share.j1])
            | succ kj8 =>
              have H := HA.out
              clear HA
              simp only [estoversref30_Share.j1] at H
              by_cases c11 : x27_8 = true
              · subst c11
                have H1 : (some (0, 6)) = some (r1, r2) := by rw [if_pos rfl] at H; exact H
                clear H
                have H := H1
                clear H1
                simp only [Option.some.injEq, Prod.mk.injEq] at H
                obtain ⟨rfl, rfl⟩ := H
                go_wp2
                repeat (go_quiet (fail); try go_wp2)
                go_ret2
                exact ⟨by first | rfl | (simp; done) | (simp [*]; done), by repeat (first | exact Drawn0.refl _ | apply Drawn0.step)⟩
              · replace c11 := Bool.eq_false_iff.mpr c11
                subst c11
                have H1 : (if 0 < (l0.length : Int) then (if ((rd_T43 l0 0).f1) = 0 then (some (a1, 0)) else (if 0 ≤ a2 then (if a2 < (l0.length : Int) then (some (wrap64 (Int.tdiv (wrap64 (a1 * ((rd_T43 l0 a2).f1))) ((rd_T43 l0 0).f1)), 0)) else (none)) else (none))) else (none)) = some (r1, r2) := by rw [if_neg (show ¬ (false = true) by decide)] at H; exact H
                clear H
                have H := H1
                clear H1
                by_cases c12 : 0 < (l0.length : Int)
                · rw [if_pos c12] at H
                  have c12b0 : decide (0 < (l0.length : Int)) = true := decide_eq_true c12
                  have c12b1 : decide (0 < l0.length) = true := decide_eq_true (by omega)
                  clear c12
                  by_cases c13 : ((rd_T43 l0 0).f1) = 0
                  · rw [if_pos c13] at H
                    have c13b0 : (((rd_T43 l0 0).f1) == 0) = true := beq_iff_eq.mpr c13
                    have c13b1 : (((rd_T43 l0 0).f1) != 0) = false := bne_eq_false_iff_eq.mpr c13
                    clear c13
                    simp only [Option.some.injEq, Prod.mk.injEq] at H
                    obtain ⟨rfl, rfl⟩ := H
                    have p190 : 0 ≤ (0 : Int) := (by omega)
                    have q190 : 0 < (l0.length : Int) := of_decide_eq_true (by first | (with_reducible assumption) | assumption)
                    obtain ⟨ad190, e190, hx190_0, hx190_1, hx190_2, hx190_3, hx190_4⟩ := at_T43 HR0.out 0 p190 q190
                    cases e190
                    have qi190 : (0 < l0.length) = True := eq_true (by omega)
                    (try rw [show ((0 : Int)).toNat = 0 from rfl] at hx190_0)
                    (try rw [show 0 * 5 = 0 from rfl] at hx190_0)
                    (try rw [Addr.add_zero'] at hx190_0)
                    (try rw [show ((0 : Int)).toNat = 0 from rfl] at hx190_1)
                    (try rw [show 0 * 5 = 0 from rfl] at hx190_1)
                    (try rw [Addr.add_zero'] at hx190_1)
                    (try rw [show ((0 : Int)).toNat = 0 from rfl] at hx190_2)
                    (try rw [show 0 * 5 = 0 from rfl] at hx190_2)
                    (try rw [Addr.add_zero'] at hx190_2)
                    (try rw [show ((0 : Int)).toNat = 0 from rfl] at hx190_3)
                    (try rw [show 0 * 5 = 0 from rfl] at hx190_3)
                    (try rw [Addr.add_zero'] at hx190_3)
                    (try rw [show ((0 : Int)).toNat = 0 from rfl] at hx190_4)
                    (try rw [show 0 * 5 = 0 from rfl] at hx190_4)
                    (try rw [Addr.add_zero'] at hx190_4)
                    replace p190 := eq_true p190
                    replace q190 := eq_true q190
                    go_wp2
                    repeat (go_quiet (fail); try go_wp2)
                    go_ret2
                    exact ⟨by first | rfl | (simp; done) | (simp [*]; done), by repeat (first | exact Drawn0.refl _ | apply Drawn0.step)⟩
                  · rw [if_neg c13] at H
                    have c13b0 : (((rd_T43 l0 0).f1) == 0) = false := beq_eq_false_iff_ne.mpr c13
                    have c13b1 : (((rd_T43 l0 0).f1) != 0) = true := bne_iff_ne.mpr c13
                    by_cases c14 : 0 ≤ a2
                    · rw [if_pos c14] at H
                      have c14b0 : decide (0 ≤ a2) = true := decide_eq_true c14
                      clear c14
                      by_cases c15 : a2 < (l0.length : Int)
                      · rw [if_pos c15] at H
                        have c15b0 : decide (a2 < (l0.length : Int)) = true := decide_eq_true c15
                        clear c15
                        simp only [Option.some.injEq, Prod.mk.injEq] at H
                        obtain ⟨rfl, rfl⟩ := H
                        have p190 : 0 ≤ (0 : Int) := (by omega)
                        have q190 : 0 < (l0.length : Int) := of_decide_eq_true (by first | (with_reducible assumption) | assumption)
                        obtain ⟨ad190, e190, hx190_0, hx190_1, hx190_2, hx190_3, hx190_4⟩ := at_T43 HR0.out 0 p190 q190
                        cases e190
                        have qi190 : (0 < l0.length) = True := eq_true (by omega)
                        (try rw [show ((0 : Int)).toNat = 0 from rfl] at hx190_0)
                        (try rw [show 0 * 5 = 0 from rfl] at hx190_0)
                        (try rw [Addr.add_zero'] at hx190_0)
                        (try rw [show ((0 : Int)).toNat = 0 from rfl] at hx190_1)
                        (try rw [show 0 * 5 = 0 from rfl] at hx190_1)
                        (try rw [Addr.add_zero'] at hx190_1)
                        (try rw [show ((0 : Int)).toNat = 0 from rfl] at hx190_2)
                        (try rw [show 0 * 5 = 0 from rfl] at hx190_2)
                        (try rw [Addr.add_zero'] at hx190_2)
                        (try rw [show ((0 : Int)).toNat = 0 from rfl] at hx190_3)
                        (try rw [show 0 * 5 = 0 from rfl] at hx190_3)
                        (try rw [Addr.add_zero'] at hx190_3)
                        (try rw [show ((0 : Int)).toNat = 0 from rfl] at hx190_4)
                        (try rw [show 0 * 5 = 0 from rfl] at hx190_4)
                        (try rw [Addr.add_zero'] at hx190_4)
                        replace p190 := eq_true p190
                        replace q190 := eq_true q190
                        have p191 : 0 ≤ (a2 : Int) := of_decide_eq_true (by first | (with_reducible assumption) | assumption)
                        have q191 : a2 < (l0.length : Int) := of_decide_eq_true (by first | (with_reducible assumption) | assumption)
                        obtain ⟨ad191, e191, hx191_0, hx191_1, hx191_2, hx191_3, hx191_4⟩ := at_T43 HR0.out a2 p191 q191
                        obtain rfl : ad190 = ad191 := (by injection e191)
                        replace p191 := eq_true p191
                        replace q191 := eq_true q191
                        have p192 : 0 ≤ (0 : Int) := (by omega)
                        have q192 : 0 < (l0.length : Int) := of_decide_eq_true (by first | (with_reducible assumption) | assumption)
                        obtain ⟨ad192, e192, hx192_0, hx192_1, hx192_2, hx192_3, hx192_4⟩ := at_T43 HR0.out 0 p192 q192
                        obtain rfl : ad190 = ad192 := (by injection e192)
                        have qi192 : (0 < l0.length) = True := eq_true (by omega)
                        (try rw [show ((0 : Int)).toNat = 0 from rfl] at hx192_0)
                        (try rw [show 0 * 5 = 0 from rfl] at hx192_0)
                        (try rw [Addr.add_zero'] at hx192_0)
                        (try rw [show ((0 : Int)).toNat = 0 from rfl] at hx192_1)
                        (try rw [show 0 * 5 = 0 from rfl] at hx192_1)
                        (try rw [Addr.add_zero'] at hx192_1)
                        (try rw [show ((0 : Int)).toNat = 0 from rfl] at hx192_2)
                        (try rw [show 0 * 5 = 0 from rfl] at hx192_2)
                        (try rw [Addr.add_zero'] at hx192_2)
                        (try rw [show ((0 : Int)).toNat = 0 from rfl] at hx192_3)
                        (try rw [show 0 * 5 = 0 from rfl] at hx192_3)
                        (try rw [Addr.add_zero'] at hx192_3)
                        (try rw [show ((0 : Int)).toNat = 0 from rfl] at hx192_4)
                        (try rw [show 0 * 5 = 0 from rfl] at hx192_4)
                        (try rw [Addr.add_zero'] at hx192_4)
                        replace p192 := eq_true p192
                        replace q192 := eq_true q192
                        go_wp2
                        repeat (go_quiet (fail); try go_wp2)
                        go_ret2
                        exact ⟨by first | rfl | (simp; done) | (simp [*]; done), by repeat (first | exact Drawn0.refl _ | apply Drawn0.step)⟩
                      · rw [if_neg c15] at H
                        exact absurd H (by simp)
                    · rw [if_neg c14] at H
                      exact absurd H (by simp)
                · rw [if_neg c12] at H
                  exact absurd H (by simp)
  · rw [if_neg c5] at H
    have c5b0 : (t189 == 0) = false := beq_eq_false_iff_ne.mpr c5
    have c5b1 : (t189 != 0) = true := bne_iff_ne.mpr c5
    simp only [Option.some.injEq, Prod.mk.injEq] at H
    obtain ⟨rfl, rfl⟩ := H
    go_enter Try.func20, Try.ntmps20
    go_wp2_with (first | (go_at_call 25; (with_reducible refine (estoversref19_Check.calls k _ _ l0 t189 _ ?side1 ?side2 A4.out).mono ?_); (case side1 => repeat (first | exact HR0.out | (with_reducible refine Kd.C_alloc ?_ _) | (with_reducible refine Kd.C_drewN ?_ _) | (with_reducible refine Kd.C_drew ?_))); (case side2 => exact HC0.out); rintro e w' ⟨rfl, ⟨nd, rfl⟩⟩; (try first | exact ⟨rfl, _, World.drewN_drewN _ _ _⟩ | exact ⟨rfl, _, Eq.trans (World.drewN_drewN _ _ _) (congrArg (World.drewN _) (Nat.add_assoc _ _ _))⟩)))
    repeat (go_quiet (first | (go_at_call 25; (with_reducible refine (estoversref19_Check.calls k _ _ l0 t189 _ ?side1 ?side2 A4.out).mono ?_); (case side1 => repeat (first | exact HR0.out | (with_reducible refine Kd.C_alloc ?_ _) | (with_reducible refine Kd.C_drewN ?_ _) | (with_reducible refine Kd.C_drew ?_))); (case side2 => exact HC0.out); rintro e w' ⟨rfl, ⟨nd, rfl⟩⟩; (try first | exact ⟨rfl, _, World.drewN_drewN _ _ _⟩ | exact ⟨rfl, _, Eq.trans (World.drewN_drewN _ _ _) (congrArg (World.drewN _) (Nat.add_assoc _ _ _))⟩))); try go_wp2_with (first | (go_at_call 25; (with_reducible refine (estoversref19_Check.calls k _ _ l0 t189 _ ?side1 ?side2 A4.out).mono ?_); (case side1 => repeat (first | exact HR0.out | (with_reducible refine Kd.C_alloc ?_ _) | (with_reducible refine Kd.C_drewN ?_ _) | (with_reducible refine Kd.C_drew ?_))); (case side2 => exact HC0.out); rintro e w' ⟨rfl, ⟨nd, rfl⟩⟩; (try first | exact ⟨rfl, _, World.drewN_drewN _ _ _⟩ | exact ⟨rfl, _, Eq.trans (World.drewN_drewN _ _ _) (congrArg (World.drewN _) (Nat.add_assoc _ _ _))⟩))))
    go_ret2
    exact ⟨by first | rfl | (simp; done) | (simp [*]; done), by repeat (first | exact Drawn0.refl _ | apply Drawn0.step)⟩

/-! ### estoverslaw30_ThrottleShares: function 4 -/
def estoverslaw30_ThrottleShares.j0 : Nat → List (S43) → Int → Int → Bool → Option (Bool)
  | 0, _, _, _, _ => none
  | k + 1, x0, x1, x2, x17 => if x17 = true then ((estoverslaw30_awake.f k).bind fun t194 => (some t194)) else ((throttle_Share.f k x0 x1 x2).bind fun bt195 => ((estoversref30_Share.f k x0 x1 x2).bind fun bt197 => (if bt195.2 = bt197.2 then (some (bt195.1 == bt197.1)) else (none))))
def estoverslaw30_ThrottleShares.f (k : Nat) (l0 : List (S43)) (a1 : Int) (a2 : Int) : Option (Bool) := (estoverslaw30_awake.f k).bind fun t193 => (if t193 = true then (estoverslaw30_ThrottleShares.j0 k l0 a1 a2 (decide ((l0.length : Int) > 40))) else (estoverslaw30_ThrottleShares.j0 k l0 a1 a2 true))
theorem estoverslaw30_ThrottleShares.mono_l : ∀ k, (∀ y0 y1 y2 y3, LeO (estoverslaw30_ThrottleShares.j0 k y0 y1 y2 y3) (estoverslaw30_ThrottleShares.j0 (k + 1) y0 y1 y2 y3))
  | 0 => fun _ _ _ _ r h => by simp [estoverslaw30_ThrottleShares.j0] at h
  | k + 1 => by
    have ih0 := estoverslaw30_ThrottleShares.mono_l k
    · intro y0 y1 y2 y3
      unfold estoverslaw30_ThrottleShares.j0
      repeat' first
      | (with_reducible exact ih0 _ _ _ _)
      | (with_reducible exact estoverslaw30_awake.mono _)
      | (with_reducible exact estoversref30_Share.mono _ _ _ _)
      | (with_reducible exact throttle_Share.mono _ _ _ _)
      | (with_reducible exact LeO.refl _)
      | (with_reducible exact LeO.none _)
      | (with_reducible refine LeO.ite ?_ ?_)
      | (with_reducible refine LeO.bind ?_ (fun _ => ?_))
      | exact ih0 _ _ _ _
      | exact estoverslaw30_awake.mono _
      | exact estoversref30_Share.mono _ _ _ _
      | exact throttle_Share.mono _ _ _ _
      | exact LeO.none _
      | refine LeO.ite ?_ ?_
      | refine LeO.bind ?_ (fun _ => ?_)
theorem estoverslaw30_ThrottleShares.mono : ∀ a0 a1 a2 k, LeO (estoverslaw30_ThrottleShares.f k a0 a1 a2) (estoverslaw30_ThrottleShares.f (k + 1) a0 a1 a2) := by
  intro a0 a1 a2 k
  have ih0 := estoverslaw30_ThrottleShares.mono_l k
  unfold estoverslaw30_ThrottleShares.f
  repeat' first
      | (with_reducible exact ih0 _ _ _ _)
      | (with_reducible exact estoverslaw30_awake.mono _)
      | (with_reducible exact estoversref30_Share.mono _ _ _ _)
      | (with_reducible exact throttle_Share.mono _ _ _ _)
      | (with_reducible exact LeO.refl _)
      | (with_reducible exact LeO.none _)
      | (with_reducible refine LeO.ite ?_ ?_)
      | (with_reducible refine LeO.bind ?_ (fun _ => ?_))
      | exact ih0 _ _ _ _
      | exact estoverslaw30_awake.mono _
      | exact estoversref30_Share.mono _ _ _ _
      | exact throttle_Share.mono _ _ _ _
      | exact LeO.none _
      | refine LeO.ite ?_ ?_
      | refine LeO.bind ?_ (fun _ => ?_)
set_option maxHeartbeats 8000000 in
set_option maxRecDepth 100000 in
theorem estoverslaw30_ThrottleShares.calls (k : Nat) (A0 : Option Addr) (c0 : Nat) (l0 : List (S43)) (a1 : Int) (a2 : Int) (r : Bool) (w : World) (hr0 : Kd.C k43 w A0 l0.length l0) (hc0 : l0.length ≤ c0) (h : estoverslaw30_ThrottleShares.f k l0 a1 a2 = some r) :
    Calls Try.prog 4 #[.slice A0 l0.length c0, .int .i64 a1, .int .i64 a2] w fun e w' => e = .returned (.bool r) ∧ Below w.heap.size w w' := by
  have HR0 := Aside0.mk hr0
  have HC0 := Aside0.mk hc0
  clear hr0 hc0
  have HB := Aside0.mk (Below.refl w.heap.size w)
  have H : ((estoverslaw30_awake.f k).bind fun t193 => (if t193 = true then (estoverslaw30_ThrottleShares.j0 k l0 a1 a2 (decide ((l0.length : Int) > 40))) else (estoverslaw30_ThrottleShares.j0 k l0 a1 a2 true))) = some r := h
  clear h
  have HC4 := Aside0.mk H
  clear H
  go_enter Try.func4, Try.ntmps4
  go_upto_region 1 with (fail)
  go_cut [17] (fun v17 wc => ∃ (kq : Nat) (x17_3 : Bool), v17 = .bool x17_3 ∧ Aside0 (estoverslaw30_ThrottleShares.j0 kq l0 a1 a2 x17_3 = some r) ∧ Aside0 (kq ≤ k) ∧ Aside0 (Below w.heap.size w wc))
  case first =>
    have H := HC4.out
    clear HC4
    replace H := Option.bind_eq_some_iff.mp H
    obtain ⟨t193, A50, H⟩ := H
    replace H : (if t193 = true then (estoverslaw30_ThrottleShares.j0 k l0 a1 a2 (decide ((l0.length : Int) > 40))) else (estoverslaw30_ThrottleShares.j0 k l0 a1 a2 true)) = some r := H
    have A5 := Aside0.mk A50
    clear A50
    by_cases c6 : t193 = true
    · subst c6
      have H1 : (estoverslaw30_ThrottleShares.j0 k l0 a1 a2 (decide ((l0.length : Int) > 40))) = some r := by rw [if_pos rfl] at H; exact H
      clear H
      have H := H1
      clear H1
      have H' := Aside0.mk H
      clear H
      go_wp2_with (first | ((with_reducible refine gate_callee (f := 16) rfl ?_); refine goesL_ (some 11) rfl rfl Try.func16 (by kernel_rfl) rfl #[] rfl (by (try simp only [List.map_toArray, List.map_cons, List.map_nil]); first | done | rfl | (simp only [List.length_drop, List.length_take]; rfl)) ?_; (with_reducible refine (estoverslaw30_awake.calls k  true _ A5.out).mono ?_); rintro e w7 ⟨rfl, hb⟩; refine ⟨_, rfl, ?_⟩; have n0_ := Aside0.mk (below_step (by repeat (first | (with_reducible first | exact HB.out | apply below_alloc | apply pw_below_drewN | apply below_drew1) | exact HB.out)) hb); clear HB; have HB := n0_; clear n0_; (try clear hb); (try clear hb2); (try clear hk); (try clear hi)))
      go_meet
      case rel => exact ⟨_, (decide ((l0.length : Int) > 40)), (by first | rfl | (simp; done) | (simp [*]; done)), H', ⟨by first | omega | exact Nat.le_refl _⟩, ⟨by repeat (first | (with_reducible first | exact HB.out | apply below_alloc | apply pw_below_drewN | apply below_drew1) | exact HB.out)⟩⟩
    · replace c6 := Bool.eq_false_iff.mpr c6
      subst c6
      have H1 : (estoverslaw30_ThrottleShares.j0 k l0 a1 a2 true) = some r := by rw [if_neg (show ¬ (false = true) by decide)] at H; exact H
      clear H
      have H := H1
      clear H1
      have H' := Aside0.mk H
      clear H
      go_wp2_with (first | ((with_reducible refine gate_callee (f := 16) rfl ?_); refine goesL_ (some 11) rfl rfl Try.func16 (by kernel_rfl) rfl #[] rfl (by (try simp only [List.map_toArray, List.map_cons, List.map_nil]); first | done | rfl | (simp only [List.length_drop, List.length_take]; rfl)) ?_; (with_reducible refine (estoverslaw30_awake.calls k  false _ A5.out).mono ?_); rintro e w8 ⟨rfl, hb⟩; refine ⟨_, rfl, ?_⟩; have n0_ := Aside0.mk (below_step (by repeat (first | (with_reducible first | exact HB.out | apply below_alloc | apply pw_below_drewN | apply below_drew1) | exact HB.out)) hb); clear HB; have HB := n0_; clear n0_; (try clear hb); (try clear hb2); (try clear hk); (try clear hi)))
      go_meet
      case rel => exact ⟨_, (true), (by first | rfl | (simp; done) | (simp [*]; done)), H', ⟨by first | omega | exact Nat.le_refl _⟩, ⟨by repeat (first | (with_reducible first | exact HB.out | apply below_alloc | apply pw_below_drewN | apply below_drew1) | exact HB.out)⟩⟩
  case rest =>
    clear HC4
    try clear c1
    try clear p2
    try clear c4
    try clear c6
    obtain ⟨kq, x17_3, rfl, HA, HJ3, HB⟩ := hcut
    cases kq with
    | zero => exact absurd HA.out (by simp [estoverslaw30_ThrottleShares.j0])
    | succ kj3 =>
      have H := HA.out
      clear HA
      simp only [estoverslaw30_ThrottleShares.j0] at H
      by_cases c9 : x17_3 = true
      · subst c9
        have H1 : ((estoverslaw30_awake.f kj3).bind fun t194 => (some t194)) = some r := by rw [if_pos rfl] at H; exact H
        clear H
        have H := H1
        clear H1
        replace H := Option.bind_eq_some_iff.mp H
        obtain ⟨t194, A100, H⟩ := H
        replace H : (some t194) = some r := H
        have A10 := Aside0.mk A100
        clear A100
        obtain rfl := Option.some.inj H
        go_wp2_with (first | ((with_reducible refine gate_callee (f := 16) rfl ?_); refine goesL_ (some 18) rfl rfl Try.func16 (by kernel_rfl) rfl #[] rfl (by (try simp only [List.map_toArray, List.map_cons, List.map_nil]); first | done | rfl | (simp only [List.length_drop, List.length_take]; rfl)) ?_; (with_reducible refine (estoverslaw30_awake.calls kj3  t194 _ A10.out).mono ?_); rintro e w11 ⟨rfl, hb⟩; refine ⟨_, rfl, ?_⟩; have n0_ := Aside0.mk (below_step (by repeat (first | (with_reducible first | exact HB.out | apply below_alloc | apply pw_below_drewN | apply below_drew1) | exact HB.out)) hb); clear HB; have HB := n0_; clear n0_; (try clear hb); (try clear hb2); (try clear hk); (try clear hi)))
        go_ret
        exact ⟨by first | rfl | (simp [errW_none, errW_some] <;> rfl) | (simp [*, errW_none, errW_some] <;> rfl), by repeat (first | (with_reducible first | exact HB.out | apply below_alloc | apply pw_below_drewN | apply below_drew1) | exact HB.out)⟩
      · replace c9 := Bool.eq_false_iff.mpr c9
        subst c9
        have H1 : ((throttle_Share.f kj3 l0 a1 a2).bind fun bt195 => ((estoversref30_Share.f kj3 l0 a1 a2).bind fun bt197 => (if bt195.2 = bt197.2 then (some (bt195.1 == bt197.1)) else (none)))) = some r := by rw [if_neg (show ¬ (false = true) by decide)] at H; exact H
        clear H
        have H := H1
        clear H1
        replace H := Option.bind_eq_some_iff.mp H
        obtain ⟨⟨t195, t196⟩, A120, H⟩ := H
        replace H : ((estoversref30_Share.f kj3 l0 a1 a2).bind fun bt197 => (if t196 = bt197.2 then (some (t195 == bt197.1)) else (none))) = some r := H
        have A12 := Aside0.mk A120
        clear A120
        replace H := Option.bind_eq_some_iff.mp H
        obtain ⟨⟨t197, t198⟩, A130, H⟩ := H
        replace H : (if t196 = t198 then (some (t195 == t197)) else (none)) = some r := H
        have A13 := Aside0.mk A130
        clear A130
        by_cases c14 : t196 = t198
        · rw [if_pos c14] at H
          have c14b0 : (t196 == t198) = true := beq_iff_eq.mpr c14
          have c14b1 : (t196 != t198) = false := bne_eq_false_iff_eq.mpr c14
          clear c14
          obtain rfl := Option.some.inj H
          go_wp2_with (first | ((with_reducible refine gate_callee (f := 19) rfl ?_); refine goesL_ (some 23) rfl rfl Try.func19 (by kernel_rfl) rfl #[.slice A0 l0.length c0, .int .i64 a1, .int .i64 a2] rfl (by (try simp only [List.map_toArray, List.map_cons, List.map_nil]); first | done | rfl | (simp only [List.length_drop, List.length_take]; rfl)) ?_; (with_reducible refine (throttle_Share.calls kj3 _ _ l0 a1 a2 t195 t196 _ ?side1 ?side2 A12.out).mono ?_); (case side1 => repeat (first | exact (Kd.C_below HR0.out HB.out) | (with_reducible refine Kd.C_alloc ?_ _) | (with_reducible refine Kd.C_drewN ?_ _) | (with_reducible refine Kd.C_drew ?_))); (case side2 => exact HC0.out); rintro e w15 ⟨rfl, hb⟩; refine ⟨_, rfl, ?_⟩; have n0_ := Aside0.mk (below_step (by repeat (first | (with_reducible first | exact HB.out | apply below_alloc | apply pw_below_drewN | apply below_drew1) | exact HB.out)) hb); clear HB; have HB := n0_; clear n0_; (try clear hb); (try clear hb2); (try clear hk); (try clear hi)) | ((with_reducible refine gate_callee (f := 20) rfl ?_); refine goesL_ (some 30) rfl rfl Try.func20 (by kernel_rfl) rfl #[.slice A0 l0.length c0, .int .i64 a1, .int .i64 a2] rfl (by (try simp only [List.map_toArray, List.map_cons, List.map_nil]); first | done | rfl | (simp only [List.length_drop, List.length_take]; rfl)) ?_; (with_reducible refine (estoversref30_Share.calls kj3 _ _ l0 a1 a2 t197 t198 _ ?side1 ?side2 A13.out).mono ?_); (case side1 => repeat (first | exact (Kd.C_below HR0.out HB.out) | (with_reducible refine Kd.C_alloc ?_ _) | (with_reducible refine Kd.C_drewN ?_ _) | (with_reducible refine Kd.C_drew ?_))); (case side2 => exact HC0.out); rintro e w' ⟨rfl, ⟨nd, rfl⟩⟩; refine ⟨_, rfl, ?_⟩))
          go_ret
          exact ⟨by first | rfl | (simp [errW_none, errW_some] <;> rfl) | (simp [*, errW_none, errW_some] <;> rfl), by repeat (first | (with_reducible first | exact HB.out | apply below_alloc | apply pw_below_drewN | apply below_drew1) | exact HB.out)⟩
        · rw [if_neg c14] at H
          exact absurd H (by simp)

end Go.Proofs.Ytpomppjeknmciaa.PThrottleShares
