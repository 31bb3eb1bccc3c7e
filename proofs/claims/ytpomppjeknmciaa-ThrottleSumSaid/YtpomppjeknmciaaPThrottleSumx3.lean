-- Printed by a copy of the kit's printer that this session has patched (wip/tools/patch_print.py): the session's own text. Lean checks it.
import Derived.Test.YtpomppjeknmciaaPThrottleSumx0
import Derived.Test.YtpomppjeknmciaaPThrottleSumx2
namespace Go.Proofs.Ytpomppjeknmciaa.PThrottleSum
open Go.RowKit Go.Proofs.YtpomppjeknmciaaW.PrintWords Go.Proofs.YtpomppjeknmciaaW.PrintLast Go.Proofs.YtpomppjeknmciaaW.PrintMore
attribute [local go_sem] max2_int min2_int max_two min_two max_three min_three max_four min_four   -- for this text's walks alone
set_option linter.unusedVariables false
set_option linter.unusedSimpArgs false

/-! ### throttle_Share: function 19 -/
mutual
def throttle_Share.j0 : Nat → List (S43) → Int → Int → Bool → Option (Int × Int)
  | 0, _, _, _, _ => none
  | k + 1, x0, x1, x2, x19 => if x19 = true then (some (0, 2)) else (if x2 < 0 then (throttle_Share.j1 k x0 x1 x2 true) else (throttle_Share.j1 k x0 x1 x2 (decide (x2 ≥ (x0.length : Int)))))
def throttle_Share.j1 : Nat → List (S43) → Int → Int → Bool → Option (Int × Int)
  | 0, _, _, _, _ => none
  | k + 1, x0, x1, x2, x27 => if x27 = true then (some (0, 6)) else (if 0 < (x0.length : Int) then (if ((rd_T43 x0 0).f1) = 0 then (some (x1, 0)) else (if 0 ≤ x2 then (if x2 < (x0.length : Int) then (some (wrap64 (Int.tdiv (wrap64 (x1 * ((rd_T43 x0 x2).f1))) ((rd_T43 x0 0).f1)), 0)) else (none)) else (none))) else (none))
end
def throttle_Share.f (k : Nat) (l0 : List (S43)) (a1 : Int) (a2 : Int) : Option (Int × Int) := (accounts_Check.f k l0).bind fun t133 => (if t133 = 0 then (if a1 < 0 then (throttle_Share.j0 k l0 a1 a2 true) else (throttle_Share.j0 k l0 a1 a2 (decide (a1 > 1048576)))) else (some (0, t133)))
theorem throttle_Share.mono_l : ∀ k, (∀ y0 y1 y2 y3, LeO (throttle_Share.j0 k y0 y1 y2 y3) (throttle_Share.j0 (k + 1) y0 y1 y2 y3)) ∧ (∀ y0 y1 y2 y3, LeO (throttle_Share.j1 k y0 y1 y2 y3) (throttle_Share.j1 (k + 1) y0 y1 y2 y3))
  | 0 => ⟨fun _ _ _ _ r h => by simp [throttle_Share.j0] at h, fun _ _ _ _ r h => by simp [throttle_Share.j1] at h⟩
  | k + 1 => by
    obtain ⟨ih0, ih1⟩ := throttle_Share.mono_l k
    refine ⟨?_, ?_⟩
    · intro y0 y1 y2 y3
      unfold throttle_Share.j0
      repeat' first
      | (with_reducible exact ih0 _ _ _ _)
      | (with_reducible exact ih1 _ _ _ _)
      | (with_reducible exact accounts_Check.mono _ _)
      | (with_reducible exact LeO.refl _)
      | (with_reducible exact LeO.none _)
      | (with_reducible refine LeO.ite ?_ ?_)
      | (with_reducible refine LeO.bind ?_ (fun _ => ?_))
      | exact ih0 _ _ _ _
      | exact ih1 _ _ _ _
      | exact accounts_Check.mono _ _
      | exact LeO.none _
      | refine LeO.ite ?_ ?_
      | refine LeO.bind ?_ (fun _ => ?_)
    · intro y0 y1 y2 y3
      unfold throttle_Share.j1
      repeat' first
      | (with_reducible exact ih0 _ _ _ _)
      | (with_reducible exact ih1 _ _ _ _)
      | (with_reducible exact accounts_Check.mono _ _)
      | (with_reducible exact LeO.refl _)
      | (with_reducible exact LeO.none _)
      | (with_reducible refine LeO.ite ?_ ?_)
      | (with_reducible refine LeO.bind ?_ (fun _ => ?_))
      | exact ih0 _ _ _ _
      | exact ih1 _ _ _ _
      | exact accounts_Check.mono _ _
      | exact LeO.none _
      | refine LeO.ite ?_ ?_
      | refine LeO.bind ?_ (fun _ => ?_)
theorem throttle_Share.mono : ∀ a0 a1 a2 k, LeO (throttle_Share.f k a0 a1 a2) (throttle_Share.f (k + 1) a0 a1 a2) := by
  intro a0 a1 a2 k
  obtain ⟨ih0, ih1⟩ := throttle_Share.mono_l k
  unfold throttle_Share.f
  repeat' first
      | (with_reducible exact ih0 _ _ _ _)
      | (with_reducible exact ih1 _ _ _ _)
      | (with_reducible exact accounts_Check.mono _ _)
      | (with_reducible exact LeO.refl _)
      | (with_reducible exact LeO.none _)
      | (with_reducible refine LeO.ite ?_ ?_)
      | (with_reducible refine LeO.bind ?_ (fun _ => ?_))
      | exact ih0 _ _ _ _
      | exact ih1 _ _ _ _
      | exact accounts_Check.mono _ _
      | exact LeO.none _
      | refine LeO.ite ?_ ?_
      | refine LeO.bind ?_ (fun _ => ?_)
set_option maxHeartbeats 8000000 in
set_option maxRecDepth 100000 in
theorem throttle_Share.calls (k : Nat) (A0 : Option Addr) (c0 : Nat) (l0 : List (S43)) (a1 : Int) (a2 : Int) (r1 : Int) (r2 : Int) (w : World) (hr0 : Kd.C k43 w A0 l0.length l0) (hc0 : l0.length ≤ c0) (h : throttle_Share.f k l0 a1 a2 = some (r1, r2)) :
    Calls Try.prog 19 #[.slice A0 l0.length c0, .int .i64 a1, .int .i64 a2] w fun e w' => e = .returned (.tuple #[.int .i64 r1, .int .i64 r2]) ∧ Below w.heap.size w w' := by
  have HR0 := Aside0.mk hr0
  have HC0 := Aside0.mk hc0
  clear hr0 hc0
  have HB := Aside0.mk (Below.refl w.heap.size w)
  have H : ((accounts_Check.f k l0).bind fun t133 => (if t133 = 0 then (if a1 < 0 then (throttle_Share.j0 k l0 a1 a2 true) else (throttle_Share.j0 k l0 a1 a2 (decide (a1 > 1048576)))) else (some (0, t133)))) = some (r1, r2) := h
  clear h
  replace H := Option.bind_eq_some_iff.mp H
  obtain ⟨t133, A40, H⟩ := H
  replace H : (if t133 = 0 then (if a1 < 0 then (throttle_Share.j0 k l0 a1 a2 true) else (throttle_Share.j0 k l0 a1 a2 (decide (a1 > 1048576)))) else (some (0, t133))) = some (r1, r2) := H
  have A4 := Aside0.mk A40
  clear A40
  by_cases c5 : t133 = 0
  · rw [if_pos c5] at H
    have c5b0 : (t133 == 0) = true := beq_iff_eq.mpr c5
    have c5b1 : (t133 != 0) = false := bne_eq_false_iff_eq.mpr c5
    clear c5
    have HC6 := Aside0.mk H
    clear H
    go_enter Try.func19, Try.ntmps19
    go_upto_region 4 with (first | (go_at_call 28; (with_reducible refine (accounts_Check.calls k _ _ l0 t133 _ ?side1 ?side2 A4.out).mono ?_); (case side1 => repeat (first | exact HR0.out | (with_reducible refine Kd.C_alloc ?_ _) | (with_reducible refine Kd.C_drewN ?_ _) | (with_reducible refine Kd.C_drew ?_))); (case side2 => exact HC0.out); rintro e w7 ⟨rfl, hb⟩; have n0_ := Aside0.mk (below_step (by repeat (first | (with_reducible first | exact HB.out | apply below_alloc | apply pw_below_drewN | apply below_drew1) | exact HB.out)) hb); clear HB; have HB := n0_; clear n0_; (try clear hb); (try clear hb2); (try clear hk); (try clear hi)))
    repeat (go_quiet (first | (go_at_call 28; (with_reducible refine (accounts_Check.calls k _ _ l0 t133 _ ?side1 ?side2 A4.out).mono ?_); (case side1 => repeat (first | exact HR0.out | (with_reducible refine Kd.C_alloc ?_ _) | (with_reducible refine Kd.C_drewN ?_ _) | (with_reducible refine Kd.C_drew ?_))); (case side2 => exact HC0.out); rintro e w7 ⟨rfl, hb⟩; have n0_ := Aside0.mk (below_step (by repeat (first | (with_reducible first | exact HB.out | apply below_alloc | apply pw_below_drewN | apply below_drew1) | exact HB.out)) hb); clear HB; have HB := n0_; clear n0_; (try clear hb); (try clear hb2); (try clear hk); (try clear hi))); go_upto_region 4 with (first | (go_at_call 28; (with_reducible refine (accounts_Check.calls k _ _ l0 t133 _ ?side1 ?side2 A4.out).mono ?_); (case side1 => repeat (first | exact HR0.out | (with_reducible refine Kd.C_alloc ?_ _) | (with_reducible refine Kd.C_drewN ?_ _) | (with_reducible refine Kd.C_drew ?_))); (case side2 => exact HC0.out); rintro e w7 ⟨rfl, hb⟩; have n0_ := Aside0.mk (below_step (by repeat (first | (with_reducible first | exact HB.out | apply below_alloc | apply pw_below_drewN | apply below_drew1) | exact HB.out)) hb); clear HB; have HB := n0_; clear n0_; (try clear hb); (try clear hb2); (try clear hk); (try clear hi))))
    (try simp only [Act.put, List.setIfInBounds_toArray, List.set_cons_zero, List.set_cons_succ])
    go_cut [19] (fun v19 wc => ∃ (kq : Nat) (x19_5 : Bool), v19 = .bool x19_5 ∧ Aside0 (throttle_Share.j0 kq l0 a1 a2 x19_5 = some (r1, r2)) ∧ Aside0 (kq ≤ k) ∧ Aside0 (Below w.heap.size w wc))
    case first =>
      have H := HC6.out
      clear HC6
      by_cases c8 : a1 < 0
      · rw [if_pos c8] at H
        have c8b0 : decide (a1 < 0) = true := decide_eq_true c8
        clear c8
        (first | rw [c8b0] | (simp only [i64_w, i32_w]; rw [c8b0]) | skip)
        have H' := Aside0.mk H
        clear H
        go_wp2
        repeat (go_quiet (fail); try go_wp2)
        go_meet
        case rel => exact ⟨_, (true), (by first | rfl | (simp; done) | (simp [*]; done)), H', ⟨by first | omega | exact Nat.le_refl _⟩, ⟨by repeat (first | (with_reducible first | exact HB.out | apply below_alloc | apply pw_below_drewN | apply below_drew1) | exact HB.out)⟩⟩
      · rw [if_neg c8] at H
        have c8b0 : decide (a1 < 0) = false := decide_eq_false c8
        clear c8
        (first | rw [c8b0] | (simp only [i64_w, i32_w]; rw [c8b0]) | skip)
        have H' := Aside0.mk H
        clear H
        go_wp2
        repeat (go_quiet (fail); try go_wp2)
        go_meet
        case rel => exact ⟨_, (decide (a1 > 1048576)), (by first | rfl | (simp; done) | (simp [*]; done)), H', ⟨by first | omega | exact Nat.le_refl _⟩, ⟨by repeat (first | (with_reducible first | exact HB.out | apply below_alloc | apply pw_below_drewN | apply below_drew1) | exact HB.out)⟩⟩
    case rest =>
      clear HC6
      try clear c1
      try clear p2
      try clear c5
      try clear c5b0
      try clear c5b1
      try clear c8
      try clear c8b0
      obtain ⟨kq, x19_5, rfl, HA, HJ5, HB⟩ := hcut
      cases kq with
      | zero => exact absurd HA.out (by simp [throttle_Share.j0])
      | succ kj5 =>
        have H := HA.out
        clear HA
        simp only [throttle_Share.j0] at H
        by_cases c9 : x19_5 = true
        · subst c9
          have H1 : (some (0, 2)) = some (r1, r2) := by rw [if_pos rfl] at H; exact H
          clear H
          have H := H1
          clear H1
          simp only [Option.some.injEq, Prod.mk.injEq] at H
          obtain ⟨rfl, rfl⟩ := H
          go_wp2
          repeat (go_quiet (fail); try go_wp2)
          go_ret2
          exact ⟨by first | rfl | (simp [errW_none, errW_some] <;> rfl) | (simp [*, errW_none, errW_some] <;> rfl), by repeat (first | (with_reducible first | exact HB.out | apply below_alloc | apply pw_below_drewN | apply below_drew1) | exact HB.out)⟩
        · replace c9 := Bool.eq_false_iff.mpr c9
          subst c9
          have H1 : (if a2 < 0 then (throttle_Share.j1 kj5 l0 a1 a2 true) else (throttle_Share.j1 kj5 l0 a1 a2 (decide (a2 ≥ (l0.length : Int))))) = some (r1, r2) := by rw [if_neg (show ¬ (false = true) by decide)] at H; exact H
          clear H
          have H := H1
          clear H1
          have HC10 := Aside0.mk H
          clear H
          go_upto_region 6 with (fail)
          repeat (go_quiet (fail); go_upto_region 6 with (fail))
          go_cut [27] (fun v27 wc => ∃ (kq : Nat) (x27_9 : Bool), v27 = .bool x27_9 ∧ Aside0 (throttle_Share.j1 kq l0 a1 a2 x27_9 = some (r1, r2)) ∧ Aside0 (kq ≤ kj5) ∧ Aside0 (Below w.heap.size w wc))
          case first =>
            have H := HC10.out
            clear HC10
            by_cases c11 : a2 < 0
            · rw [if_pos c11] at H
              have c11b0 : decide (a2 < 0) = true := decide_eq_true c11
              clear c11
              (first | rw [c11b0] | (simp only [i64_w, i32_w]; rw [c11b0]) | skip)
              have H' := Aside0.mk H
              clear H
              go_wp2
              repeat (go_quiet (fail); try go_wp2)
              go_meet
              case rel => exact ⟨_, (true), (by first | rfl | (simp; done) | (simp [*]; done)), H', ⟨by have := HJ5.out; first | omega | exact Nat.le_refl _⟩, ⟨by repeat (first | (with_reducible first | exact HB.out | apply below_alloc | apply pw_below_drewN | apply below_drew1) | exact HB.out)⟩⟩
            · rw [if_neg c11] at H
              have c11b0 : decide (a2 < 0) = false := decide_eq_false c11
              clear c11
              (first | rw [c11b0] | (simp only [i64_w, i32_w]; rw [c11b0]) | skip)
              have H' := Aside0.mk H
              clear H
              go_wp2
              repeat (go_quiet (fail); try go_wp2)
              go_meet
              case rel => exact ⟨_, (decide (a2 ≥ (l0.length : Int))), (by first | rfl | (simp; done) | (simp [*]; done)), H', ⟨by have := HJ5.out; first | omega | exact Nat.le_refl _⟩, ⟨by repeat (first | (with_reducible first | exact HB.out | apply below_alloc | apply pw_below_drewN | apply below_drew1) | exact HB.out)⟩⟩
          case rest =>
            clear HC10
            try clear c1
            try clear p2
            try clear c5
            try clear c5b0
            try clear c5b1
            try clear c8
            try clear c8b0
            try clear c9
            try clear c11
            try clear c11b0
            try clear p2
            obtain ⟨kq, x27_9, rfl, HA, HJ9, HB⟩ := hcut
            cases kq with
            | zero => exact absurd HA.out (by simp [throttle_Share.j1])
            | succ kj9 =>
              have H := HA.out
              clear HA
              simp only [throttle_Share.j1] at H
              by_cases c12 : x27_9 = true
              · subst c12
                have H1 : (some (0, 6)) = some (r1, r2) := by rw [if_pos rfl] at H; exact H
                clear H
                have H := H1
                clear H1
                simp only [Option.some.injEq, Prod.mk.injEq] at H
                obtain ⟨rfl, rfl⟩ := H
                go_wp2
                repeat (go_quiet (fail); try go_wp2)
                go_ret2
                exact ⟨by first | rfl | (simp [errW_none, errW_some] <;> rfl) | (simp [*, errW_none, errW_some] <;> rfl), by repeat (first | (with_reducible first | exact HB.out | apply below_alloc | apply pw_below_drewN | apply below_drew1) | exact HB.out)⟩
              · replace c12 := Bool.eq_false_iff.mpr c12
                subst c12
                have H1 : (if 0 < (l0.length : Int) then (if ((rd_T43 l0 0).f1) = 0 then (some (a1, 0)) else (if 0 ≤ a2 then (if a2 < (l0.length : Int) then (some (wrap64 (Int.tdiv (wrap64 (a1 * ((rd_T43 l0 a2).f1))) ((rd_T43 l0 0).f1)), 0)) else (none)) else (none))) else (none)) = some (r1, r2) := by rw [if_neg (show ¬ (false = true) by decide)] at H; exact H
                clear H
                have H := H1
                clear H1
                by_cases c13 : 0 < (l0.length : Int)
                · rw [if_pos c13] at H
                  have c13b0 : decide (0 < (l0.length : Int)) = true := decide_eq_true c13
                  have c13b1 : decide (0 < l0.length) = true := decide_eq_true (by omega)
                  clear c13
                  by_cases c14 : ((rd_T43 l0 0).f1) = 0
                  · rw [if_pos c14] at H
                    have c14b0 : (((rd_T43 l0 0).f1) == 0) = true := beq_iff_eq.mpr c14
                    have c14b1 : (((rd_T43 l0 0).f1) != 0) = false := bne_eq_false_iff_eq.mpr c14
                    clear c14
                    simp only [Option.some.injEq, Prod.mk.injEq] at H
                    obtain ⟨rfl, rfl⟩ := H
                    have p134 : 0 ≤ (0 : Int) := (by omega)
                    have q134 : 0 < (l0.length : Int) := of_decide_eq_true (by first | (with_reducible assumption) | assumption)
                    obtain ⟨ad134, e134, hx134_0, hx134_1, hx134_2, hx134_3, hx134_4⟩ := at_T43 HR0.out 0 p134 q134
                    cases e134
                    have qi134 : (0 < l0.length) = True := eq_true (by omega)
                    (try rw [show ((0 : Int)).toNat = 0 from rfl] at hx134_0)
                    (try rw [show 0 * 5 = 0 from rfl] at hx134_0)
                    (try rw [Addr.add_zero'] at hx134_0)
                    (try rw [show ((0 : Int)).toNat = 0 from rfl] at hx134_1)
                    (try rw [show 0 * 5 = 0 from rfl] at hx134_1)
                    (try rw [Addr.add_zero'] at hx134_1)
                    (try rw [show ((0 : Int)).toNat = 0 from rfl] at hx134_2)
                    (try rw [show 0 * 5 = 0 from rfl] at hx134_2)
                    (try rw [Addr.add_zero'] at hx134_2)
                    (try rw [show ((0 : Int)).toNat = 0 from rfl] at hx134_3)
                    (try rw [show 0 * 5 = 0 from rfl] at hx134_3)
                    (try rw [Addr.add_zero'] at hx134_3)
                    (try rw [show ((0 : Int)).toNat = 0 from rfl] at hx134_4)
                    (try rw [show 0 * 5 = 0 from rfl] at hx134_4)
                    (try rw [Addr.add_zero'] at hx134_4)
                    replace hx134_0 := (HB.out.cell (World.block_lt_of_cell? w _ hx134_0)).trans hx134_0
                    replace hx134_1 := (HB.out.cell (World.block_lt_of_cell? w _ hx134_1)).trans hx134_1
                    replace hx134_2 := (HB.out.cell (World.block_lt_of_cell? w _ hx134_2)).trans hx134_2
                    replace hx134_3 := (HB.out.cell (World.block_lt_of_cell? w _ hx134_3)).trans hx134_3
                    replace hx134_4 := (HB.out.cell (World.block_lt_of_cell? w _ hx134_4)).trans hx134_4
                    replace p134 := eq_true p134
                    replace q134 := eq_true q134
                    go_wp2
                    repeat (go_quiet (fail); try go_wp2)
                    go_ret2
                    exact ⟨by first | rfl | (simp [errW_none, errW_some] <;> rfl) | (simp [*, errW_none, errW_some] <;> rfl), by repeat (first | (with_reducible first | exact HB.out | apply below_alloc | apply pw_below_drewN | apply below_drew1) | exact HB.out)⟩
                  · rw [if_neg c14] at H
                    have c14b0 : (((rd_T43 l0 0).f1) == 0) = false := beq_eq_false_iff_ne.mpr c14
                    have c14b1 : (((rd_T43 l0 0).f1) != 0) = true := bne_iff_ne.mpr c14
                    by_cases c15 : 0 ≤ a2
                    · rw [if_pos c15] at H
                      have c15b0 : decide (0 ≤ a2) = true := decide_eq_true c15
                      clear c15
                      by_cases c16 : a2 < (l0.length : Int)
                      · rw [if_pos c16] at H
                        have c16b0 : decide (a2 < (l0.length : Int)) = true := decide_eq_true c16
                        clear c16
                        simp only [Option.some.injEq, Prod.mk.injEq] at H
                        obtain ⟨rfl, rfl⟩ := H
                        have p134 : 0 ≤ (0 : Int) := (by omega)
                        have q134 : 0 < (l0.length : Int) := of_decide_eq_true (by first | (with_reducible assumption) | assumption)
                        obtain ⟨ad134, e134, hx134_0, hx134_1, hx134_2, hx134_3, hx134_4⟩ := at_T43 HR0.out 0 p134 q134
                        cases e134
                        have qi134 : (0 < l0.length) = True := eq_true (by omega)
                        (try rw [show ((0 : Int)).toNat = 0 from rfl] at hx134_0)
                        (try rw [show 0 * 5 = 0 from rfl] at hx134_0)
                        (try rw [Addr.add_zero'] at hx134_0)
                        (try rw [show ((0 : Int)).toNat = 0 from rfl] at hx134_1)
                        (try rw [show 0 * 5 = 0 from rfl] at hx134_1)
                        (try rw [Addr.add_zero'] at hx134_1)
                        (try rw [show ((0 : Int)).toNat = 0 from rfl] at hx134_2)
                        (try rw [show 0 * 5 = 0 from rfl] at hx134_2)
                        (try rw [Addr.add_zero'] at hx134_2)
                        (try rw [show ((0 : Int)).toNat = 0 from rfl] at hx134_3)
                        (try rw [show 0 * 5 = 0 from rfl] at hx134_3)
                        (try rw [Addr.add_zero'] at hx134_3)
                        (try rw [show ((0 : Int)).toNat = 0 from rfl] at hx134_4)
                        (try rw [show 0 * 5 = 0 from rfl] at hx134_4)
                        (try rw [Addr.add_zero'] at hx134_4)
                        replace hx134_0 := (HB.out.cell (World.block_lt_of_cell? w _ hx134_0)).trans hx134_0
                        replace hx134_1 := (HB.out.cell (World.block_lt_of_cell? w _ hx134_1)).trans hx134_1
                        replace hx134_2 := (HB.out.cell (World.block_lt_of_cell? w _ hx134_2)).trans hx134_2
                        replace hx134_3 := (HB.out.cell (World.block_lt_of_cell? w _ hx134_3)).trans hx134_3
                        replace hx134_4 := (HB.out.cell (World.block_lt_of_cell? w _ hx134_4)).trans hx134_4
                        replace p134 := eq_true p134
                        replace q134 := eq_true q134
                        have p135 : 0 ≤ (a2 : Int) := of_decide_eq_true (by first | (with_reducible assumption) | assumption)
                        have q135 : a2 < (l0.length : Int) := of_decide_eq_true (by first | (with_reducible assumption) | assumption)
                        obtain ⟨ad135, e135, hx135_0, hx135_1, hx135_2, hx135_3, hx135_4⟩ := at_T43 HR0.out a2 p135 q135
                        obtain rfl : ad134 = ad135 := (by injection e135)
                        replace hx135_0 := (HB.out.cell (World.block_lt_of_cell? w _ hx135_0)).trans hx135_0
                        replace hx135_1 := (HB.out.cell (World.block_lt_of_cell? w _ hx135_1)).trans hx135_1
                        replace hx135_2 := (HB.out.cell (World.block_lt_of_cell? w _ hx135_2)).trans hx135_2
                        replace hx135_3 := (HB.out.cell (World.block_lt_of_cell? w _ hx135_3)).trans hx135_3
                        replace hx135_4 := (HB.out.cell (World.block_lt_of_cell? w _ hx135_4)).trans hx135_4
                        replace p135 := eq_true p135
                        replace q135 := eq_true q135
                        have p136 : 0 ≤ (0 : Int) := (by omega)
                        have q136 : 0 < (l0.length : Int) := of_decide_eq_true (by first | (with_reducible assumption) | assumption)
                        obtain ⟨ad136, e136, hx136_0, hx136_1, hx136_2, hx136_3, hx136_4⟩ := at_T43 HR0.out 0 p136 q136
                        obtain rfl : ad134 = ad136 := (by injection e136)
                        have qi136 : (0 < l0.length) = True := eq_true (by omega)
                        (try rw [show ((0 : Int)).toNat = 0 from rfl] at hx136_0)
                        (try rw [show 0 * 5 = 0 from rfl] at hx136_0)
                        (try rw [Addr.add_zero'] at hx136_0)
                        (try rw [show ((0 : Int)).toNat = 0 from rfl] at hx136_1)
                        (try rw [show 0 * 5 = 0 from rfl] at hx136_1)
                        (try rw [Addr.add_zero'] at hx136_1)
                        (try rw [show ((0 : Int)).toNat = 0 from rfl] at hx136_2)
                        (try rw [show 0 * 5 = 0 from rfl] at hx136_2)
                        (try rw [Addr.add_zero'] at hx136_2)
                        (try rw [show ((0 : Int)).toNat = 0 from rfl] at hx136_3)
                        (try rw [show 0 * 5 = 0 from rfl] at hx136_3)
                        (try rw [Addr.add_zero'] at hx136_3)
                        (try rw [show ((0 : Int)).toNat = 0 from rfl] at hx136_4)
                        (try rw [show 0 * 5 = 0 from rfl] at hx136_4)
                        (try rw [Addr.add_zero'] at hx136_4)
                        replace hx136_0 := (HB.out.cell (World.block_lt_of_cell? w _ hx136_0)).trans hx136_0
                        replace hx136_1 := (HB.out.cell (World.block_lt_of_cell? w _ hx136_1)).trans hx136_1
                        replace hx136_2 := (HB.out.cell (World.block_lt_of_cell? w _ hx136_2)).trans hx136_2
                        replace hx136_3 := (HB.out.cell (World.block_lt_of_cell? w _ hx136_3)).trans hx136_3
                        replace hx136_4 := (HB.out.cell (World.block_lt_of_cell? w _ hx136_4)).trans hx136_4
                        replace p136 := eq_true p136
                        replace q136 := eq_true q136
                        go_wp2
                        repeat (go_quiet (fail); try go_wp2)
                        go_ret2
                        exact ⟨by first | rfl | (simp [errW_none, errW_some] <;> rfl) | (simp [*, errW_none, errW_some] <;> rfl), by repeat (first | (with_reducible first | exact HB.out | apply below_alloc | apply pw_below_drewN | apply below_drew1) | exact HB.out)⟩
                      · rw [if_neg c16] at H
                        exact absurd H (by simp)
                    · rw [if_neg c15] at H
                      exact absurd H (by simp)
                · rw [if_neg c13] at H
                  exact absurd H (by simp)
  · rw [if_neg c5] at H
    have c5b0 : (t133 == 0) = false := beq_eq_false_iff_ne.mpr c5
    have c5b1 : (t133 != 0) = true := bne_iff_ne.mpr c5
    simp only [Option.some.injEq, Prod.mk.injEq] at H
    obtain ⟨rfl, rfl⟩ := H
    go_enter Try.func19, Try.ntmps19
    go_wp2_with (first | (go_at_call 28; (with_reducible refine (accounts_Check.calls k _ _ l0 t133 _ ?side1 ?side2 A4.out).mono ?_); (case side1 => repeat (first | exact HR0.out | (with_reducible refine Kd.C_alloc ?_ _) | (with_reducible refine Kd.C_drewN ?_ _) | (with_reducible refine Kd.C_drew ?_))); (case side2 => exact HC0.out); rintro e w17 ⟨rfl, hb⟩; have n0_ := Aside0.mk (below_step (by repeat (first | (with_reducible first | exact HB.out | apply below_alloc | apply pw_below_drewN | apply below_drew1) | exact HB.out)) hb); clear HB; have HB := n0_; clear n0_; (try clear hb); (try clear hb2); (try clear hk); (try clear hi)))
    repeat (go_quiet (first | (go_at_call 28; (with_reducible refine (accounts_Check.calls k _ _ l0 t133 _ ?side1 ?side2 A4.out).mono ?_); (case side1 => repeat (first | exact HR0.out | (with_reducible refine Kd.C_alloc ?_ _) | (with_reducible refine Kd.C_drewN ?_ _) | (with_reducible refine Kd.C_drew ?_))); (case side2 => exact HC0.out); rintro e w17 ⟨rfl, hb⟩; have n0_ := Aside0.mk (below_step (by repeat (first | (with_reducible first | exact HB.out | apply below_alloc | apply pw_below_drewN | apply below_drew1) | exact HB.out)) hb); clear HB; have HB := n0_; clear n0_; (try clear hb); (try clear hb2); (try clear hk); (try clear hi))); try go_wp2_with (first | (go_at_call 28; (with_reducible refine (accounts_Check.calls k _ _ l0 t133 _ ?side1 ?side2 A4.out).mono ?_); (case side1 => repeat (first | exact HR0.out | (with_reducible refine Kd.C_alloc ?_ _) | (with_reducible refine Kd.C_drewN ?_ _) | (with_reducible refine Kd.C_drew ?_))); (case side2 => exact HC0.out); rintro e w17 ⟨rfl, hb⟩; have n0_ := Aside0.mk (below_step (by repeat (first | (with_reducible first | exact HB.out | apply below_alloc | apply pw_below_drewN | apply below_drew1) | exact HB.out)) hb); clear HB; have HB := n0_; clear n0_; (try clear hb); (try clear hb2); (try clear hk); (try clear hi))))
    go_ret2
    exact ⟨by first | rfl | (simp [errW_none, errW_some] <;> rfl) | (simp [*, errW_none, errW_some] <;> rfl), by repeat (first | (with_reducible first | exact HB.out | apply below_alloc | apply pw_below_drewN | apply below_drew1) | exact HB.out)⟩

/-! ### estoverslaw30_Frames: function 21 -/
def estoverslaw30_Frames.l0 : Nat → List (S35) → List (S61) → Int → Int → Option ((List (S35)))
  | 0, _, _, _, _ => none
  | k + 1, x3, x6, x7, x8 => if x8 < x7 then (if 0 ≤ x8 then (if x8 < (x6.length : Int) then (if x3.length < 977343669134 then (estoverslaw30_Frames.l0 k (x3 ++ [(⟨wrap64 ((rd_T61 x6 x8).f0), wrap64 ((rd_T61 x6 x8).f1), 0, 0, 0, 0, 0, 0, 0, (rd_T61 x6 x8).f3, (rd_T61 x6 x8).f2, false, false, 0, ([] : List (S93)), ([] : List Int)⟩ : S35)]) x6 x7 (wrap64 (x8 + 1))) else (none)) else (none)) else (none)) else (some x3)
def estoverslaw30_Frames.f (k : Nat) (l0 : List (S61)) : Option ((List (S35))) := estoverslaw30_Frames.l0 k ([] : List (S35)) l0 (l0.length : Int) 0
theorem estoverslaw30_Frames.mono_l : ∀ k, (∀ y0 y1 y2 y3, LeO (estoverslaw30_Frames.l0 k y0 y1 y2 y3) (estoverslaw30_Frames.l0 (k + 1) y0 y1 y2 y3))
  | 0 => fun _ _ _ _ r h => by simp [estoverslaw30_Frames.l0] at h
  | k + 1 => by
    have ih0 := estoverslaw30_Frames.mono_l k
    · intro y0 y1 y2 y3
      unfold estoverslaw30_Frames.l0
      repeat' first
      | (with_reducible exact ih0 _ _ _ _)
      | (with_reducible exact LeO.refl _)
      | (with_reducible exact LeO.none _)
      | (with_reducible refine LeO.ite ?_ ?_)
      | (with_reducible refine LeO.bind ?_ (fun _ => ?_))
      | exact ih0 _ _ _ _
      | exact LeO.none _
      | refine LeO.ite ?_ ?_
      | refine LeO.bind ?_ (fun _ => ?_)
theorem estoverslaw30_Frames.mono : ∀ a0 k, LeO (estoverslaw30_Frames.f k a0) (estoverslaw30_Frames.f (k + 1) a0) := by
  intro a0 k
  have ih0 := estoverslaw30_Frames.mono_l k
  unfold estoverslaw30_Frames.f
  repeat' first
      | (with_reducible exact ih0 _ _ _ _)
      | (with_reducible exact LeO.refl _)
      | (with_reducible exact LeO.none _)
      | (with_reducible refine LeO.ite ?_ ?_)
      | (with_reducible refine LeO.bind ?_ (fun _ => ?_))
      | exact ih0 _ _ _ _
      | exact LeO.none _
      | refine LeO.ite ?_ ?_
      | refine LeO.bind ?_ (fun _ => ?_)
set_option maxHeartbeats 8000000 in
set_option maxRecDepth 100000 in
theorem estoverslaw30_Frames.calls (k : Nat) (A0 : Option Addr) (c0 : Nat) (l0 : List (S61)) (r : List (S35)) (w : World) (hr0 : Kd.C k61 w A0 l0.length l0) (hc0 : l0.length ≤ c0) (h : estoverslaw30_Frames.f k l0 = some r) :
    Calls Try.prog 21 #[.slice A0 l0.length c0] w fun e w' => ∃ v0_ : Value, e = .returned (v0_) ∧ Kd.S k35 35 w' w.heap.size (fun _ => True) v0_ r ∧ Below w.heap.size w w' := by
  have hu61 := Try.underlying61
  have hu35 := Try.underlying35
  have HR0 := Aside0.mk hr0
  have HC0 := Aside0.mk hc0
  clear hr0 hc0
  have HB := Aside0.mk (Below.refl w.heap.size w)
  have H : (estoverslaw30_Frames.l0 k ([] : List (S35)) l0 (l0.length : Int) 0) = some r := h
  clear h
  have H' := Aside0.mk H
  clear H
  go_enter Try.func21, Try.ntmps21
  go_wp2
  go_loopg [3, 8] k (fun kq v3 v8 w' => ∃ (x3_1 : List (S35)) (x8_1 : Int), v8 = .int .i64 x8_1 ∧ Aside0 (estoverslaw30_Frames.l0 kq x3_1 l0 (l0.length : Int) x8_1 = some r) ∧ Aside0 (kq ≤ k) ∧ Aside0 (Kd.S k35 35 w' w.heap.size (fun _ => True) v3 x3_1) ∧ Aside0 (Below w.heap.size w w'))
  case atStart => exact ⟨(([] : List (S35))), (0), (by first | rfl | (simp; done) | (simp [*]; done)), H', ⟨Nat.le_refl _⟩, ⟨by first | exact Kd.S_nil _ _ _ _ _ | exact Kd.N_nil _ _ _ _ _ | exact Kd.V_nil _ _ _ _ _ | exact Kd.Q_nil _ _ _ _ _ | exact Kd.R_nil _ _ _ _ _⟩, ⟨by repeat (first | (with_reducible first | exact HB.out | apply below_alloc | apply pw_below_drewN | apply below_drew1) | exact HB.out)⟩⟩
  case round =>
    clear H'
    obtain ⟨x3_1, x8_1, rfl, HA, HK1, HO_3, HB⟩ := hrel
    cases gk with
    | zero => exact absurd HA.out (by simp [estoverslaw30_Frames.l0])
    | succ k1 =>
      have H := HA.out
      clear HA
      simp only [estoverslaw30_Frames.l0] at H
      by_cases c2 : x8_1 < (l0.length : Int)
      · rw [if_pos c2] at H
        have c2b0 : decide (x8_1 < (l0.length : Int)) = true := decide_eq_true c2
        clear c2
        by_cases c3 : 0 ≤ x8_1
        · rw [if_pos c3] at H
          have c3b0 : decide (0 ≤ x8_1) = true := decide_eq_true c3
          clear c3
          by_cases c4 : x8_1 < (l0.length : Int)
          · rw [if_pos c4] at H
            have c4b0 : decide (x8_1 < (l0.length : Int)) = true := decide_eq_true c4
            clear c4
            by_cases c5 : x3_1.length < 977343669134
            · rw [if_pos c5] at H
              have LMc5 := Aside0.mk c5
              clear c5
              obtain ⟨y139, hy139⟩ : ∃ y_ : List (S35), y_ = (x3_1 ++ [(⟨wrap64 ((rd_T61 l0 x8_1).f0), wrap64 ((rd_T61 l0 x8_1).f1), 0, 0, 0, 0, 0, 0, 0, (rd_T61 l0 x8_1).f3, (rd_T61 l0 x8_1).f2, false, false, 0, ([] : List (S93)), ([] : List Int)⟩ : S35)]) := ⟨_, rfl⟩
              replace H : (estoverslaw30_Frames.l0 k1 y139 l0 (l0.length : Int) (wrap64 (x8_1 + 1))) = some r := by first | (rw [hy139]; with_reducible exact H) | (have H2_ := (Option.bind_some _ _).symm.trans H; rw [hy139]; with_reducible exact H2_) | (have H2_ := (Option.bind_some _ _).symm.trans H; with_reducible exact H2_) | with_reducible exact H | (rw [hy139]; exact H) | exact H
              have Ny139 := Aside0.mk hy139
              clear hy139
              have H' := Aside0.mk H
              clear H
              have p137 : 0 ≤ (x8_1 : Int) := of_decide_eq_true (by first | (with_reducible assumption) | assumption)
              have q137 : x8_1 < (l0.length : Int) := of_decide_eq_true (by first | (with_reducible assumption) | assumption)
              obtain ⟨ad137, e137, hx137_0, hx137_1, hx137_2, hx137_3⟩ := at_T61 HR0.out x8_1 p137 q137
              cases e137
              replace hx137_0 := (HB.out.cell (World.block_lt_of_cell? w _ hx137_0)).trans hx137_0
              replace hx137_1 := (HB.out.cell (World.block_lt_of_cell? w _ hx137_1)).trans hx137_1
              replace hx137_2 := (HB.out.cell (World.block_lt_of_cell? w _ hx137_2)).trans hx137_2
              replace hx137_3 := (HB.out.cell (World.block_lt_of_cell? w _ hx137_3)).trans hx137_3
              replace p137 := eq_true p137
              replace q137 := eq_true q137
              go_wp2_with (first | ((with_reducible refine gate_dst (N := 5) rfl ?_); refine box_event ?hg (N := 5) ?hd (cs := #[.int .u8 0, .int .u8 0, .bool false, .int .i64 0]) (t := 61) ?hr ?_; (case hd => rfl); (case hg => rfl); (case hr => first | (go_simp; done) | (go_simp; rfl)); intro gb138 hg w6 hbox hb; have n0_ := Aside0.mk (Kd.S_below (by (with_reducible repeat (first | apply Kd.S_alloc | apply Kd.S_drewN | apply Kd.S_drew)); exact HO_3.out) hb); have n1_ := Aside0.mk (below_step (by repeat (first | (with_reducible first | exact HB.out | apply below_alloc | apply pw_below_drewN | apply below_drew1) | exact HB.out)) hb); have n2_ := Aside0.mk (hbox); have n3_ := Aside0.mk ((by rw [hg]; exact (below_size (by repeat (first | (with_reducible first | exact HB.out | apply below_alloc | apply pw_below_drewN | apply below_drew1) | exact HB.out))) : w.heap.size ≤ gb138)); have n4_ := Aside0.mk ((by rw [hg]; exact (below_size (by repeat (first | (with_reducible first | exact HB.out | apply below_alloc | apply pw_below_drewN | apply below_drew1) | exact HB.out))) : w.heap.size ≤ gb138)); clear HO_3; clear HB; have HO_3 := n0_; have HB := n1_; have BK138 := n2_; have GW138 := n3_; have GE138 := n4_; clear n0_ n1_ n2_ n3_ n4_; clear hb hbox hg; have hcz7_0 : w6.cell? ⟨gb138, 0, none⟩ = some (.int .u8 0) := (blk_cell BK138.out 0).trans rfl; have hcz7_1 : w6.cell? ⟨gb138, 1, none⟩ = some (.int .u8 0) := (blk_cell BK138.out 1).trans rfl; have hcz7_2 : w6.cell? ⟨gb138, 2, none⟩ = some (.bool false) := (blk_cell BK138.out 2).trans rfl; have hcz7_3 : w6.cell? ⟨gb138, 3, none⟩ = some (.int .i64 0) := (blk_cell BK138.out 3).trans rfl; have hfz7_0 := blk_frozen BK138.out 0; have hfz7_1 := blk_frozen BK138.out 1; have hfz7_2 := blk_frozen BK138.out 2; have hfz7_3 := blk_frozen BK138.out 3) | ((with_reducible refine gate_builtin (b := .append) (xs := #[.tmp 12, .tmp 24]) rfl ?_); at_builtin; refine Kd.S_append k35 (w0 := w) w.heap.size rfl (.tmp 12) (.tmp 24) 29 35 (.agg #[(.int .i64 0), (.int .i64 0), (.int .i64 0), (.int .i64 0), (.int .i64 0), (.int .i64 0), (.int .i64 0), (.int .i64 0), (.int .i64 0), (.int .i64 0), (.bool false), (.bool false), (.bool false), (.int .i64 0), (.slice none 0 0), (.slice none 0 0)]) 144 rfl Try.underlying29 info35 rfl (by decide) (by omega) u3 x3_1 (⟨wrap64 ((rd_T61 l0 x8_1).f0), wrap64 ((rd_T61 l0 x8_1).f1), 0, 0, 0, 0, 0, 0, 0, (rd_T61 l0 x8_1).f3, (rd_T61 l0 x8_1).f2, false, false, 0, ([] : List (S93)), ([] : List Int)⟩ : S35) [.int .i64 (wrap64 ((rd_T61 l0 x8_1).f0)), .int .i64 (wrap64 ((rd_T61 l0 x8_1).f1)), .int .i64 0, .int .i64 0, .int .i64 0, .int .i64 0, .int .i64 0, .int .i64 0, .int .i64 0, .int .i64 ((rd_T61 l0 x8_1).f3), .bool ((rd_T61 l0 x8_1).f2), .bool false, .bool false, .int .i64 0, .slice none 0 0, .slice none 0 0] (fun _ => True) (fun _ => False) rfl (by first | (go_simp; done) | (go_simp; rfl)) ?aP (fun k_ hk_ => hk_.elim) ?aF ?aO ?aB ?aS ?aL ?_; (case aP => exact k35_mkM _ _ _ (⟨wrap64 ((rd_T61 l0 x8_1).f0), wrap64 ((rd_T61 l0 x8_1).f1), 0, 0, 0, 0, 0, 0, 0, (rd_T61 l0 x8_1).f3, (rd_T61 l0 x8_1).f2, false, false, 0, ([] : List (S93)), ([] : List Int)⟩ : S35) (Kd.R_nil _ _ _ _ _) (Kd.R_nil _ _ _ _ _)); (case aB => exact (by repeat (first | (with_reducible first | exact HB.out | apply below_alloc | apply pw_below_drewN | apply below_drew1 | refine below_set ?_ GE138.out) | exact HB.out))); (case aF => exact (fun _ _ => trivial)); (case aO => exact (by (with_reducible repeat (first | apply Kd.S_alloc | apply Kd.S_drewN | apply Kd.S_drew)); exact Kd.S_mono (Kd.S_far (p := ⟨gb138, 3, none⟩) (Kd.S_far (p := ⟨gb138, 2, none⟩) (Kd.S_far (p := ⟨gb138, 1, none⟩) (Kd.S_far (p := ⟨gb138, 0, none⟩) (Kd.S_types HO_3.out BK138.out (by decide)) (fun _ hk => hk.2) (.int .u8 ((rd_T61 l0 x8_1).f0))) (fun _ hk => hk.2) (.int .u8 ((rd_T61 l0 x8_1).f1))) (fun _ hk => hk.2) (.bool ((rd_T61 l0 x8_1).f2))) (fun _ hk => hk.2) (.int .i64 ((rd_T61 l0 x8_1).f3))) (fun k_ hk => ⟨trivial, fun e_ => e_⟩))); (case aS => exact (below_size (by repeat (first | (with_reducible first | exact HB.out | apply below_alloc | apply pw_below_drewN | apply below_drew1 | refine below_set ?_ GE138.out) | exact HB.out)))); (case aL => have := LMc5.out; omega); intro v140 w8 ho hb hg hat; rw [← Ny139.out] at ho; have n0_ := Aside0.mk (blk_grown (g := gb138) (o := .cells #[.int .u8 ((rd_T61 l0 x8_1).f0), .int .u8 ((rd_T61 l0 x8_1).f1), .bool ((rd_T61 l0 x8_1).f2), .int .i64 ((rd_T61 l0 x8_1).f3)] 61 (0, 0)) (by (with_reducible repeat (first | refine blk_drewN ?_ _ | refine blk_drew ?_ | refine blk_alloc ?_ _)); refine blk_put (cs := #[.int .u8 ((rd_T61 l0 x8_1).f0), .int .u8 ((rd_T61 l0 x8_1).f1), .bool ((rd_T61 l0 x8_1).f2), .int .i64 0]) ?_ 3 _ rfl; (with_reducible repeat (first | refine blk_drewN ?_ _ | refine blk_drew ?_ | refine blk_alloc ?_ _)); refine blk_put (cs := #[.int .u8 ((rd_T61 l0 x8_1).f0), .int .u8 ((rd_T61 l0 x8_1).f1), .bool false, .int .i64 0]) ?_ 2 _ rfl; (with_reducible repeat (first | refine blk_drewN ?_ _ | refine blk_drew ?_ | refine blk_alloc ?_ _)); refine blk_put (cs := #[.int .u8 ((rd_T61 l0 x8_1).f0), .int .u8 0, .bool false, .int .i64 0]) ?_ 1 _ rfl; (with_reducible repeat (first | refine blk_drewN ?_ _ | refine blk_drew ?_ | refine blk_alloc ?_ _)); refine blk_put (cs := #[.int .u8 0, .int .u8 0, .bool false, .int .i64 0]) ?_ 0 _ rfl; (with_reducible repeat (first | refine blk_drewN ?_ _ | refine blk_drew ?_ | refine blk_alloc ?_ _)); exact BK138.out) hg (Kd.S_ne HO_3.out BK138.out (by decide))); have n1_ := Aside0.mk (hb); have n2_ := Aside0.mk (ho); clear BK138; clear HB; clear HO_3; have BK138 := n0_; have HB := n1_; have HO141 := n2_; clear n0_ n1_ n2_; clear ho hb hg hat))
              go_roundg k1
              case measure => have := HK1.out; omega
              case rel => exact ⟨(y139), (wrap64 (x8_1 + 1)), (by first | rfl | (simp; done) | (simp [*]; done)), H', ⟨by have := HK1.out; omega⟩, ⟨by (with_reducible repeat (first | apply Kd.S_alloc | apply Kd.S_drewN | apply Kd.S_drew)); exact HO141.out⟩, ⟨by repeat (first | (with_reducible first | exact HB.out | apply below_alloc | apply pw_below_drewN | apply below_drew1 | refine below_set ?_ GE138.out) | exact HB.out)⟩⟩
            · rw [if_neg c5] at H
              exact absurd H (by simp)
          · rw [if_neg c4] at H
            exact absurd H (by simp)
        · rw [if_neg c3] at H
          exact absurd H (by simp)
      · rw [if_neg c2] at H
        have c2b0 : decide (x8_1 < (l0.length : Int)) = false := decide_eq_false c2
        clear c2
        obtain rfl := Option.some.inj H
        go_wp2
        go_ret
        exact ⟨_, by first | rfl | (simp [errW_none, errW_some] <;> rfl) | (simp [*, errW_none, errW_some] <;> rfl), by (with_reducible repeat (first | apply Kd.S_alloc | apply Kd.S_drewN | apply Kd.S_drew)); exact HO_3.out, by repeat (first | (with_reducible first | exact HB.out | apply below_alloc | apply pw_below_drewN | apply below_drew1) | exact HB.out)⟩

end Go.Proofs.Ytpomppjeknmciaa.PThrottleSum
