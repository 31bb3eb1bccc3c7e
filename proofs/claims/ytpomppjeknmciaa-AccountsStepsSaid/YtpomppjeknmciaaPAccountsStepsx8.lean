-- Printed by a copy of the kit's printer that this session has patched (wip/tools/patch_print.py): the session's own text. Lean checks it.
import Derived.Test.YtpomppjeknmciaaPAccountsStepsx0
import Derived.Test.YtpomppjeknmciaaPAccountsStepsx7
namespace Go.Proofs.Ytpomppjeknmciaa.PAccountsSteps
open Go.RowKit Go.Proofs.YtpomppjeknmciaaW.PrintWords Go.Proofs.YtpomppjeknmciaaW.PrintLast Go.Proofs.YtpomppjeknmciaaW.PrintMore
attribute [local go_sem] max2_int min2_int max_two min_two max_three min_three max_four min_four   -- for this text's walks alone
set_option linter.unusedVariables false
set_option linter.unusedSimpArgs false

/-! ### estoversref19_has: function 55 -/
def estoversref19_has.f (k : Nat) (l0 : List (S43)) (a1 : Int) : Option (Bool) := (estoversref19_Check.f k l0).bind fun t255 => (if t255 = 0 then (if a1 ≥ 0 then (some (decide (a1 < (l0.length : Int)))) else (some false)) else (some false))
theorem estoversref19_has.mono : ∀ a0 a1 k, LeO (estoversref19_has.f k a0 a1) (estoversref19_has.f (k + 1) a0 a1) := by
  intro a0 a1 k
  unfold estoversref19_has.f
  repeat' first
      | (with_reducible exact estoversref19_Check.mono _ _)
      | (with_reducible exact LeO.refl _)
      | (with_reducible exact LeO.none _)
      | (with_reducible refine LeO.ite ?_ ?_)
      | (with_reducible refine LeO.bind ?_ (fun _ => ?_))
      | exact estoversref19_Check.mono _ _
      | exact LeO.none _
      | refine LeO.ite ?_ ?_
      | refine LeO.bind ?_ (fun _ => ?_)
set_option maxHeartbeats 8000000 in
set_option maxRecDepth 100000 in
theorem estoversref19_has.calls (k : Nat) (A0 : Option Addr) (c0 : Nat) (l0 : List (S43)) (a1 : Int) (r : Bool) (w : World) (hr0 : Kd.C k43 w A0 l0.length l0) (hc0 : l0.length ≤ c0) (h : estoversref19_has.f k l0 a1 = some r) :
    Calls Try.prog 55 #[.slice A0 l0.length c0, .int .i64 a1] w fun e w' => e = .returned (.bool r) ∧ Drawn0 w w' := by
  have HR0 := Aside0.mk hr0
  have HC0 := Aside0.mk hc0
  clear hr0 hc0
  have H : ((estoversref19_Check.f k l0).bind fun t255 => (if t255 = 0 then (if a1 ≥ 0 then (some (decide (a1 < (l0.length : Int)))) else (some false)) else (some false))) = some r := h
  clear h
  replace H := Option.bind_eq_some_iff.mp H
  obtain ⟨t255, A30, H⟩ := H
  replace H : (if t255 = 0 then (if a1 ≥ 0 then (some (decide (a1 < (l0.length : Int)))) else (some false)) else (some false)) = some r := H
  have A3 := Aside0.mk A30
  clear A30
  by_cases c4 : t255 = 0
  · rw [if_pos c4] at H
    have c4b0 : (t255 == 0) = true := beq_iff_eq.mpr c4
    have c4b1 : (t255 != 0) = false := bne_eq_false_iff_eq.mpr c4
    clear c4
    by_cases c5 : a1 ≥ 0
    · rw [if_pos c5] at H
      have c5b0 : decide (0 ≤ a1) = true := decide_eq_true c5
      clear c5
      obtain rfl := Option.some.inj H
      go_enter Try.func55, Try.ntmps55
      go_wp2_with (first | ((with_reducible refine gate_callee (f := 25) rfl ?_); refine goesL_ (some 6) rfl rfl Try.func25 (by kernel_rfl) rfl #[.slice A0 l0.length c0] rfl (by (try simp only [List.map_toArray, List.map_cons, List.map_nil]); first | done | rfl | (simp only [List.length_drop, List.length_take]; rfl)) ?_; (with_reducible refine (estoversref19_Check.calls k _ _ l0 t255 _ ?side1 ?side2 A3.out).mono ?_); (case side1 => repeat (first | exact HR0.out | (with_reducible refine Kd.C_alloc ?_ _) | (with_reducible refine Kd.C_drewN ?_ _) | (with_reducible refine Kd.C_drew ?_))); (case side2 => exact HC0.out); rintro e w' ⟨rfl, ⟨nd, rfl⟩⟩; refine ⟨_, rfl, ?_⟩))
      go_ret
      exact ⟨by first | rfl | (simp; done) | (simp [*]; done), by repeat (first | exact Drawn0.refl _ | apply Drawn0.step)⟩
    · rw [if_neg c5] at H
      have c5b0 : decide (0 ≤ a1) = false := decide_eq_false c5
      clear c5
      obtain rfl := Option.some.inj H
      go_enter Try.func55, Try.ntmps55
      go_wp2_with (first | ((with_reducible refine gate_callee (f := 25) rfl ?_); refine goesL_ (some 6) rfl rfl Try.func25 (by kernel_rfl) rfl #[.slice A0 l0.length c0] rfl (by (try simp only [List.map_toArray, List.map_cons, List.map_nil]); first | done | rfl | (simp only [List.length_drop, List.length_take]; rfl)) ?_; (with_reducible refine (estoversref19_Check.calls k _ _ l0 t255 _ ?side1 ?side2 A3.out).mono ?_); (case side1 => repeat (first | exact HR0.out | (with_reducible refine Kd.C_alloc ?_ _) | (with_reducible refine Kd.C_drewN ?_ _) | (with_reducible refine Kd.C_drew ?_))); (case side2 => exact HC0.out); rintro e w' ⟨rfl, ⟨nd, rfl⟩⟩; refine ⟨_, rfl, ?_⟩))
      go_ret
      exact ⟨by first | rfl | (simp; done) | (simp [*]; done), by repeat (first | exact Drawn0.refl _ | apply Drawn0.step)⟩
  · rw [if_neg c4] at H
    have c4b0 : (t255 == 0) = false := beq_eq_false_iff_ne.mpr c4
    have c4b1 : (t255 != 0) = true := bne_iff_ne.mpr c4
    obtain rfl := Option.some.inj H
    go_enter Try.func55, Try.ntmps55
    go_wp2_with (first | ((with_reducible refine gate_callee (f := 25) rfl ?_); refine goesL_ (some 6) rfl rfl Try.func25 (by kernel_rfl) rfl #[.slice A0 l0.length c0] rfl (by (try simp only [List.map_toArray, List.map_cons, List.map_nil]); first | done | rfl | (simp only [List.length_drop, List.length_take]; rfl)) ?_; (with_reducible refine (estoversref19_Check.calls k _ _ l0 t255 _ ?side1 ?side2 A3.out).mono ?_); (case side1 => repeat (first | exact HR0.out | (with_reducible refine Kd.C_alloc ?_ _) | (with_reducible refine Kd.C_drewN ?_ _) | (with_reducible refine Kd.C_drew ?_))); (case side2 => exact HC0.out); rintro e w' ⟨rfl, ⟨nd, rfl⟩⟩; refine ⟨_, rfl, ?_⟩))
    go_ret
    exact ⟨by first | rfl | (simp; done) | (simp [*]; done), by repeat (first | exact Drawn0.refl _ | apply Drawn0.step)⟩

/-! ### estoversref19_Path: function 32 -/
def estoversref19_Path.l0 : Nat → List (S43) → Int → List Int → Option (List Int)
  | 0, _, _, _ => none
  | k + 1, x0, x1, x5 => if x1 ≥ 0 then (if x5.length < 17592186044416 then (if 0 ≤ x1 then (if x1 < (x0.length : Int) then (estoversref19_Path.l0 k x0 ((rd_T43 x0 x1).f0) (x5 ++ [x1])) else (none)) else (none)) else (none)) else (some x5)
def estoversref19_Path.f (k : Nat) (l0 : List (S43)) (a1 : Int) : Option (List Int) := (estoversref19_has.f k l0 a1).bind fun t256 => (if t256 = true then (estoversref19_Path.l0 k l0 a1 ([] : List Int)) else (some ([] : List Int)))
theorem estoversref19_Path.mono_l : ∀ k, (∀ y0 y1 y2, LeO (estoversref19_Path.l0 k y0 y1 y2) (estoversref19_Path.l0 (k + 1) y0 y1 y2))
  | 0 => fun _ _ _ r h => by simp [estoversref19_Path.l0] at h
  | k + 1 => by
    have ih0 := estoversref19_Path.mono_l k
    · intro y0 y1 y2
      unfold estoversref19_Path.l0
      repeat' first
      | (with_reducible exact ih0 _ _ _)
      | (with_reducible exact estoversref19_has.mono _ _ _)
      | (with_reducible exact LeO.refl _)
      | (with_reducible exact LeO.none _)
      | (with_reducible refine LeO.ite ?_ ?_)
      | (with_reducible refine LeO.bind ?_ (fun _ => ?_))
      | exact ih0 _ _ _
      | exact estoversref19_has.mono _ _ _
      | exact LeO.none _
      | refine LeO.ite ?_ ?_
      | refine LeO.bind ?_ (fun _ => ?_)
theorem estoversref19_Path.mono : ∀ a0 a1 k, LeO (estoversref19_Path.f k a0 a1) (estoversref19_Path.f (k + 1) a0 a1) := by
  intro a0 a1 k
  have ih0 := estoversref19_Path.mono_l k
  unfold estoversref19_Path.f
  repeat' first
      | (with_reducible exact ih0 _ _ _)
      | (with_reducible exact estoversref19_has.mono _ _ _)
      | (with_reducible exact LeO.refl _)
      | (with_reducible exact LeO.none _)
      | (with_reducible refine LeO.ite ?_ ?_)
      | (with_reducible refine LeO.bind ?_ (fun _ => ?_))
      | exact ih0 _ _ _
      | exact estoversref19_has.mono _ _ _
      | exact LeO.none _
      | refine LeO.ite ?_ ?_
      | refine LeO.bind ?_ (fun _ => ?_)
set_option maxHeartbeats 8000000 in
set_option maxRecDepth 100000 in
theorem estoversref19_Path.calls (k : Nat) (A0 : Option Addr) (c0 : Nat) (l0 : List (S43)) (a1 : Int) (r : List Int) (w : World) (hr0 : Kd.C k43 w A0 l0.length l0) (hc0 : l0.length ≤ c0) (h : estoversref19_Path.f k l0 a1 = some r) :
    Calls Try.prog 32 #[.slice A0 l0.length c0, .int .i64 a1] w fun e w' => ∃ v0_ : Value, e = .returned (v0_) ∧ Kd.R (Kd.int .i64) 3 w' w.heap.size (fun _ => True) v0_ r ∧ Below w.heap.size w w' := by
  have HR0 := Aside0.mk hr0
  have HC0 := Aside0.mk hc0
  clear hr0 hc0
  have HB := Aside0.mk (Below.refl w.heap.size w)
  have H : ((estoversref19_has.f k l0 a1).bind fun t256 => (if t256 = true then (estoversref19_Path.l0 k l0 a1 ([] : List Int)) else (some ([] : List Int)))) = some r := h
  clear h
  replace H := Option.bind_eq_some_iff.mp H
  obtain ⟨t256, A30, H⟩ := H
  replace H : (if t256 = true then (estoversref19_Path.l0 k l0 a1 ([] : List Int)) else (some ([] : List Int))) = some r := H
  have A3 := Aside0.mk A30
  clear A30
  by_cases c4 : t256 = true
  · subst c4
    have H1 : (estoversref19_Path.l0 k l0 a1 ([] : List Int)) = some r := by rw [if_pos rfl] at H; exact H
    clear H
    have H := H1
    clear H1
    have H' := Aside0.mk H
    clear H
    go_enter Try.func32, Try.ntmps32
    go_wp2_with (first | ((with_reducible refine gate_callee (f := 55) rfl ?_); refine goesL_ (some 8) rfl rfl Try.func55 (by kernel_rfl) rfl #[.slice A0 l0.length c0, .int .i64 a1] rfl (by (try simp only [List.map_toArray, List.map_cons, List.map_nil]); first | done | rfl | (simp only [List.length_drop, List.length_take]; rfl)) ?_; (with_reducible refine (estoversref19_has.calls k _ _ l0 a1 true _ ?side1 ?side2 A3.out).mono ?_); (case side1 => repeat (first | exact HR0.out | (with_reducible refine Kd.C_alloc ?_ _) | (with_reducible refine Kd.C_drewN ?_ _) | (with_reducible refine Kd.C_drew ?_))); (case side2 => exact HC0.out); rintro e w' ⟨rfl, ⟨nd, rfl⟩⟩; refine ⟨_, rfl, ?_⟩))
    go_loopg [1, 5] k (fun kq v1 v5 w' => ∃ (x1_1 : Int) (x5_1 : List Int), v1 = .int .i64 x1_1 ∧ Aside0 (estoversref19_Path.l0 kq l0 x1_1 x5_1 = some r) ∧ Aside0 (kq ≤ k) ∧ Aside0 (Kd.R (Kd.int .i64) 3 w' w.heap.size (fun _ => True) v5 x5_1) ∧ Aside0 (Below w.heap.size w w'))
    case atStart => exact ⟨(a1), (([] : List Int)), (by first | rfl | (simp; done) | (simp [*]; done)), H', ⟨Nat.le_refl _⟩, ⟨by first | exact Kd.R_nil _ _ _ _ _ | exact Kd.N_nil _ _ _ _ _ | exact Kd.V_nil _ _ _ _ _ | exact Kd.Q_nil _ _ _ _ _ | exact Kd.S_nil _ _ _ _ _⟩, ⟨by repeat (first | (with_reducible first | exact HB.out | apply below_alloc | apply pw_below_drewN | apply below_drew1) | exact HB.out)⟩⟩
    case round =>
      clear H'
      try clear p2
      try clear c3
      try clear c4
      obtain ⟨x1_1, x5_1, rfl, HA, HK1, HO_5, HB⟩ := hrel
      cases gk with
      | zero => exact absurd HA.out (by simp [estoversref19_Path.l0])
      | succ k1 =>
        have H := HA.out
        clear HA
        simp only [estoversref19_Path.l0] at H
        by_cases c5 : x1_1 ≥ 0
        · rw [if_pos c5] at H
          have c5b0 : decide (0 ≤ x1_1) = true := decide_eq_true c5
          clear c5
          by_cases c6 : x5_1.length < 17592186044416
          · rw [if_pos c6] at H
            have LMc6 := Aside0.mk c6
            clear c6
            obtain ⟨y257, hy257⟩ : ∃ y_ : List Int, y_ = (x5_1 ++ [x1_1]) := ⟨_, rfl⟩
            replace H : (if 0 ≤ x1_1 then (if x1_1 < (l0.length : Int) then (estoversref19_Path.l0 k1 l0 ((rd_T43 l0 x1_1).f0) y257) else (none)) else (none)) = some r := by first | (rw [hy257]; with_reducible exact H) | (have H2_ := (Option.bind_some _ _).symm.trans H; rw [hy257]; with_reducible exact H2_) | (have H2_ := (Option.bind_some _ _).symm.trans H; with_reducible exact H2_) | with_reducible exact H | (rw [hy257]; exact H) | exact H
            have Ny257 := Aside0.mk hy257
            clear hy257
            by_cases c7 : 0 ≤ x1_1
            · rw [if_pos c7] at H
              have c7b0 : decide (0 ≤ x1_1) = true := decide_eq_true c7
              clear c7
              by_cases c8 : x1_1 < (l0.length : Int)
              · rw [if_pos c8] at H
                have c8b0 : decide (x1_1 < (l0.length : Int)) = true := decide_eq_true c8
                clear c8
                have H' := Aside0.mk H
                clear H
                go_wp2_with (first | ((with_reducible refine gate_builtin (b := .append) (xs := #[.tmp 12, .tmp 14]) rfl ?_); at_builtin; refine Kd.R_append (Kd.int .i64) (w0 := w) w.heap.size rfl (.tmp 12) (.tmp 14) 41 3 (.int .i64 0) 8 rfl Try.underlying41 info3 rfl (by decide) (by omega) u5 x5_1 x1_1 [.int .i64 x1_1] (fun _ => True) (fun _ => False) rfl rfl ?aP (fun _ hk => hk.elim) ?aF ?aO ?aB ?aS ?aL ?_; (case aP => exact rfl); (case aB => exact (by repeat (first | (with_reducible first | exact HB.out | apply below_alloc | apply pw_below_drewN | apply below_drew1) | exact HB.out))); (case aF => exact (fun _ _ => trivial)); (case aO => exact (by (with_reducible repeat (first | apply Kd.R_alloc | apply Kd.R_drewN | apply Kd.R_drew)); exact HO_5.out)); (case aS => exact (below_size (by repeat (first | (with_reducible first | exact HB.out | apply below_alloc | apply pw_below_drewN | apply below_drew1) | exact HB.out)))); (case aL => have := LMc6.out; omega); intro v258 w9 ho hb hg hat; rw [← Ny257.out] at ho; have n0_ := Aside0.mk (hb); have n1_ := Aside0.mk (ho); clear HB; clear HO_5; have HB := n0_; have HO259 := n1_; clear n0_ n1_; clear ho hb hg hat; have p260 : 0 ≤ (x1_1 : Int) := of_decide_eq_true (by first | (with_reducible assumption) | assumption); have q260 : x1_1 < (l0.length : Int) := of_decide_eq_true (by first | (with_reducible assumption) | assumption); obtain ⟨ad260, e260, hx260_0, hx260_1, hx260_2, hx260_3, hx260_4⟩ := at_T43 HR0.out x1_1 p260 q260; cases e260; replace hx260_0 := (HB.out.cell (World.block_lt_of_cell? w _ hx260_0)).trans hx260_0; replace hx260_1 := (HB.out.cell (World.block_lt_of_cell? w _ hx260_1)).trans hx260_1; replace hx260_2 := (HB.out.cell (World.block_lt_of_cell? w _ hx260_2)).trans hx260_2; replace hx260_3 := (HB.out.cell (World.block_lt_of_cell? w _ hx260_3)).trans hx260_3; replace hx260_4 := (HB.out.cell (World.block_lt_of_cell? w _ hx260_4)).trans hx260_4; replace p260 := eq_true p260; replace q260 := eq_true q260))
                go_roundg k1
                case measure => have := HK1.out; omega
                case rel => exact ⟨((rd_T43 l0 x1_1).f0), (y257), (by first | rfl | (simp; done) | (simp [*]; done)), H', ⟨by have := HK1.out; omega⟩, ⟨by (with_reducible repeat (first | apply Kd.R_alloc | apply Kd.R_drewN | apply Kd.R_drew)); exact HO259.out⟩, ⟨by repeat (first | (with_reducible first | exact HB.out | apply below_alloc | apply pw_below_drewN | apply below_drew1) | exact HB.out)⟩⟩
              · rw [if_neg c8] at H
                exact absurd H (by simp)
            · rw [if_neg c7] at H
              exact absurd H (by simp)
          · rw [if_neg c6] at H
            exact absurd H (by simp)
        · rw [if_neg c5] at H
          have c5b0 : decide (0 ≤ x1_1) = false := decide_eq_false c5
          clear c5
          obtain rfl := Option.some.inj H
          go_wp2
          go_ret
          exact ⟨_, by first | rfl | (simp [errW_none, errW_some] <;> rfl) | (simp [*, errW_none, errW_some] <;> rfl), by (with_reducible repeat (first | apply Kd.R_alloc | apply Kd.R_drewN | apply Kd.R_drew)); exact HO_5.out, by repeat (first | (with_reducible first | exact HB.out | apply below_alloc | apply pw_below_drewN | apply below_drew1) | exact HB.out)⟩
  · replace c4 := Bool.eq_false_iff.mpr c4
    subst c4
    have H1 : (some ([] : List Int)) = some r := by rw [if_neg (show ¬ (false = true) by decide)] at H; exact H
    clear H
    have H := H1
    clear H1
    obtain rfl := Option.some.inj H
    go_enter Try.func32, Try.ntmps32
    go_wp2_with (first | ((with_reducible refine gate_callee (f := 55) rfl ?_); refine goesL_ (some 8) rfl rfl Try.func55 (by kernel_rfl) rfl #[.slice A0 l0.length c0, .int .i64 a1] rfl (by (try simp only [List.map_toArray, List.map_cons, List.map_nil]); first | done | rfl | (simp only [List.length_drop, List.length_take]; rfl)) ?_; (with_reducible refine (estoversref19_has.calls k _ _ l0 a1 false _ ?side1 ?side2 A3.out).mono ?_); (case side1 => repeat (first | exact HR0.out | (with_reducible refine Kd.C_alloc ?_ _) | (with_reducible refine Kd.C_drewN ?_ _) | (with_reducible refine Kd.C_drew ?_))); (case side2 => exact HC0.out); rintro e w' ⟨rfl, ⟨nd, rfl⟩⟩; refine ⟨_, rfl, ?_⟩))
    go_ret
    exact ⟨_, by first | rfl | (simp [errW_none, errW_some] <;> rfl) | (simp [*, errW_none, errW_some] <;> rfl), by first | exact Kd.R_nil _ _ _ _ _ | exact Kd.N_nil _ _ _ _ _ | exact Kd.V_nil _ _ _ _ _ | exact Kd.Q_nil _ _ _ _ _ | exact Kd.S_nil _ _ _ _ _, by repeat (first | (with_reducible first | exact HB.out | apply below_alloc | apply pw_below_drewN | apply below_drew1) | exact HB.out)⟩

/-! ### estoversref19_Copy: function 64 -/
def estoversref19_Copy.l0 : Nat → List (S43) → List (S43) → Int → Option ((List (S43)))
  | 0, _, _, _ => none
  | k + 1, x0, x3, x4 => if x4 < (x0.length : Int) then (if 0 ≤ x4 then (if x3.length < 3518437208883 then (estoversref19_Copy.l0 k x0 (x3 ++ [(⟨(rd_T43 x0 x4).f0, (rd_T43 x0 x4).f1, (rd_T43 x0 x4).f2, (rd_T43 x0 x4).f3, (rd_T43 x0 x4).f4⟩ : S43)]) (wrap64 (x4 + 1))) else (none)) else (none)) else (some x3)
def estoversref19_Copy.f (k : Nat) (l0 : List (S43)) : Option ((List (S43))) := estoversref19_Copy.l0 k l0 ([] : List (S43)) 0
theorem estoversref19_Copy.mono_l : ∀ k, (∀ y0 y1 y2, LeO (estoversref19_Copy.l0 k y0 y1 y2) (estoversref19_Copy.l0 (k + 1) y0 y1 y2))
  | 0 => fun _ _ _ r h => by simp [estoversref19_Copy.l0] at h
  | k + 1 => by
    have ih0 := estoversref19_Copy.mono_l k
    · intro y0 y1 y2
      unfold estoversref19_Copy.l0
      repeat' first
      | (with_reducible exact ih0 _ _ _)
      | (with_reducible exact LeO.refl _)
      | (with_reducible exact LeO.none _)
      | (with_reducible refine LeO.ite ?_ ?_)
      | (with_reducible refine LeO.bind ?_ (fun _ => ?_))
      | exact ih0 _ _ _
      | exact LeO.none _
      | refine LeO.ite ?_ ?_
      | refine LeO.bind ?_ (fun _ => ?_)
theorem estoversref19_Copy.mono : ∀ a0 k, LeO (estoversref19_Copy.f k a0) (estoversref19_Copy.f (k + 1) a0) := by
  intro a0 k
  have ih0 := estoversref19_Copy.mono_l k
  unfold estoversref19_Copy.f
  repeat' first
      | (with_reducible exact ih0 _ _ _)
      | (with_reducible exact LeO.refl _)
      | (with_reducible exact LeO.none _)
      | (with_reducible refine LeO.ite ?_ ?_)
      | (with_reducible refine LeO.bind ?_ (fun _ => ?_))
      | exact ih0 _ _ _
      | exact LeO.none _
      | refine LeO.ite ?_ ?_
      | refine LeO.bind ?_ (fun _ => ?_)
set_option maxHeartbeats 8000000 in
set_option maxRecDepth 100000 in
theorem estoversref19_Copy.calls (k : Nat) (A0 : Option Addr) (c0 : Nat) (l0 : List (S43)) (r : List (S43)) (w : World) (hr0 : Kd.C k43 w A0 l0.length l0) (hc0 : l0.length ≤ c0) (h : estoversref19_Copy.f k l0 = some r) :
    Calls Try.prog 64 #[.slice A0 l0.length c0] w fun e w' => ∃ v0_ : Value, e = .returned (v0_) ∧ Kd.R k43 43 w' w.heap.size (fun _ => True) v0_ r ∧ Below w.heap.size w w' := by
  have hu43 := Try.underlying43
  have HR0 := Aside0.mk hr0
  have HC0 := Aside0.mk hc0
  clear hr0 hc0
  have HB := Aside0.mk (Below.refl w.heap.size w)
  have H : (estoversref19_Copy.l0 k l0 ([] : List (S43)) 0) = some r := h
  clear h
  have H' := Aside0.mk H
  clear H
  go_enter Try.func64, Try.ntmps64
  go_wp2
  go_loopg [3, 4] k (fun kq v3 v4 w' => ∃ (x3_1 : List (S43)) (x4_1 : Int), v4 = .int .i64 x4_1 ∧ Aside0 (estoversref19_Copy.l0 kq l0 x3_1 x4_1 = some r) ∧ Aside0 (kq ≤ k) ∧ Aside0 (Kd.R k43 43 w' w.heap.size (fun _ => True) v3 x3_1) ∧ Aside0 (Below w.heap.size w w'))
  case atStart => exact ⟨(([] : List (S43))), (0), (by first | rfl | (simp; done) | (simp [*]; done)), H', ⟨Nat.le_refl _⟩, ⟨by first | exact Kd.R_nil _ _ _ _ _ | exact Kd.N_nil _ _ _ _ _ | exact Kd.V_nil _ _ _ _ _ | exact Kd.Q_nil _ _ _ _ _ | exact Kd.S_nil _ _ _ _ _⟩, ⟨by repeat (first | (with_reducible first | exact HB.out | apply below_alloc | apply pw_below_drewN | apply below_drew1) | exact HB.out)⟩⟩
  case round =>
    clear H'
    obtain ⟨x3_1, x4_1, rfl, HA, HK1, HO_3, HB⟩ := hrel
    cases gk with
    | zero => exact absurd HA.out (by simp [estoversref19_Copy.l0])
    | succ k1 =>
      have H := HA.out
      clear HA
      simp only [estoversref19_Copy.l0] at H
      by_cases c2 : x4_1 < (l0.length : Int)
      · rw [if_pos c2] at H
        have c2b0 : decide (x4_1 < (l0.length : Int)) = true := decide_eq_true c2
        clear c2
        by_cases c3 : 0 ≤ x4_1
        · rw [if_pos c3] at H
          have c3b0 : decide (0 ≤ x4_1) = true := decide_eq_true c3
          clear c3
          by_cases c4 : x3_1.length < 3518437208883
          · rw [if_pos c4] at H
            have LMc4 := Aside0.mk c4
            clear c4
            obtain ⟨y262, hy262⟩ : ∃ y_ : List (S43), y_ = (x3_1 ++ [(⟨(rd_T43 l0 x4_1).f0, (rd_T43 l0 x4_1).f1, (rd_T43 l0 x4_1).f2, (rd_T43 l0 x4_1).f3, (rd_T43 l0 x4_1).f4⟩ : S43)]) := ⟨_, rfl⟩
            replace H : (estoversref19_Copy.l0 k1 l0 y262 (wrap64 (x4_1 + 1))) = some r := by first | (rw [hy262]; with_reducible exact H) | (have H2_ := (Option.bind_some _ _).symm.trans H; rw [hy262]; with_reducible exact H2_) | (have H2_ := (Option.bind_some _ _).symm.trans H; with_reducible exact H2_) | with_reducible exact H | (rw [hy262]; exact H) | exact H
            have Ny262 := Aside0.mk hy262
            clear hy262
            have H' := Aside0.mk H
            clear H
            have p261 : 0 ≤ (x4_1 : Int) := of_decide_eq_true (by first | (with_reducible assumption) | assumption)
            have q261 : x4_1 < (l0.length : Int) := of_decide_eq_true (by first | (with_reducible assumption) | assumption)
            obtain ⟨ad261, e261, hx261_0, hx261_1, hx261_2, hx261_3, hx261_4⟩ := at_T43 HR0.out x4_1 p261 q261
            cases e261
            replace hx261_0 := (HB.out.cell (World.block_lt_of_cell? w _ hx261_0)).trans hx261_0
            replace hx261_1 := (HB.out.cell (World.block_lt_of_cell? w _ hx261_1)).trans hx261_1
            replace hx261_2 := (HB.out.cell (World.block_lt_of_cell? w _ hx261_2)).trans hx261_2
            replace hx261_3 := (HB.out.cell (World.block_lt_of_cell? w _ hx261_3)).trans hx261_3
            replace hx261_4 := (HB.out.cell (World.block_lt_of_cell? w _ hx261_4)).trans hx261_4
            replace p261 := eq_true p261
            replace q261 := eq_true q261
            go_wp2_with (first | ((with_reducible refine gate_builtin (b := .append) (xs := #[.tmp 11, .tmp 16]) rfl ?_); at_builtin; refine Kd.R_append k43 (w0 := w) w.heap.size rfl (.tmp 11) (.tmp 16) 24 43 (.agg #[(.int .i64 0), (.int .i64 0), (.int .i64 0), (.int .i64 0), (.int .i64 0)]) 40 rfl Try.underlying24 info43 rfl (by decide) (by omega) u3 x3_1 (⟨(rd_T43 l0 x4_1).f0, (rd_T43 l0 x4_1).f1, (rd_T43 l0 x4_1).f2, (rd_T43 l0 x4_1).f3, (rd_T43 l0 x4_1).f4⟩ : S43) [.int .i64 ((rd_T43 l0 x4_1).f0), .int .i64 ((rd_T43 l0 x4_1).f1), .int .i64 ((rd_T43 l0 x4_1).f2), .int .i64 ((rd_T43 l0 x4_1).f3), .int .i64 ((rd_T43 l0 x4_1).f4)] (fun _ => True) (fun _ => False) rfl rfl ?aP (fun _ hk => hk.elim) ?aF ?aO ?aB ?aS ?aL ?_; (case aP => exact k43_mkM _ _ _ (⟨(rd_T43 l0 x4_1).f0, (rd_T43 l0 x4_1).f1, (rd_T43 l0 x4_1).f2, (rd_T43 l0 x4_1).f3, (rd_T43 l0 x4_1).f4⟩ : S43)); (case aB => exact (by repeat (first | (with_reducible first | exact HB.out | apply below_alloc | apply pw_below_drewN | apply below_drew1) | exact HB.out))); (case aF => exact (fun _ _ => trivial)); (case aO => exact (by (with_reducible repeat (first | apply Kd.R_alloc | apply Kd.R_drewN | apply Kd.R_drew)); exact HO_3.out)); (case aS => exact (below_size (by repeat (first | (with_reducible first | exact HB.out | apply below_alloc | apply pw_below_drewN | apply below_drew1) | exact HB.out)))); (case aL => have := LMc4.out; omega); intro v263 w5 ho hb hg hat; rw [← Ny262.out] at ho; have n0_ := Aside0.mk (hb); have n1_ := Aside0.mk (ho); clear HB; clear HO_3; have HB := n0_; have HO264 := n1_; clear n0_ n1_; clear ho hb hg hat))
            go_roundg k1
            case measure => have := HK1.out; omega
            case rel => exact ⟨(y262), (wrap64 (x4_1 + 1)), (by first | rfl | (simp; done) | (simp [*]; done)), H', ⟨by have := HK1.out; omega⟩, ⟨by (with_reducible repeat (first | apply Kd.R_alloc | apply Kd.R_drewN | apply Kd.R_drew)); exact HO264.out⟩, ⟨by repeat (first | (with_reducible first | exact HB.out | apply below_alloc | apply pw_below_drewN | apply below_drew1) | exact HB.out)⟩⟩
          · rw [if_neg c4] at H
            exact absurd H (by simp)
        · rw [if_neg c3] at H
          exact absurd H (by simp)
      · rw [if_neg c2] at H
        have c2b0 : decide (x4_1 < (l0.length : Int)) = false := decide_eq_false c2
        clear c2
        obtain rfl := Option.some.inj H
        go_wp2
        go_ret
        exact ⟨_, by first | rfl | (simp [errW_none, errW_some] <;> rfl) | (simp [*, errW_none, errW_some] <;> rfl), by (with_reducible repeat (first | apply Kd.R_alloc | apply Kd.R_drewN | apply Kd.R_drew)); exact HO_3.out, by repeat (first | (with_reducible first | exact HB.out | apply below_alloc | apply pw_below_drewN | apply below_drew1) | exact HB.out)⟩

/-! ### estoversref19_add: function 59 -/
def estoversref19_add.l0 : Nat → Int → List (S43) → List Int → Int → Option ((List (S43)))
  | 0, _, _, _, _ => none
  | k + 1, x2, x7, x8, x9 => if x9 < (x8.length : Int) then (if 0 ≤ x9 then (if 0 ≤ (rd x8 x9) then (if (rd x8 x9) < (x7.length : Int) then (estoversref19_add.l0 k x2 (x7.set ((rd x8 x9) : Int).toNat (⟨(rd_T43 x7 (rd x8 x9)).f0, wrap64 (((rd_T43 x7 (rd x8 x9)).f1) + x2), (rd_T43 x7 (rd x8 x9)).f2, (rd_T43 x7 (rd x8 x9)).f3, (rd_T43 x7 (rd x8 x9)).f4⟩ : S43)) x8 (wrap64 (x9 + 1))) else (none)) else (none)) else (none)) else (some x7)
def estoversref19_add.f (k : Nat) (l0 : List (S43)) (a1 : Int) (a2 : Int) : Option ((List (S43))) := (estoversref19_Copy.f k l0).bind fun t265 => ((estoversref19_Path.f k l0 a1).bind fun t268 => (estoversref19_add.l0 k a2 t265 t268 0))
theorem estoversref19_add.mono_l : ∀ k, (∀ y0 y1 y2 y3, LeO (estoversref19_add.l0 k y0 y1 y2 y3) (estoversref19_add.l0 (k + 1) y0 y1 y2 y3))
  | 0 => fun _ _ _ _ r h => by simp [estoversref19_add.l0] at h
  | k + 1 => by
    have ih0 := estoversref19_add.mono_l k
    · intro y0 y1 y2 y3
      unfold estoversref19_add.l0
      repeat' first
      | (with_reducible exact ih0 _ _ _ _)
      | (with_reducible exact estoversref19_Copy.mono _ _)
      | (with_reducible exact estoversref19_Path.mono _ _ _)
      | (with_reducible exact LeO.refl _)
      | (with_reducible exact LeO.none _)
      | (with_reducible refine LeO.ite ?_ ?_)
      | (with_reducible refine LeO.bind ?_ (fun _ => ?_))
      | exact ih0 _ _ _ _
      | exact estoversref19_Copy.mono _ _
      | exact estoversref19_Path.mono _ _ _
      | exact LeO.none _
      | refine LeO.ite ?_ ?_
      | refine LeO.bind ?_ (fun _ => ?_)
theorem estoversref19_add.mono : ∀ a0 a1 a2 k, LeO (estoversref19_add.f k a0 a1 a2) (estoversref19_add.f (k + 1) a0 a1 a2) := by
  intro a0 a1 a2 k
  have ih0 := estoversref19_add.mono_l k
  unfold estoversref19_add.f
  repeat' first
      | (with_reducible exact ih0 _ _ _ _)
      | (with_reducible exact estoversref19_Copy.mono _ _)
      | (with_reducible exact estoversref19_Path.mono _ _ _)
      | (with_reducible exact LeO.refl _)
      | (with_reducible exact LeO.none _)
      | (with_reducible refine LeO.ite ?_ ?_)
      | (with_reducible refine LeO.bind ?_ (fun _ => ?_))
      | exact ih0 _ _ _ _
      | exact estoversref19_Copy.mono _ _
      | exact estoversref19_Path.mono _ _ _
      | exact LeO.none _
      | refine LeO.ite ?_ ?_
      | refine LeO.bind ?_ (fun _ => ?_)
def estoversref19_add.T6 : Bool × List (List Nat × List Nat) := (true, [([], []), ([], []), ([], []), ([1, 2], [1, 2]), ([3], [3]), ([], []), ([], []), ([], []), ([6, 7], [6, 7]), ([8], [8]), ([5, 9], [5, 9]), ([10], [10]), ([11], [11]), ([], []), ([12, 13], [12, 13]), ([0, 4, 0, 1, 2, 3, 4, 5, 6, 7, 8, 9, 10, 11, 12, 13, 14], [0, 4]), ([15, 0, 1, 2, 3, 4, 5, 6, 7, 8, 9, 10, 11, 12, 13, 14], [15]), ([16, 14, 0, 1, 2, 3, 4, 5, 6, 7, 8, 9, 10, 11, 12, 13, 14], [14, 16])])
def estoversref19_add.B6 : List Nat := [0, 0, 0, 6, 14, 0, 0, 0, 192, 448, 992, 2016, 4064, 0, 16352, 32767, 65535, 131071]
theorem estoversref19_add.tab6 : rtab .any (opsOf Try.f59 6) = estoversref19_add.T6 := by kernel_rfl
theorem estoversref19_add.bits6 : waitsOk estoversref19_add.T6.2 estoversref19_add.B6 = true := by kernel_rfl
set_option maxHeartbeats 8000000 in
set_option maxRecDepth 100000 in
theorem estoversref19_add.calls (k : Nat) (A0 : Option Addr) (c0 : Nat) (l0 : List (S43)) (a1 : Int) (a2 : Int) (r : List (S43)) (w : World) (hr0 : Kd.C k43 w A0 l0.length l0) (hc0 : l0.length ≤ c0) (h : estoversref19_add.f k l0 a1 a2 = some r) :
    Calls Try.prog 59 #[.slice A0 l0.length c0, .int .i64 a1, .int .i64 a2] w fun e w' => ∃ v0_ : Value, e = .returned (v0_) ∧ Kd.R k43 43 w' w.heap.size (fun _ => True) v0_ r ∧ Below w.heap.size w w' := by
  have HR0 := Aside0.mk hr0
  have HC0 := Aside0.mk hc0
  clear hr0 hc0
  have HB := Aside0.mk (Below.refl w.heap.size w)
  have H : ((estoversref19_Copy.f k l0).bind fun t265 => ((estoversref19_Path.f k l0 a1).bind fun t268 => (estoversref19_add.l0 k a2 t265 t268 0))) = some r := h
  clear h
  replace H := Option.bind_eq_some_iff.mp H
  obtain ⟨t265, A40, H⟩ := H
  replace H : ((estoversref19_Path.f k l0 a1).bind fun t268 => (estoversref19_add.l0 k a2 t265 t268 0)) = some r := H
  have A4 := Aside0.mk A40
  clear A40
  replace H := Option.bind_eq_some_iff.mp H
  obtain ⟨t268, A50, H⟩ := H
  replace H : (estoversref19_add.l0 k a2 t265 t268 0) = some r := H
  have A5 := Aside0.mk A50
  clear A50
  have H' := Aside0.mk H
  clear H
  go_enter Try.func59, Try.ntmps59
  go_wp2_with (first | ((with_reducible refine gate_callee (f := 64) rfl ?_); refine goesL_ (some 11) rfl rfl Try.func64 (by kernel_rfl) rfl #[.slice A0 l0.length c0] rfl (by (try simp only [List.map_toArray, List.map_cons, List.map_nil]); first | done | rfl | (simp only [List.length_drop, List.length_take]; rfl)) ?_; (with_reducible refine (estoversref19_Copy.calls k _ _ l0 t265 _ ?side1 ?side2 A4.out).mono ?_); (case side1 => repeat (first | exact HR0.out | (with_reducible refine Kd.C_alloc ?_ _) | (with_reducible refine Kd.C_drewN ?_ _) | (with_reducible refine Kd.C_drew ?_))); (case side2 => exact HC0.out); rintro e w6 ⟨v266, rfl, ho0, hb⟩; refine ⟨_, rfl, ?_⟩; have n0_ := Aside0.mk (Kd.R_lower ho0 (below_size (by repeat (first | (with_reducible first | exact HB.out | apply below_alloc | apply pw_below_drewN | apply below_drew1) | exact HB.out)))); have n1_ := Aside0.mk (below_step (by repeat (first | (with_reducible first | exact HB.out | apply below_alloc | apply pw_below_drewN | apply below_drew1) | exact HB.out)) hb); clear HB; have HO267 := n0_; have HB := n1_; clear n0_ n1_; (try clear hb); (try clear hb2); (try clear hk); (try clear hi); (try clear ho0)) | ((with_reducible refine gate_callee (f := 32) rfl ?_); refine goesL_ (some 14) rfl rfl Try.func32 (by kernel_rfl) rfl #[.slice A0 l0.length c0, .int .i64 a1] rfl (by (try simp only [List.map_toArray, List.map_cons, List.map_nil]); first | done | rfl | (simp only [List.length_drop, List.length_take]; rfl)) ?_; (with_reducible refine (estoversref19_Path.calls k _ _ l0 a1 t268 _ ?side1 ?side2 A5.out).mono ?_); (case side1 => repeat (first | exact (Kd.C_below HR0.out HB.out) | (with_reducible refine Kd.C_alloc ?_ _) | (with_reducible refine Kd.C_drewN ?_ _) | (with_reducible refine Kd.C_drew ?_))); (case side2 => exact HC0.out); rintro e w7 ⟨v269, rfl, ho0, hb⟩; refine ⟨_, rfl, ?_⟩; have n0_ := Aside0.mk (Kd.R_below (by (with_reducible repeat (first | apply Kd.R_alloc | apply Kd.R_drewN | apply Kd.R_drew)); exact HO267.out) hb); have n1_ := Aside0.mk (Kd.R_lower ho0 (below_size (by repeat (first | (with_reducible first | exact HB.out | apply below_alloc | apply pw_below_drewN | apply below_drew1) | exact HB.out)))); have n2_ := Aside0.mk (below_step (by repeat (first | (with_reducible first | exact HB.out | apply below_alloc | apply pw_below_drewN | apply below_drew1) | exact HB.out)) hb); clear HO267; clear HB; have HO267 := n0_; have HO270 := n1_; have HB := n2_; clear n0_ n1_ n2_; (try clear hb); (try clear hb2); (try clear hk); (try clear hi); (try clear ho0)))
  go_loopg [9] k (fun kq v9 w' => ∃ (x7_1 : List (S43)) (x9_1 : Int), v9 = .int .i64 x9_1 ∧ Aside0 (estoversref19_add.l0 kq a2 x7_1 t268 x9_1 = some r) ∧ Aside0 (kq ≤ k) ∧ Aside0 (Kd.R k43 43 w' w.heap.size (fun _ => True) v266 x7_1) ∧ Aside0 (Kd.R (Kd.int .i64) 3 w' w.heap.size (fun _ => True) v269 t268) ∧ Aside0 (Below w.heap.size w w'))
  case atStart => exact ⟨(t265), (0), (by first | rfl | (simp; done) | (simp [*]; done)), H', ⟨Nat.le_refl _⟩, ⟨by (with_reducible repeat (first | apply Kd.R_alloc | apply Kd.R_drewN | apply Kd.R_drew)); exact HO267.out⟩, ⟨by (with_reducible repeat (first | apply Kd.R_alloc | apply Kd.R_drewN | apply Kd.R_drew)); exact HO270.out⟩, ⟨by repeat (first | (with_reducible first | exact HB.out | apply below_alloc | apply pw_below_drewN | apply below_drew1) | exact HB.out)⟩⟩
  case round =>
    clear H'
    try clear p2
    try clear c3
    try clear c5
    try clear c6
    obtain ⟨x7_1, x9_1, rfl, HA, HK1, HO_7, HO_8, HB⟩ := hrel
    cases gk with
    | zero => exact absurd HA.out (by simp [estoversref19_add.l0])
    | succ k1 =>
      have H := HA.out
      clear HA
      simp only [estoversref19_add.l0] at H
      by_cases c8 : x9_1 < (t268.length : Int)
      · rw [if_pos c8] at H
        have c8b0 : decide (x9_1 < (t268.length : Int)) = true := decide_eq_true c8
        clear c8
        by_cases c9 : 0 ≤ x9_1
        · rw [if_pos c9] at H
          have c9b0 : decide (0 ≤ x9_1) = true := decide_eq_true c9
          clear c9
          by_cases c10 : 0 ≤ (rd t268 x9_1)
          · rw [if_pos c10] at H
            have c10b0 : decide (0 ≤ (rd t268 x9_1)) = true := decide_eq_true c10
            clear c10
            by_cases c11 : (rd t268 x9_1) < (x7_1.length : Int)
            · rw [if_pos c11] at H
              have c11b0 : decide ((rd t268 x9_1) < (x7_1.length : Int)) = true := decide_eq_true c11
              clear c11
              obtain ⟨y274, hy274⟩ : ∃ y_ : List (S43), y_ = (x7_1.set ((rd t268 x9_1) : Int).toNat (⟨(rd_T43 x7_1 (rd t268 x9_1)).f0, wrap64 (((rd_T43 x7_1 (rd t268 x9_1)).f1) + a2), (rd_T43 x7_1 (rd t268 x9_1)).f2, (rd_T43 x7_1 (rd t268 x9_1)).f3, (rd_T43 x7_1 (rd t268 x9_1)).f4⟩ : S43)) := ⟨_, rfl⟩
              replace H : (estoversref19_add.l0 k1 a2 y274 t268 (wrap64 (x9_1 + 1))) = some r := by first | (rw [hy274]; with_reducible exact H) | (have H2_ := (Option.bind_some _ _).symm.trans H; rw [hy274]; with_reducible exact H2_) | (have H2_ := (Option.bind_some _ _).symm.trans H; with_reducible exact H2_) | with_reducible exact H | (rw [hy274]; exact H) | exact H
              have Ny274 := Aside0.mk hy274
              clear hy274
              have H' := Aside0.mk H
              clear H
              obtain ⟨Ao13, co13, eo13⟩ := Kd.R_slice HO_8.out
              subst eo13
              try go_wp2
              have n0_ := Aside0.mk (Kd.R_drew HO_7.out)
              have n1_ := Aside0.mk (Kd.R_drew HO_8.out)
              have n2_ := Aside0.mk (below_drew1 HB.out)
              clear HO_7
              clear HO_8
              clear HB
              have HO_7 := n0_
              have HO_8 := n1_
              have HB := n2_
              clear n0_ n1_ n2_
              have p271 : 0 ≤ (x9_1 : Int) := of_decide_eq_true (by first | (with_reducible assumption) | assumption)
              have q271 : x9_1 < (t268.length : Int) := of_decide_eq_true (by first | (with_reducible assumption) | assumption)
              obtain ⟨ad271, e271, hx271_0⟩ := Kd.at_int (Kd.R_reads' HO_8.out).2.2 x9_1 p271 q271
              cases e271
              replace p271 := eq_true p271
              replace q271 := eq_true q271
              have p272 : 0 ≤ (x9_1 : Int) := of_decide_eq_true (by first | (with_reducible assumption) | assumption)
              have q272 : x9_1 < (t268.length : Int) := of_decide_eq_true (by first | (with_reducible assumption) | assumption)
              obtain ⟨ad272, e272, hx272_0⟩ := Kd.at_int (Kd.R_reads' HO_8.out).2.2 x9_1 p272 q272
              obtain rfl : ad271 = ad272 := (by injection e272)
              replace p272 := eq_true p272
              replace q272 := eq_true q272
              obtain ⟨Ao15, co15, eo15⟩ := Kd.R_slice HO_7.out
              (first | subst eo15 | (injection eo15 with f1_ f2_ f3_; have f4_ := f1_.symm; have f5_ := f3_.symm; clear f1_ f2_ f3_; subst f4_; subst f5_))
              have p273 : 0 ≤ ((rd t268 x9_1) : Int) := of_decide_eq_true (by first | (with_reducible assumption) | assumption)
              have q273 : (rd t268 x9_1) < (x7_1.length : Int) := of_decide_eq_true (by first | (with_reducible assumption) | assumption)
              obtain ⟨ad273, e273, hx273_0, hx273_1, hx273_2, hx273_3, hx273_4⟩ := at_T43 (Kd.R_reads' HO_7.out).2.2 (rd t268 x9_1) p273 q273
              cases e273
              replace p273 := eq_true p273
              replace q273 := eq_true q273
              have p12 : 0 ≤ ((rd t268 x9_1) : Int) := of_decide_eq_true (by first | (with_reducible assumption) | assumption)
              have q12 : ((rd t268 x9_1) : Int) < ((x7_1.length : Int) : Int) := of_decide_eq_true (by first | (with_reducible assumption) | assumption)
              obtain ⟨go12, co12, eo12, gb12, gl12, cl12, HG12⟩ := Kd.R_form HO_7.out (by omega)
              (first | cases eo12 | (injection eo12 with ea_ en_ ec_; (first | subst ea_ | (injection ea_ with ea_; subst ea_)); subst ec_; clear en_))
              have GB12 := Aside0.mk gb12
              have GG12 := Aside0.mk HG12
              clear gb12 gl12 HG12
              (first | simp only [add_plain] at hx273_0 | skip)
              (first | simp only [add_plain] at hx273_1 | skip)
              (first | simp only [add_plain] at hx273_2 | skip)
              (first | simp only [add_plain] at hx273_3 | skip)
              (first | simp only [add_plain] at hx273_4 | skip)
              obtain ⟨ce12, hcl12, hM12, hcc12, hfr12⟩ := Kd.R_elem HO_7.out z43 ((rd t268 x9_1) : Int) p12 q12
              obtain rfl := k43_openM hM12
              have hx12_0 : World.cell? _ ⟨go12, ((rd t268 x9_1) : Int).toNat * 5, none⟩ = some (.int .i64 ((rd_T43 x7_1 (rd t268 x9_1)).f0)) := hcc12 0 _ rfl
              have hx12_1 : World.cell? _ ⟨go12, ((rd t268 x9_1) : Int).toNat * 5 + 1, none⟩ = some (.int .i64 ((rd_T43 x7_1 (rd t268 x9_1)).f1)) := hcc12 1 _ rfl
              have hx12_2 : World.cell? _ ⟨go12, ((rd t268 x9_1) : Int).toNat * 5 + 2, none⟩ = some (.int .i64 ((rd_T43 x7_1 (rd t268 x9_1)).f2)) := hcc12 2 _ rfl
              have hx12_3 : World.cell? _ ⟨go12, ((rd t268 x9_1) : Int).toNat * 5 + 3, none⟩ = some (.int .i64 ((rd_T43 x7_1 (rd t268 x9_1)).f3)) := hcc12 3 _ rfl
              have hx12_4 : World.cell? _ ⟨go12, ((rd t268 x9_1) : Int).toNat * 5 + 4, none⟩ = some (.int .i64 ((rd_T43 x7_1 (rd t268 x9_1)).f4)) := hcc12 4 _ rfl
              have hf12_0 : World.frozen? _ ⟨go12, ((rd t268 x9_1) : Int).toNat * 5, none⟩ = false := hfr12 0
              have hf12_1 : World.frozen? _ ⟨go12, ((rd t268 x9_1) : Int).toNat * 5 + 1, none⟩ = false := hfr12 1
              have hf12_2 : World.frozen? _ ⟨go12, ((rd t268 x9_1) : Int).toNat * 5 + 2, none⟩ = false := hfr12 2
              have hf12_3 : World.frozen? _ ⟨go12, ((rd t268 x9_1) : Int).toNat * 5 + 3, none⟩ = false := hfr12 3
              have hf12_4 : World.frozen? _ ⟨go12, ((rd t268 x9_1) : Int).toNat * 5 + 4, none⟩ = false := hfr12 4
              clear hcl12 hcc12 hfr12 hM12
              replace p12 := eq_true p12
              replace q12 := eq_true q12
              obtain ⟨ce16, hcl16, hM16, hcc16, hfr16⟩ := Kd.R_elem HO_7.out z43 ((rd t268 x9_1) : Int) (of_decide_eq_true (by first | (with_reducible assumption) | assumption)) (by have h_ : ((rd t268 x9_1) : Int) < ((x7_1.length : Int) : Int) := of_decide_eq_true (by first | (with_reducible assumption) | assumption); first | exact h_ | (have e_ := (Kd.R_reads' HO_7.out).1; omega) | simpa using h_)
              obtain rfl := k43_openM hM16
              have HP16 := (Kd.R_seg HO_7.out ((rd t268 x9_1) : Int) (of_decide_eq_true (by first | (with_reducible assumption) | assumption)) (by have h_ : ((rd t268 x9_1) : Int) < ((x7_1.length : Int) : Int) := of_decide_eq_true (by first | (with_reducible assumption) | assumption); first | exact h_ | (have e_ := (Kd.R_reads' HO_7.out).1; omega) | simpa using h_) (seg := [.int .i64 (wrap64 (((rd_T43 x7_1 (rd t268 x9_1)).f1) + a2))]) (j := 1) hcl16 hcc16 (show 2 ≤ 5 from by decide) (x' := (⟨(rd_T43 x7_1 (rd t268 x9_1)).f0, wrap64 (((rd_T43 x7_1 (rd t268 x9_1)).f1) + a2), (rd_T43 x7_1 (rd t268 x9_1)).f2, (rd_T43 x7_1 (rd t268 x9_1)).f3, (rd_T43 x7_1 (rd t268 x9_1)).f4⟩ : S43)) (k43_mkM _ _ _ (⟨(rd_T43 x7_1 (rd t268 x9_1)).f0, wrap64 (((rd_T43 x7_1 (rd t268 x9_1)).f1) + a2), (rd_T43 x7_1 (rd t268 x9_1)).f2, (rd_T43 x7_1 (rd t268 x9_1)).f3, (rd_T43 x7_1 (rd t268 x9_1)).f4⟩ : S43) ) (fun _ hk => hk)).1
              rw [← Ny274.out] at HP16
              have HQ16 := Aside0.mk HP16
              clear hcl16 hcc16 hfr16 hM16 HP16
              refine start_ (n := 18) (S := fun w' => w'.cell? (ad271.add (x9_1).toNat) = some (.int .i64 (rd t268 x9_1)) ∧ w'.cell? (ad271.add (x9_1).toNat) = some (.int .i64 (rd t268 x9_1)) ∧ w'.cell? ⟨go12, ((rd t268 x9_1)).toNat * 5, none⟩ = some (.int .i64 ((rd_T43 x7_1 (rd t268 x9_1)).f0)) ∧ w'.cell? ⟨go12, ((rd t268 x9_1)).toNat * 5 + 1, none⟩ = some (.int .i64 ((rd_T43 x7_1 (rd t268 x9_1)).f1)) ∧ w'.cell? ⟨go12, ((rd t268 x9_1)).toNat * 5 + 2, none⟩ = some (.int .i64 ((rd_T43 x7_1 (rd t268 x9_1)).f2)) ∧ w'.cell? ⟨go12, ((rd t268 x9_1)).toNat * 5 + 3, none⟩ = some (.int .i64 ((rd_T43 x7_1 (rd t268 x9_1)).f3)) ∧ w'.cell? ⟨go12, ((rd t268 x9_1)).toNat * 5 + 4, none⟩ = some (.int .i64 ((rd_T43 x7_1 (rd t268 x9_1)).f4))) (ds := [17]) #[false, false, false, false, false, false, false, false, false, false, false, false, false, false, false, false, false, false] (by kernel_rfl) rfl rfl ⟨hx271_0, hx272_0, hx273_0, hx273_1, hx273_2, hx273_3, hx273_4⟩ (fun hHeld => ?_); refine with_tabW estoversref19_add.tab6 estoversref19_add.bits6 (fun HT_ HW_ => ?_)
              generalize wr.drew = w14 at HO_7 HO_8 HB GG12 HQ16 hf12_0 hf12_1 hf12_2 hf12_3 hf12_4 hx12_0 hx12_1 hx12_2 hx12_3 hx12_4 hx271_0 hx272_0 hx273_0 hx273_1 hx273_2 hx273_3 hx273_4 hHeld ⊢
              refine pure_ (i := 0) (N := some 21) (v := ?_) (a' := ?_) #[true, false, false, false, false, false, false, false, false, false, false, false, false, false, false, false, false, false] rfl rfl (any_of HT_.out (by kernel_rfl)) (fun _ _ _ h => h) (Or.inl ⟨by rfl, ?_⟩) ?_ ?_
              rotate_left
              · intro w'
                go_simp
                with_reducible rfl
              rotate_left
              · simp only [Act.put, List.setIfInBounds_toArray, List.set_cons_zero, List.set_cons_succ, i64_w, i32_w]
                rfl
              refine pure_ (i := 1) (N := some 22) (v := ?_) (a' := ?_) #[true, true, false, false, false, false, false, false, false, false, false, false, false, false, false, false, false, false] rfl rfl (any_of HT_.out (by kernel_rfl)) (fun _ _ _ h => h) (Or.inl ⟨by rfl, ?_⟩) ?_ ?_
              rotate_left
              · intro w'
                go_simp
                with_reducible rfl
              rotate_left
              · simp only [Act.put, List.setIfInBounds_toArray, List.set_cons_zero, List.set_cons_succ, i64_w, i32_w]
                rfl
              refine pure_ (i := 2) (N := some 23) (v := ?_) (a' := ?_) #[true, true, true, false, false, false, false, false, false, false, false, false, false, false, false, false, false, false] rfl rfl (any_of HT_.out (by kernel_rfl)) (fun _ _ _ h => h) (Or.inl ⟨by rfl, ?_⟩) ?_ ?_
              rotate_left
              · intro w'
                go_simp
                with_reducible rfl
              rotate_left
              · simp only [Act.put, List.setIfInBounds_toArray, List.set_cons_zero, List.set_cons_succ, i64_w, i32_w]
                rfl
              refine pure_ (i := 3) (N := some 24) (v := ?_) (a' := ?_) #[true, true, true, true, false, false, false, false, false, false, false, false, false, false, false, false, false, false] rfl rfl (any_of HT_.out (by kernel_rfl)) (fun _ _ _ h => h) (Or.inl ⟨by rfl, ?_⟩) ?_ ?_
              rotate_left
              · intro w'
                go_simp
                with_reducible rfl
              rotate_left
              · simp only [Act.put, List.setIfInBounds_toArray, List.set_cons_zero, List.set_cons_succ, i64_w, i32_w]
                rfl
              refine pure_ (i := 5) (N := some 26) (v := ?_) (a' := ?_) #[true, true, true, true, false, true, false, false, false, false, false, false, false, false, false, false, false, false] rfl rfl (any_of HT_.out (by kernel_rfl)) (fun _ _ _ h => h) (Or.inl ⟨by rfl, ?_⟩) ?_ ?_
              rotate_left
              · intro w'
                go_simp
                with_reducible rfl
              rotate_left
              · simp only [Act.put, List.setIfInBounds_toArray, List.set_cons_zero, List.set_cons_succ, i64_w, i32_w]
                rfl
              refine pure_ (i := 6) (N := some 27) (v := ?_) (a' := ?_) #[true, true, true, true, false, true, true, false, false, false, false, false, false, false, false, false, false, false] rfl rfl (any_of HT_.out (by kernel_rfl)) (fun _ _ _ h => h) (Or.inl ⟨by rfl, ?_⟩) ?_ ?_
              rotate_left
              · intro w'
                go_simp
                with_reducible rfl
              rotate_left
              · simp only [Act.put, List.setIfInBounds_toArray, List.set_cons_zero, List.set_cons_succ, i64_w, i32_w]
                rfl
              refine pure_ (i := 7) (N := some 28) (v := ?_) (a' := ?_) #[true, true, true, true, false, true, true, true, false, false, false, false, false, false, false, false, false, false] rfl rfl (any_of HT_.out (by kernel_rfl)) (fun _ _ _ h => h) (Or.inl ⟨by rfl, ?_⟩) ?_ ?_
              rotate_left
              · intro w'
                go_simp
                with_reducible rfl
              rotate_left
              · simp only [Act.put, List.setIfInBounds_toArray, List.set_cons_zero, List.set_cons_succ, i64_w, i32_w]
                rfl
              refine pure_ (i := 8) (N := some 29) (v := ?_) (a' := ?_) #[true, true, true, true, false, true, true, true, true, false, false, false, false, false, false, false, false, false] rfl rfl (any_of HT_.out (by kernel_rfl)) (fun _ _ _ h => h) (Or.inl ⟨by rfl, ?_⟩) ?_ ?_
              rotate_left
              · intro w'
                go_simp
                with_reducible rfl
              rotate_left
              · simp only [Act.put, List.setIfInBounds_toArray, List.set_cons_zero, List.set_cons_succ, i64_w, i32_w]
                rfl
              refine pure_ (i := 13) (N := some 34) (v := ?_) (a' := ?_) #[true, true, true, true, false, true, true, true, true, false, false, false, false, true, false, false, false, false] rfl rfl (any_of HT_.out (by kernel_rfl)) (fun _ _ _ h => h) (Or.inl ⟨by rfl, ?_⟩) ?_ ?_
              rotate_left
              · intro w'
                go_simp
                with_reducible rfl
              rotate_left
              · simp only [Act.put, List.setIfInBounds_toArray, List.set_cons_zero, List.set_cons_succ, i64_w, i32_w]
                rfl
              refine take_ (i := 4) (N := some 25) (v := ?_) (a' := ?_) #[true, true, true, true, true, true, true, true, true, false, false, false, false, true, false, false, false, false] rfl rfl (take_ofW HT_.out HW_.out (by kernel_rfl)) (fun _ _ _ h => h) (Or.inl ⟨by rfl, ?_⟩) hHeld ?_ ?_
              rotate_left
              · rintro w' ⟨s0, s1, s2, s3, s4, s5, s6⟩
                go_simp
                with_reducible rfl
              rotate_left
              · simp only [Act.put, List.setIfInBounds_toArray, List.set_cons_zero, List.set_cons_succ, i64_w, i32_w]
                rfl
              refine take_ (i := 9) (N := some 30) (v := ?_) (a' := ?_) #[true, true, true, true, true, true, true, true, true, true, false, false, false, true, false, false, false, false] rfl rfl (take_ofW HT_.out HW_.out (by kernel_rfl)) (fun _ _ _ h => h) (Or.inl ⟨by rfl, ?_⟩) hHeld ?_ ?_
              rotate_left
              · rintro w' ⟨s0, s1, s2, s3, s4, s5, s6⟩
                go_simp
                with_reducible rfl
              rotate_left
              · simp only [Act.put, List.setIfInBounds_toArray, List.set_cons_zero, List.set_cons_succ, i64_w, i32_w]
                rfl
              refine pure_ (i := 10) (N := some 31) (v := ?_) (a' := ?_) #[true, true, true, true, true, true, true, true, true, true, true, false, false, true, false, false, false, false] rfl rfl (any_of HT_.out (by kernel_rfl)) (fun _ _ _ h => h) (Or.inl ⟨by rfl, ?_⟩) ?_ ?_
              rotate_left
              · intro w'
                go_simp
                with_reducible rfl
              rotate_left
              · simp only [Act.put, List.setIfInBounds_toArray, List.set_cons_zero, List.set_cons_succ, i64_w, i32_w]
                rfl
              refine pure_ (i := 11) (N := some 32) (v := ?_) (a' := ?_) #[true, true, true, true, true, true, true, true, true, true, true, true, false, true, false, false, false, false] rfl rfl (any_of HT_.out (by kernel_rfl)) (fun _ _ _ h => h) (Or.inl ⟨by rfl, ?_⟩) ?_ ?_
              rotate_left
              · intro w'
                go_simp
                with_reducible rfl
              rotate_left
              · simp only [Act.put, List.setIfInBounds_toArray, List.set_cons_zero, List.set_cons_succ, i64_w, i32_w]
                rfl
              refine take_ (i := 12) (N := some 33) (v := ?_) (a' := ?_) #[true, true, true, true, true, true, true, true, true, true, true, true, true, true, false, false, false, false] rfl rfl (take_ofW HT_.out HW_.out (by kernel_rfl)) (fun _ _ _ h => h) (Or.inl ⟨by rfl, ?_⟩) hHeld ?_ ?_
              rotate_left
              · rintro w' ⟨s0, s1, s2, s3, s4, s5, s6⟩
                go_simp
                with_reducible rfl
              rotate_left
              · simp only [Act.put, List.setIfInBounds_toArray, List.set_cons_zero, List.set_cons_succ, i64_w, i32_w]
                rfl
              refine pure_ (i := 14) (N := some 35) (v := ?_) (a' := ?_) #[true, true, true, true, true, true, true, true, true, true, true, true, true, true, true, false, false, false] rfl rfl (any_of HT_.out (by kernel_rfl)) (fun _ _ _ h => h) (Or.inl ⟨by rfl, ?_⟩) ?_ ?_
              rotate_left
              · intro w'
                go_simp
                with_reducible rfl
              rotate_left
              · simp only [Act.put, List.setIfInBounds_toArray, List.set_cons_zero, List.set_cons_succ, i64_w, i32_w]
                rfl
              refine pure_ (i := 15) (N := some 36) (v := ?_) (a' := ?_) #[true, true, true, true, true, true, true, true, true, true, true, true, true, true, true, true, false, false] rfl rfl (any_of HT_.out (by kernel_rfl)) (fun _ _ _ h => h) (Or.inl ⟨by rfl, ?_⟩) ?_ ?_
              rotate_left
              · intro w'
                go_simp
                with_reducible rfl
              rotate_left
              · simp only [Act.put, List.setIfInBounds_toArray, List.set_cons_zero, List.set_cons_succ, i64_w, i32_w]
                rfl
              refine pure_ (i := 16) (N := some 37) (v := ?_) (a' := ?_) #[true, true, true, true, true, true, true, true, true, true, true, true, true, true, true, true, true, false] rfl rfl (any_of HT_.out (by kernel_rfl)) (fun _ _ _ h => h) (Or.inl ⟨by rfl, ?_⟩) ?_ ?_
              rotate_left
              · intro w'
                go_simp
                with_reducible rfl
              rotate_left
              · simp only [Act.put, List.setIfInBounds_toArray, List.set_cons_zero, List.set_cons_succ, i64_w, i32_w]
                rfl
              refine last_ (i := 17) (N := none) #[true, true, true, true, true, true, true, true, true, true, true, true, true, true, true, true, true, true] rfl rfl (one_of HT_.out (by kernel_rfl)) (by decide) (fun K hK => ?_)
              refine skip_ (w1 := ?_) (by rfl) rfl ?_ ?_
              rotate_left
              · go_simp
                rfl
              refine hK.out _ _ ?_
              clear hK K
              refine done_ (done_of HT_.out (by kernel_rfl)) ?_
              try go_wp2
              go_roundg k1
              case measure => have := HK1.out; omega
              case rel => exact ⟨(y274), (wrap64 (x9_1 + 1)), (by first | rfl | (simp; done) | (simp [*]; done)), H', ⟨by have := HK1.out; omega⟩, ⟨by (with_reducible repeat (first | apply Kd.R_alloc | apply Kd.R_drewN | apply Kd.R_drew)); exact HQ16.out⟩, ⟨by (with_reducible repeat (first | apply Kd.R_alloc | apply Kd.R_drewN | apply Kd.R_drew)); exact Kd.R_mono (Kd.R_far (p := ⟨go12, ((rd t268 x9_1) : Int).toNat * 5 + 1, none⟩) (Kd.R_types HO_8.out GG12.out (by decide)) (fun _ hk => hk.2) (.int .i64 (wrap64 (((rd_T43 x7_1 (rd t268 x9_1)).f1) + a2)))) (fun _ hk => trivial)⟩, ⟨by repeat (first | (with_reducible first | exact HB.out | apply below_alloc | apply pw_below_drewN | apply below_drew1 | refine below_set ?_ GB12.out) | exact HB.out)⟩⟩
            · rw [if_neg c11] at H
              exact absurd H (by simp)
          · rw [if_neg c10] at H
            exact absurd H (by simp)
        · rw [if_neg c9] at H
          exact absurd H (by simp)
      · rw [if_neg c8] at H
        have c8b0 : decide (x9_1 < (t268.length : Int)) = false := decide_eq_false c8
        clear c8
        obtain rfl := Option.some.inj H
        obtain ⟨Ao17, co17, eo17⟩ := Kd.R_slice HO_8.out
        subst eo17
        go_wp2
        go_ret
        exact ⟨_, by first | rfl | (simp [errW_none, errW_some] <;> rfl) | (simp [*, errW_none, errW_some] <;> rfl), by (with_reducible repeat (first | apply Kd.R_alloc | apply Kd.R_drewN | apply Kd.R_drew)); exact HO_7.out, by repeat (first | (with_reducible first | exact HB.out | apply below_alloc | apply pw_below_drewN | apply below_drew1) | exact HB.out)⟩

end Go.Proofs.Ytpomppjeknmciaa.PAccountsSteps
