-- Printed by a copy of the kit's printer that this session has patched (wip/tools/patch_print.py): the session's own text. Lean checks it.
import Derived.Test.YtimlodcdfekbhaaPGrantFifox0
import Derived.Test.YtimlodcdfekbhaaPGrantFifox3
import Derived.Test.YtimlodcdfekbhaaPGrantFifox6
namespace Go.Proofs.Ytimlodcdfekbhaa.PGrantFifo
open Go.RowKit Go.Proofs.YtimlodcdfekbhaaW.PrintWords Go.Proofs.YtimlodcdfekbhaaW.PrintLast Go.Proofs.YtimlodcdfekbhaaW.PrintMore
attribute [local go_sem] max2_int min2_int max_two min_two max_three min_three max_four min_four   -- for this text's walks alone
set_option linter.unusedVariables false
set_option linter.unusedSimpArgs false

/-! ### estoverslaw21_served: function 24 -/
mutual
def estoverslaw21_served.j0 : Nat → List (S37) → Int → Int → Int → List (S59) → Bool → Option (Int × Int × Int × (List (S59)) × Bool)
  | 0, _, _, _, _, _, _ => none
  | k + 1, x0, x8, x9, x10, x11, x43 => if x43 = true then (some (0, 0, 0, ([] : List (S59)), false)) else (if 0 ≤ x8 then (if x8 ≤ (x0.length : Int) then ((some (x0.take (x8 : Int).toNat : List (S37))).bind fun y280 => (estoverslaw21_served.l0 k x8 x9 x10 x11 y280 (y280.length : Int) 0)) else (none)) else (none))
def estoverslaw21_served.l0 : Nat → Int → Int → Int → List (S59) → List (S37) → Int → Int → Option (Int × Int × Int × (List (S59)) × Bool)
  | 0, _, _, _, _, _, _, _ => none
  | k + 1, x8, x9, x10, x11, x46, x47, x48 => if x48 < x47 then (if 0 ≤ x48 then (if x48 < (x46.length : Int) then (estoverslaw21_served.l0 k x8 (wrap64 (x9 + ((rd_T37 x46 x48).f2))) (wrap64 (x10 + (wrap64 (((rd_T37 x46 x48).f2) + ((rd_T37 x46 x48).f3))))) x11 x46 x47 (wrap64 (x48 + 1))) else (none)) else (none)) else (some (x8, x9, x10, x11, true))
end
def estoverslaw21_served.f (k : Nat) (l0 : List (S37)) (l1 : List (S59)) (a2 : Int) (a3 : Int) : Option (Int × Int × Int × (List (S59)) × Bool) := (grant_Serve.f k l0 l1 a2 a3).bind fun bt275 => (if bt275.2.2 = 0 then (if bt275.1 < 0 then (estoverslaw21_served.j0 k l0 bt275.1 0 0 bt275.2.1 true) else (if bt275.1 > (l0.length : Int) then (estoverslaw21_served.j0 k l0 bt275.1 0 0 bt275.2.1 true) else (estoverslaw21_served.j0 k l0 bt275.1 0 0 bt275.2.1 ((bt275.2.1.length : Int) != (l1.length : Int))))) else (estoverslaw21_served.j0 k l0 bt275.1 0 0 bt275.2.1 true))
theorem estoverslaw21_served.mono_l : ∀ k, (∀ y0 y1 y2 y3 y4 y5, LeO (estoverslaw21_served.j0 k y0 y1 y2 y3 y4 y5) (estoverslaw21_served.j0 (k + 1) y0 y1 y2 y3 y4 y5)) ∧ (∀ y0 y1 y2 y3 y4 y5 y6, LeO (estoverslaw21_served.l0 k y0 y1 y2 y3 y4 y5 y6) (estoverslaw21_served.l0 (k + 1) y0 y1 y2 y3 y4 y5 y6))
  | 0 => ⟨fun _ _ _ _ _ _ r h => by simp [estoverslaw21_served.j0] at h, fun _ _ _ _ _ _ _ r h => by simp [estoverslaw21_served.l0] at h⟩
  | k + 1 => by
    obtain ⟨ih0, ih1⟩ := estoverslaw21_served.mono_l k
    refine ⟨?_, ?_⟩
    · intro y0 y1 y2 y3 y4 y5
      unfold estoverslaw21_served.j0
      repeat' first
      | (with_reducible exact ih0 _ _ _ _ _ _)
      | (with_reducible exact ih1 _ _ _ _ _ _ _)
      | (with_reducible exact grant_Serve.mono _ _ _ _ _)
      | (with_reducible exact LeO.refl _)
      | (with_reducible exact LeO.none _)
      | (with_reducible refine LeO.ite ?_ ?_)
      | (with_reducible refine LeO.bind ?_ (fun _ => ?_))
      | exact ih0 _ _ _ _ _ _
      | exact ih1 _ _ _ _ _ _ _
      | exact grant_Serve.mono _ _ _ _ _
      | exact LeO.none _
      | refine LeO.ite ?_ ?_
      | refine LeO.bind ?_ (fun _ => ?_)
    · intro y0 y1 y2 y3 y4 y5 y6
      unfold estoverslaw21_served.l0
      repeat' first
      | (with_reducible exact ih0 _ _ _ _ _ _)
      | (with_reducible exact ih1 _ _ _ _ _ _ _)
      | (with_reducible exact grant_Serve.mono _ _ _ _ _)
      | (with_reducible exact LeO.refl _)
      | (with_reducible exact LeO.none _)
      | (with_reducible refine LeO.ite ?_ ?_)
      | (with_reducible refine LeO.bind ?_ (fun _ => ?_))
      | exact ih0 _ _ _ _ _ _
      | exact ih1 _ _ _ _ _ _ _
      | exact grant_Serve.mono _ _ _ _ _
      | exact LeO.none _
      | refine LeO.ite ?_ ?_
      | refine LeO.bind ?_ (fun _ => ?_)
theorem estoverslaw21_served.mono : ∀ a0 a1 a2 a3 k, LeO (estoverslaw21_served.f k a0 a1 a2 a3) (estoverslaw21_served.f (k + 1) a0 a1 a2 a3) := by
  intro a0 a1 a2 a3 k
  obtain ⟨ih0, ih1⟩ := estoverslaw21_served.mono_l k
  unfold estoverslaw21_served.f
  repeat' first
      | (with_reducible exact ih0 _ _ _ _ _ _)
      | (with_reducible exact ih1 _ _ _ _ _ _ _)
      | (with_reducible exact grant_Serve.mono _ _ _ _ _)
      | (with_reducible exact LeO.refl _)
      | (with_reducible exact LeO.none _)
      | (with_reducible refine LeO.ite ?_ ?_)
      | (with_reducible refine LeO.bind ?_ (fun _ => ?_))
      | exact ih0 _ _ _ _ _ _
      | exact ih1 _ _ _ _ _ _ _
      | exact grant_Serve.mono _ _ _ _ _
      | exact LeO.none _
      | refine LeO.ite ?_ ?_
      | refine LeO.bind ?_ (fun _ => ?_)
set_option maxHeartbeats 8000000 in
set_option maxRecDepth 100000 in
theorem estoverslaw21_served.calls (k : Nat) (A0 : Option Addr) (c0 : Nat) (l0 : List (S37)) (A1 : Option Addr) (c1 : Nat) (l1 : List (S59)) (a2 : Int) (a3 : Int) (r1 : Int) (r2 : Int) (r3 : Int) (r4 : List (S59)) (r5 : Bool) (w : World) (hr0 : Kd.C k37 w A0 l0.length l0) (hc0 : l0.length ≤ c0) (hr1 : Kd.C k59 w A1 l1.length l1) (hc1 : l1.length ≤ c1) (h : estoverslaw21_served.f k l0 l1 a2 a3 = some (r1, r2, r3, r4, r5)) :
    Calls Try.prog 24 #[.slice A0 l0.length c0, .slice A1 l1.length c1, .int .i64 a2, .int .i64 a3] w fun e w' => ∃ v3_ : Value, e = .returned (.tuple #[.int .i64 r1, .int .i64 r2, .int .i64 r3, v3_, .bool r5]) ∧ Kd.R k59 59 w' w.heap.size (fun _ => True) v3_ r4 ∧ Below w.heap.size w w' := by
  have hu37 := Try.underlying37
  have HR0 := Aside0.mk hr0
  have HC0 := Aside0.mk hc0
  clear hr0 hc0
  have HR1 := Aside0.mk hr1
  have HC1 := Aside0.mk hc1
  clear hr1 hc1
  have HB := Aside0.mk (Below.refl w.heap.size w)
  have H : ((grant_Serve.f k l0 l1 a2 a3).bind fun bt275 => (if bt275.2.2 = 0 then (if bt275.1 < 0 then (estoverslaw21_served.j0 k l0 bt275.1 0 0 bt275.2.1 true) else (if bt275.1 > (l0.length : Int) then (estoverslaw21_served.j0 k l0 bt275.1 0 0 bt275.2.1 true) else (estoverslaw21_served.j0 k l0 bt275.1 0 0 bt275.2.1 ((bt275.2.1.length : Int) != (l1.length : Int))))) else (estoverslaw21_served.j0 k l0 bt275.1 0 0 bt275.2.1 true))) = some (r1, r2, r3, r4, r5) := h
  clear h
  replace H := Option.bind_eq_some_iff.mp H
  obtain ⟨⟨t275, t276, t277⟩, A50, H⟩ := H
  replace H : (if t277 = 0 then (if t275 < 0 then (estoverslaw21_served.j0 k l0 t275 0 0 t276 true) else (if t275 > (l0.length : Int) then (estoverslaw21_served.j0 k l0 t275 0 0 t276 true) else (estoverslaw21_served.j0 k l0 t275 0 0 t276 ((t276.length : Int) != (l1.length : Int))))) else (estoverslaw21_served.j0 k l0 t275 0 0 t276 true)) = some (r1, r2, r3, r4, r5) := H
  have A5 := Aside0.mk A50
  clear A50
  have HC6 := Aside0.mk H
  clear H
  go_enter Try.func24, Try.ntmps24
  go_upto_region 2 with (first | ((with_reducible refine gate_callee (f := 20) rfl ?_); refine goesL_ (some 21) rfl rfl Try.func20 (by kernel_rfl) rfl #[.slice A0 l0.length c0, .slice A1 l1.length c1, .int .i64 a2, .int .i64 a3] rfl (by (try simp only [List.map_toArray, List.map_cons, List.map_nil]); first | done | rfl | (simp only [List.length_drop, List.length_take]; rfl)) ?_; (with_reducible refine (grant_Serve.calls k _ _ l0 _ _ l1 a2 a3 t275 t276 t277 _ ?side1 ?side2 ?side3 ?side4 A5.out).mono ?_); (case side1 => repeat (first | exact HR0.out | (with_reducible refine Kd.C_alloc ?_ _) | (with_reducible refine Kd.C_drewN ?_ _) | (with_reducible refine Kd.C_drew ?_))); (case side2 => exact HC0.out); (case side3 => repeat (first | exact HR1.out | (with_reducible refine Kd.C_alloc ?_ _) | (with_reducible refine Kd.C_drewN ?_ _) | (with_reducible refine Kd.C_drew ?_))); (case side4 => exact HC1.out); rintro e w7 ⟨v278, rfl, ho0, hb⟩; refine ⟨_, rfl, ?_⟩; have n0_ := Aside0.mk (Kd.R_lower ho0 (below_size (by repeat (first | (with_reducible first | exact HB.out | apply below_alloc | apply pw_below_drewN | apply below_drew1) | exact HB.out)))); have n1_ := Aside0.mk (below_step (by repeat (first | (with_reducible first | exact HB.out | apply below_alloc | apply pw_below_drewN | apply below_drew1) | exact HB.out)) hb); clear HB; have HO279 := n0_; have HB := n1_; clear n0_ n1_; (try clear hb); (try clear hb2); (try clear hk); (try clear hi); (try clear ho0)))
  (try simp only [Act.put, List.setIfInBounds_toArray, List.set_cons_zero, List.set_cons_succ])
  go_cut [43] (fun v43 wc => ∃ (kq : Nat) (x43_5 : Bool), v43 = .bool x43_5 ∧ Aside0 (estoverslaw21_served.j0 kq l0 t275 0 0 t276 x43_5 = some (r1, r2, r3, r4, r5)) ∧ Aside0 (kq ≤ k) ∧ Aside0 (Kd.R k59 59 wc w.heap.size (fun _ => True) v278 t276) ∧ Aside0 (Below w.heap.size w wc))
  case first =>
    have H := HC6.out
    clear HC6
    by_cases c8 : t277 = 0
    · rw [if_pos c8] at H
      have c8b0 : (t277 == 0) = true := beq_iff_eq.mpr c8
      have c8b1 : (t277 != 0) = false := bne_eq_false_iff_eq.mpr c8
      clear c8
      (first | rw [c8b0] | (simp only [i64_w, i32_w]; rw [c8b0]) | skip)
      by_cases c9 : t275 < 0
      · rw [if_pos c9] at H
        have c9b0 : decide (t275 < 0) = true := decide_eq_true c9
        clear c9
        have H' := Aside0.mk H
        clear H
        go_wp2
        go_meet
        case rel => exact ⟨_, (true), (by first | rfl | (simp; done) | (simp [*]; done)), H', ⟨by first | omega | exact Nat.le_refl _⟩, ⟨by (with_reducible repeat (first | apply Kd.R_alloc | apply Kd.R_drewN | apply Kd.R_drew)); exact HO279.out⟩, ⟨by repeat (first | (with_reducible first | exact HB.out | apply below_alloc | apply pw_below_drewN | apply below_drew1) | exact HB.out)⟩⟩
      · rw [if_neg c9] at H
        have c9b0 : decide (t275 < 0) = false := decide_eq_false c9
        clear c9
        by_cases c10 : t275 > (l0.length : Int)
        · rw [if_pos c10] at H
          have c10b0 : decide ((l0.length : Int) < t275) = true := decide_eq_true c10
          clear c10
          have H' := Aside0.mk H
          clear H
          go_wp2
          go_meet
          case rel => exact ⟨_, (true), (by first | rfl | (simp; done) | (simp [*]; done)), H', ⟨by first | omega | exact Nat.le_refl _⟩, ⟨by (with_reducible repeat (first | apply Kd.R_alloc | apply Kd.R_drewN | apply Kd.R_drew)); exact HO279.out⟩, ⟨by repeat (first | (with_reducible first | exact HB.out | apply below_alloc | apply pw_below_drewN | apply below_drew1) | exact HB.out)⟩⟩
        · rw [if_neg c10] at H
          have c10b0 : decide ((l0.length : Int) < t275) = false := decide_eq_false c10
          clear c10
          have H' := Aside0.mk H
          clear H
          obtain ⟨Ao11, co11, eo11⟩ := Kd.R_slice HO279.out
          subst eo11
          go_wp2
          go_meet
          case rel => exact ⟨_, (((t276.length : Int) != (l1.length : Int))), (by first | rfl | (simp; done) | (simp [*]; done)), H', ⟨by first | omega | exact Nat.le_refl _⟩, ⟨by (with_reducible repeat (first | apply Kd.R_alloc | apply Kd.R_drewN | apply Kd.R_drew)); exact HO279.out⟩, ⟨by repeat (first | (with_reducible first | exact HB.out | apply below_alloc | apply pw_below_drewN | apply below_drew1) | exact HB.out)⟩⟩
    · rw [if_neg c8] at H
      have c8b0 : (t277 == 0) = false := beq_eq_false_iff_ne.mpr c8
      have c8b1 : (t277 != 0) = true := bne_iff_ne.mpr c8
      (first | rw [c8b0] | (simp only [i64_w, i32_w]; rw [c8b0]) | skip)
      have H' := Aside0.mk H
      clear H
      go_wp2
      go_meet
      case rel => exact ⟨_, (true), (by first | rfl | (simp; done) | (simp [*]; done)), H', ⟨by first | omega | exact Nat.le_refl _⟩, ⟨by (with_reducible repeat (first | apply Kd.R_alloc | apply Kd.R_drewN | apply Kd.R_drew)); exact HO279.out⟩, ⟨by repeat (first | (with_reducible first | exact HB.out | apply below_alloc | apply pw_below_drewN | apply below_drew1) | exact HB.out)⟩⟩
  case rest =>
    clear HC6
    try clear c1
    try clear c2
    try clear p2
    try clear c8
    try clear c8b0
    try clear c8b1
    try clear c9
    try clear c9b0
    try clear c10
    try clear c10b0
    obtain ⟨kq, x43_5, rfl, HA, HJ5, HO_11, HB⟩ := hcut
    cases kq with
    | zero => exact absurd HA.out (by simp [estoverslaw21_served.j0])
    | succ kj5 =>
      have H := HA.out
      clear HA
      simp only [estoverslaw21_served.j0] at H
      by_cases c12 : x43_5 = true
      · subst c12
        have H1 : (some (0, 0, 0, ([] : List (S59)), false)) = some (r1, r2, r3, r4, r5) := by rw [if_pos rfl] at H; exact H
        clear H
        have H := H1
        clear H1
        simp only [Option.some.injEq, Prod.mk.injEq] at H
        obtain ⟨rfl, rfl, rfl, rfl, rfl⟩ := H
        go_wp2
        refine bodyPost_ret (results_list (rs := [.tmp 8, .tmp 9, .tmp 10, .tmp 11, .tmp 12]) rfl (by simp) (.tmp (.tmp (.tmp (.tmp (.tmp .nil)))))) rfl ?_
        exact ⟨_, by first | rfl | (simp [errW_none, errW_some] <;> rfl) | (simp [*, errW_none, errW_some] <;> rfl), by first | exact Kd.R_nil _ _ _ _ _ | exact Kd.N_nil _ _ _ _ _ | exact Kd.V_nil _ _ _ _ _ | exact Kd.Q_nil _ _ _ _ _ | exact Kd.S_nil _ _ _ _ _, by repeat (first | (with_reducible first | exact HB.out | apply below_alloc | apply pw_below_drewN | apply below_drew1) | exact HB.out)⟩
      · replace c12 := Bool.eq_false_iff.mpr c12
        subst c12
        have H1 : (if 0 ≤ t275 then (if t275 ≤ (l0.length : Int) then ((some (l0.take (t275 : Int).toNat : List (S37))).bind fun y280 => (estoverslaw21_served.l0 kj5 t275 0 0 t276 y280 (y280.length : Int) 0)) else (none)) else (none)) = some (r1, r2, r3, r4, r5) := by rw [if_neg (show ¬ (false = true) by decide)] at H; exact H
        clear H
        have H := H1
        clear H1
        by_cases c13 : 0 ≤ t275
        · rw [if_pos c13] at H
          have c13b0 := eq_true c13
          have c13b1 : decide (0 ≤ t275) = true := decide_eq_true c13
          clear c13
          by_cases c14 : t275 ≤ (l0.length : Int)
          · rw [if_pos c14] at H
            have c14b0 := eq_true c14
            have c14b1 : decide (t275 ≤ (l0.length : Int)) = true := decide_eq_true c14
            clear c14
            obtain ⟨y280, hy280⟩ : ∃ y_ : List (S37), y_ = (l0.take (t275 : Int).toNat) := ⟨_, rfl⟩
            replace H : (estoverslaw21_served.l0 kj5 t275 0 0 t276 y280 (y280.length : Int) 0) = some (r1, r2, r3, r4, r5) := by first | (rw [hy280]; with_reducible exact H) | (have H2_ := (Option.bind_some _ _).symm.trans H; rw [hy280]; with_reducible exact H2_) | (have H2_ := (Option.bind_some _ _).symm.trans H; with_reducible exact H2_) | with_reducible exact H | (rw [hy280]; exact H) | exact H
            have Ny280 := Aside0.mk hy280
            clear hy280
            have H' := Aside0.mk H
            clear H
            have q15 : (t275 : Int) ≤ ((l0.length : Int) : Int) := of_decide_eq_true (by first | (with_reducible assumption) | assumption)
            obtain ⟨i015, hi015, _, hsz15, _⟩ := info_parts info37
            have hroom15 : l0.length ≤ c0 := HC0.out
            have hC15 : Kd.C k37 _ A0 l0.length l0 := HR0.out
            have hcut15 := cut_to (P := Try.prog) 29 37 .i64 Try.underlying29 hi015 A0 l0.length c0 t275 (of_decide_eq_true (by first | (with_reducible assumption) | assumption)) q15 hroom15
            have hr15 := Kd.C_take (m := (t275 : Int).toNat) hC15 (by omega)
            have hy15 : y280.length = (t275 : Int).toNat := (by rw [Ny280.out, List.length_take]; omega)
            rw [← Ny280.out] at hr15
            rw [← hy15] at hcut15
            have HR283 := Aside0.mk hr15
            have HC283 := Aside0.mk (show y280.length ≤ c0 from by omega)
            clear hr15 hC15 hroom15 hi015 hsz15
            have KY15 := Aside0.mk hy15
            clear hy15
            replace q15 := eq_true q15
            go_wp2
            go_loopg [9, 10, 48] kj5 (fun kq v9 v10 v48 w' => ∃ (x9_2 : Int) (x10_2 : Int) (x48_2 : Int), v9 = .int .i64 x9_2 ∧ v10 = .int .i64 x10_2 ∧ v48 = .int .i64 x48_2 ∧ Aside0 (estoverslaw21_served.l0 kq t275 x9_2 x10_2 t276 y280 (y280.length : Int) x48_2 = some (r1, r2, r3, r4, r5)) ∧ Aside0 (kq ≤ kj5) ∧ Aside0 (Kd.R k59 59 w' w.heap.size (fun _ => True) v278 t276) ∧ Aside0 (Below w.heap.size w w'))
            case atStart => exact ⟨(0), (0), (0), (by first | rfl | (simp; done) | (simp [*]; done)), (by first | rfl | (simp; done) | (simp [*]; done)), (by first | rfl | (simp; done) | (simp [*]; done)), H', ⟨Nat.le_refl _⟩, ⟨by (with_reducible repeat (first | apply Kd.R_alloc | apply Kd.R_drewN | apply Kd.R_drew)); exact HO_11.out⟩, ⟨by repeat (first | (with_reducible first | exact HB.out | apply below_alloc | apply pw_below_drewN | apply below_drew1) | exact HB.out)⟩⟩
            case round =>
              clear H'
              try clear c1
              try clear q1
              try clear c2
              try clear p2
              try clear c8
              try clear c8b0
              try clear c8b1
              try clear c9
              try clear c9b0
              try clear c10
              try clear c10b0
              try clear c12
              try clear c13
              try clear c13b0
              try clear c13b1
              try clear c14
              try clear c14b0
              try clear c14b1
              try clear q15
              try clear p2
              try clear q15
              obtain ⟨x9_2, x10_2, x48_2, rfl, rfl, rfl, HA, HK2, HO_11, HB⟩ := hrel
              cases gk with
              | zero => exact absurd HA.out (by simp [estoverslaw21_served.l0])
              | succ k2 =>
                have H := HA.out
                clear HA
                simp only [estoverslaw21_served.l0] at H
                by_cases c16 : x48_2 < (y280.length : Int)
                · rw [if_pos c16] at H
                  have c16b0 : decide (x48_2 < (y280.length : Int)) = true := decide_eq_true c16
                  clear c16
                  by_cases c17 : 0 ≤ x48_2
                  · rw [if_pos c17] at H
                    have c17b0 : decide (0 ≤ x48_2) = true := decide_eq_true c17
                    clear c17
                    by_cases c18 : x48_2 < (y280.length : Int)
                    · rw [if_pos c18] at H
                      have c18b0 : decide (x48_2 < (y280.length : Int)) = true := decide_eq_true c18
                      clear c18
                      have H' := Aside0.mk H
                      clear H
                      have p284 : 0 ≤ (x48_2 : Int) := of_decide_eq_true (by first | (with_reducible assumption) | assumption)
                      have q284 : x48_2 < (y280.length : Int) := of_decide_eq_true (by first | (with_reducible assumption) | assumption)
                      obtain ⟨ad284, e284, hx284_0, hx284_1, hx284_2, hx284_3⟩ := at_T37 HR283.out x48_2 p284 q284
                      cases e284
                      replace hx284_0 := (HB.out.cell (World.block_lt_of_cell? w _ hx284_0)).trans hx284_0
                      replace hx284_1 := (HB.out.cell (World.block_lt_of_cell? w _ hx284_1)).trans hx284_1
                      replace hx284_2 := (HB.out.cell (World.block_lt_of_cell? w _ hx284_2)).trans hx284_2
                      replace hx284_3 := (HB.out.cell (World.block_lt_of_cell? w _ hx284_3)).trans hx284_3
                      replace p284 := eq_true p284
                      replace q284 := eq_true q284
                      go_wp2_with (first | ((with_reducible refine gate_dst (N := 15) rfl ?_); (try (refine gate_guard (by rfl) ?_; dsimp only)); refine box_event ?hg (N := 15) ?hd (cs := #[.int .i64 0, .int .i64 0, .int .i64 0, .int .i64 0]) (t := 37) ?hr ?_; (case hd => rfl); (case hg => rfl); (case hr => first | (go_simp; done) | (go_simp; rfl)); intro gb285 hg w19 hbox hb; have n0_ := Aside0.mk (Kd.R_below (by (with_reducible repeat (first | apply Kd.R_alloc | apply Kd.R_drewN | apply Kd.R_drew)); exact HO_11.out) hb); have n1_ := Aside0.mk (below_step (by repeat (first | (with_reducible first | exact HB.out | apply below_alloc | apply pw_below_drewN | apply below_drew1) | exact HB.out)) hb); have n2_ := Aside0.mk (hbox); have n3_ := Aside0.mk ((by rw [hg]; exact (below_size (by repeat (first | (with_reducible first | exact HB.out | apply below_alloc | apply pw_below_drewN | apply below_drew1) | exact HB.out))) : w.heap.size ≤ gb285)); have n4_ := Aside0.mk ((by rw [hg]; exact (below_size (by repeat (first | (with_reducible first | exact HB.out | apply below_alloc | apply pw_below_drewN | apply below_drew1) | exact HB.out))) : w.heap.size ≤ gb285)); clear HO_11; clear HB; have HO_11 := n0_; have HB := n1_; have BK285 := n2_; have GW285 := n3_; have GE285 := n4_; clear n0_ n1_ n2_ n3_ n4_; clear hb hbox hg; have hcz20_0 : w19.cell? ⟨gb285, 0, none⟩ = some (.int .i64 0) := (blk_cell BK285.out 0).trans rfl; have hcz20_1 : w19.cell? ⟨gb285, 1, none⟩ = some (.int .i64 0) := (blk_cell BK285.out 1).trans rfl; have hcz20_2 : w19.cell? ⟨gb285, 2, none⟩ = some (.int .i64 0) := (blk_cell BK285.out 2).trans rfl; have hcz20_3 : w19.cell? ⟨gb285, 3, none⟩ = some (.int .i64 0) := (blk_cell BK285.out 3).trans rfl; have hfz20_0 := blk_frozen BK285.out 0; have hfz20_1 := blk_frozen BK285.out 1; have hfz20_2 := blk_frozen BK285.out 2; have hfz20_3 := blk_frozen BK285.out 3))
                      go_roundg k2
                      case measure => have := HJ5.out; have := HK2.out; omega
                      case rel => exact ⟨(wrap64 (x9_2 + ((rd_T37 y280 x48_2).f2))), (wrap64 (x10_2 + (wrap64 (((rd_T37 y280 x48_2).f2) + ((rd_T37 y280 x48_2).f3))))), (wrap64 (x48_2 + 1)), (by first | rfl | (simp; done) | (simp [*]; done)), (by first | rfl | (simp; done) | (simp [*]; done)), (by first | rfl | (simp; done) | (simp [*]; done)), H', ⟨by have := HJ5.out; have := HK2.out; omega⟩, ⟨by (with_reducible repeat (first | apply Kd.R_alloc | apply Kd.R_drewN | apply Kd.R_drew)); exact Kd.R_mono (Kd.R_far (p := ⟨gb285, 3, none⟩) (Kd.R_far (p := ⟨gb285, 2, none⟩) (Kd.R_far (p := ⟨gb285, 1, none⟩) (Kd.R_far (p := ⟨gb285, 0, none⟩) (Kd.R_types HO_11.out BK285.out (by decide)) (fun _ hk => hk.2) (.int .i64 ((rd_T37 y280 x48_2).f0))) (fun _ hk => hk.2) (.int .i64 ((rd_T37 y280 x48_2).f1))) (fun _ hk => hk.2) (.int .i64 ((rd_T37 y280 x48_2).f2))) (fun _ hk => hk.2) (.int .i64 ((rd_T37 y280 x48_2).f3))) (fun _ hk => trivial)⟩, ⟨by repeat (first | (with_reducible first | exact HB.out | apply below_alloc | apply pw_below_drewN | apply below_drew1 | refine below_set ?_ GE285.out) | exact HB.out)⟩⟩
                    · rw [if_neg c18] at H
                      exact absurd H (by simp)
                  · rw [if_neg c17] at H
                    exact absurd H (by simp)
                · rw [if_neg c16] at H
                  have c16b0 : decide (x48_2 < (y280.length : Int)) = false := decide_eq_false c16
                  clear c16
                  simp only [Option.some.injEq, Prod.mk.injEq] at H
                  obtain ⟨rfl, rfl, rfl, rfl, rfl⟩ := H
                  go_wp2
                  refine bodyPost_ret (results_list (rs := [.tmp 8, .tmp 9, .tmp 10, .tmp 11, .tmp 12]) rfl (by simp) (.tmp (.tmp (.tmp (.tmp (.tmp .nil)))))) rfl ?_
                  exact ⟨_, by first | rfl | (simp [errW_none, errW_some] <;> rfl) | (simp [*, errW_none, errW_some] <;> rfl), by (with_reducible repeat (first | apply Kd.R_alloc | apply Kd.R_drewN | apply Kd.R_drew)); exact HO_11.out, by repeat (first | (with_reducible first | exact HB.out | apply below_alloc | apply pw_below_drewN | apply below_drew1) | exact HB.out)⟩
          · rw [if_neg c14] at H
            exact absurd H (by simp)
        · rw [if_neg c13] at H
          exact absurd H (by simp)

/-! ### accounts_Total: function 26 -/
def accounts_Total.f (k : Nat) (l0 : List (S59)) : Option (Int) := (accounts_Check.f k l0).bind fun t286 => (if t286 = 0 then (if 0 < (l0.length : Int) then (some ((rd_T59 l0 0).f1)) else (none)) else (some (-1)))
theorem accounts_Total.mono : ∀ a0 k, LeO (accounts_Total.f k a0) (accounts_Total.f (k + 1) a0) := by
  intro a0 k
  unfold accounts_Total.f
  repeat' first
      | (with_reducible exact accounts_Check.mono _ _)
      | (with_reducible exact LeO.refl _)
      | (with_reducible exact LeO.none _)
      | (with_reducible refine LeO.ite ?_ ?_)
      | (with_reducible refine LeO.bind ?_ (fun _ => ?_))
      | exact accounts_Check.mono _ _
      | exact LeO.none _
      | refine LeO.ite ?_ ?_
      | refine LeO.bind ?_ (fun _ => ?_)
set_option maxHeartbeats 8000000 in
set_option maxRecDepth 100000 in
theorem accounts_Total.calls (k : Nat) (A0 : Option Addr) (c0 : Nat) (l0 : List (S59)) (r : Int) (w : World) (hr0 : Kd.C k59 w A0 l0.length l0) (hc0 : l0.length ≤ c0) (h : accounts_Total.f k l0 = some r) :
    Calls Try.prog 26 #[.slice A0 l0.length c0] w fun e w' => e = .returned (.int .i64 r) ∧ Below w.heap.size w w' := by
  have HR0 := Aside0.mk hr0
  have HC0 := Aside0.mk hc0
  clear hr0 hc0
  have HB := Aside0.mk (Below.refl w.heap.size w)
  have H : ((accounts_Check.f k l0).bind fun t286 => (if t286 = 0 then (if 0 < (l0.length : Int) then (some ((rd_T59 l0 0).f1)) else (none)) else (some (-1)))) = some r := h
  clear h
  replace H := Option.bind_eq_some_iff.mp H
  obtain ⟨t286, A20, H⟩ := H
  replace H : (if t286 = 0 then (if 0 < (l0.length : Int) then (some ((rd_T59 l0 0).f1)) else (none)) else (some (-1))) = some r := H
  have A2 := Aside0.mk A20
  clear A20
  by_cases c3 : t286 = 0
  · rw [if_pos c3] at H
    have c3b0 : (t286 == 0) = true := beq_iff_eq.mpr c3
    have c3b1 : (t286 != 0) = false := bne_eq_false_iff_eq.mpr c3
    clear c3
    by_cases c4 : 0 < (l0.length : Int)
    · rw [if_pos c4] at H
      have c4b0 : decide (0 < (l0.length : Int)) = true := decide_eq_true c4
      have c4b1 : decide (0 < l0.length) = true := decide_eq_true (by omega)
      clear c4
      obtain rfl := Option.some.inj H
      go_enter Try.func26, Try.ntmps26
      go_wp2_with (first | ((with_reducible refine gate_callee (f := 25) rfl ?_); refine goesL_ (some 4) rfl rfl Try.func25 (by kernel_rfl) rfl #[.slice A0 l0.length c0] rfl (by (try simp only [List.map_toArray, List.map_cons, List.map_nil]); first | done | rfl | (simp only [List.length_drop, List.length_take]; rfl)) ?_; (with_reducible refine (accounts_Check.calls k _ _ l0 t286 _ ?side1 ?side2 A2.out).mono ?_); (case side1 => repeat (first | exact HR0.out | (with_reducible refine Kd.C_alloc ?_ _) | (with_reducible refine Kd.C_drewN ?_ _) | (with_reducible refine Kd.C_drew ?_))); (case side2 => exact HC0.out); rintro e w5 ⟨rfl, hb⟩; refine ⟨_, rfl, ?_⟩; have n0_ := Aside0.mk (below_step (by repeat (first | (with_reducible first | exact HB.out | apply below_alloc | apply pw_below_drewN | apply below_drew1) | exact HB.out)) hb); clear HB; have HB := n0_; clear n0_; (try clear hb); (try clear hb2); (try clear hk); (try clear hi); have p287 : 0 ≤ (0 : Int) := (by omega); have q287 : 0 < (l0.length : Int) := of_decide_eq_true (by first | (with_reducible assumption) | assumption); obtain ⟨ad287, e287, hx287_0, hx287_1, hx287_2, hx287_3, hx287_4⟩ := at_T59 HR0.out 0 p287 q287; cases e287; have qi287 : (0 < l0.length) = True := eq_true (by omega); (try rw [show ((0 : Int)).toNat = 0 from rfl] at hx287_0); (try rw [show 0 * 5 = 0 from rfl] at hx287_0); (try rw [Addr.add_zero'] at hx287_0); (try rw [show ((0 : Int)).toNat = 0 from rfl] at hx287_1); (try rw [show 0 * 5 = 0 from rfl] at hx287_1); (try rw [Addr.add_zero'] at hx287_1); (try rw [show ((0 : Int)).toNat = 0 from rfl] at hx287_2); (try rw [show 0 * 5 = 0 from rfl] at hx287_2); (try rw [Addr.add_zero'] at hx287_2); (try rw [show ((0 : Int)).toNat = 0 from rfl] at hx287_3); (try rw [show 0 * 5 = 0 from rfl] at hx287_3); (try rw [Addr.add_zero'] at hx287_3); (try rw [show ((0 : Int)).toNat = 0 from rfl] at hx287_4); (try rw [show 0 * 5 = 0 from rfl] at hx287_4); (try rw [Addr.add_zero'] at hx287_4); replace hx287_0 := (HB.out.cell (World.block_lt_of_cell? w _ hx287_0)).trans hx287_0; replace hx287_1 := (HB.out.cell (World.block_lt_of_cell? w _ hx287_1)).trans hx287_1; replace hx287_2 := (HB.out.cell (World.block_lt_of_cell? w _ hx287_2)).trans hx287_2; replace hx287_3 := (HB.out.cell (World.block_lt_of_cell? w _ hx287_3)).trans hx287_3; replace hx287_4 := (HB.out.cell (World.block_lt_of_cell? w _ hx287_4)).trans hx287_4; replace p287 := eq_true p287; replace q287 := eq_true q287))
      go_ret
      exact ⟨by first | rfl | (simp [errW_none, errW_some] <;> rfl) | (simp [*, errW_none, errW_some] <;> rfl), by repeat (first | (with_reducible first | exact HB.out | apply below_alloc | apply pw_below_drewN | apply below_drew1) | exact HB.out)⟩
    · rw [if_neg c4] at H
      exact absurd H (by simp)
  · rw [if_neg c3] at H
    have c3b0 : (t286 == 0) = false := beq_eq_false_iff_ne.mpr c3
    have c3b1 : (t286 != 0) = true := bne_iff_ne.mpr c3
    obtain rfl := Option.some.inj H
    go_enter Try.func26, Try.ntmps26
    go_wp2_with (first | ((with_reducible refine gate_callee (f := 25) rfl ?_); refine goesL_ (some 4) rfl rfl Try.func25 (by kernel_rfl) rfl #[.slice A0 l0.length c0] rfl (by (try simp only [List.map_toArray, List.map_cons, List.map_nil]); first | done | rfl | (simp only [List.length_drop, List.length_take]; rfl)) ?_; (with_reducible refine (accounts_Check.calls k _ _ l0 t286 _ ?side1 ?side2 A2.out).mono ?_); (case side1 => repeat (first | exact HR0.out | (with_reducible refine Kd.C_alloc ?_ _) | (with_reducible refine Kd.C_drewN ?_ _) | (with_reducible refine Kd.C_drew ?_))); (case side2 => exact HC0.out); rintro e w6 ⟨rfl, hb⟩; refine ⟨_, rfl, ?_⟩; have n0_ := Aside0.mk (below_step (by repeat (first | (with_reducible first | exact HB.out | apply below_alloc | apply pw_below_drewN | apply below_drew1) | exact HB.out)) hb); clear HB; have HB := n0_; clear n0_; (try clear hb); (try clear hb2); (try clear hk); (try clear hi)))
    go_ret
    exact ⟨by first | rfl | (simp [errW_none, errW_some] <;> rfl) | (simp [*, errW_none, errW_some] <;> rfl), by repeat (first | (with_reducible first | exact HB.out | apply below_alloc | apply pw_below_drewN | apply below_drew1) | exact HB.out)⟩

end Go.Proofs.Ytimlodcdfekbhaa.PGrantFifo
