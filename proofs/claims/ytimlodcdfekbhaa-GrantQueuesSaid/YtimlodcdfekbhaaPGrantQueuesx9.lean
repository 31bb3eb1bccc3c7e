-- Printed by a copy of the kit's printer that this session has patched (wip/tools/patch_print.py): the session's own text. Lean checks it.
import Derived.Test.YtimlodcdfekbhaaPGrantQueuesx0
import Derived.Test.YtimlodcdfekbhaaPGrantQueuesx6
import Derived.Test.YtimlodcdfekbhaaPGrantQueuesx7
import Derived.Test.YtimlodcdfekbhaaPGrantQueuesx8
namespace Go.Proofs.Ytimlodcdfekbhaa.PGrantQueues
open Go.RowKit Go.Proofs.YtimlodcdfekbhaaW.PrintWords Go.Proofs.YtimlodcdfekbhaaW.PrintLast Go.Proofs.YtimlodcdfekbhaaW.PrintMore
attribute [local go_sem] max2_int min2_int max_two min_two max_three min_three max_four min_four   -- for this text's walks alone
set_option linter.unusedVariables false
set_option linter.unusedSimpArgs false

/-! ### estoversref21_Check: function 28 -/
mutual
def estoversref21_Check.l0 : Nat → List (S37) → Int → Option (Int)
  | 0, _, _ => none
  | k + 1, x0, x3 => if x3 < (x0.length : Int) then (if 0 ≤ x3 then ((estoversref21_Valid.f ((rd_T37 x0 x3).f0) ((rd_T37 x0 x3).f1) ((rd_T37 x0 x3).f2) ((rd_T37 x0 x3).f3)).bind fun t274 => (if t274 = true then (estoversref21_Check.l0 k x0 (wrap64 (x3 + 1))) else (some 2))) else (none)) else (estoversref21_Check.l1 k x0 0)
def estoversref21_Check.l1 : Nat → List (S37) → Int → Option (Int)
  | 0, _, _ => none
  | k + 1, x0, x4 => if x4 < (x0.length : Int) then (if 0 ≤ x4 then ((estoversref21_at.f k x0 ((rd_T37 x0 x4).f0)).bind fun t276 => (if t276 < x4 then (some 7) else (estoversref21_Check.l1 k x0 (wrap64 (x4 + 1))))) else (none)) else (some 0)
end
def estoversref21_Check.f (k : Nat) (l0 : List (S37)) : Option (Int) := estoversref21_Check.l0 k l0 0
theorem estoversref21_Check.mono_l : ∀ k, (∀ y0 y1, LeO (estoversref21_Check.l0 k y0 y1) (estoversref21_Check.l0 (k + 1) y0 y1)) ∧ (∀ y0 y1, LeO (estoversref21_Check.l1 k y0 y1) (estoversref21_Check.l1 (k + 1) y0 y1))
  | 0 => ⟨fun _ _ r h => by simp [estoversref21_Check.l0] at h, fun _ _ r h => by simp [estoversref21_Check.l1] at h⟩
  | k + 1 => by
    obtain ⟨ih0, ih1⟩ := estoversref21_Check.mono_l k
    refine ⟨?_, ?_⟩
    · intro y0 y1
      unfold estoversref21_Check.l0
      repeat' first
      | (with_reducible exact ih0 _ _)
      | (with_reducible exact ih1 _ _)
      | (with_reducible exact estoversref21_at.mono _ _ _)
      | (with_reducible exact LeO.refl _)
      | (with_reducible exact LeO.none _)
      | (with_reducible refine LeO.ite ?_ ?_)
      | (with_reducible refine LeO.bind ?_ (fun _ => ?_))
      | exact ih0 _ _
      | exact ih1 _ _
      | exact estoversref21_at.mono _ _ _
      | exact LeO.none _
      | refine LeO.ite ?_ ?_
      | refine LeO.bind ?_ (fun _ => ?_)
    · intro y0 y1
      unfold estoversref21_Check.l1
      repeat' first
      | (with_reducible exact ih0 _ _)
      | (with_reducible exact ih1 _ _)
      | (with_reducible exact estoversref21_at.mono _ _ _)
      | (with_reducible exact LeO.refl _)
      | (with_reducible exact LeO.none _)
      | (with_reducible refine LeO.ite ?_ ?_)
      | (with_reducible refine LeO.bind ?_ (fun _ => ?_))
      | exact ih0 _ _
      | exact ih1 _ _
      | exact estoversref21_at.mono _ _ _
      | exact LeO.none _
      | refine LeO.ite ?_ ?_
      | refine LeO.bind ?_ (fun _ => ?_)
theorem estoversref21_Check.mono : ∀ a0 k, LeO (estoversref21_Check.f k a0) (estoversref21_Check.f (k + 1) a0) := by
  intro a0 k
  obtain ⟨ih0, ih1⟩ := estoversref21_Check.mono_l k
  unfold estoversref21_Check.f
  repeat' first
      | (with_reducible exact ih0 _ _)
      | (with_reducible exact ih1 _ _)
      | (with_reducible exact estoversref21_at.mono _ _ _)
      | (with_reducible exact LeO.refl _)
      | (with_reducible exact LeO.none _)
      | (with_reducible refine LeO.ite ?_ ?_)
      | (with_reducible refine LeO.bind ?_ (fun _ => ?_))
      | exact ih0 _ _
      | exact ih1 _ _
      | exact estoversref21_at.mono _ _ _
      | exact LeO.none _
      | refine LeO.ite ?_ ?_
      | refine LeO.bind ?_ (fun _ => ?_)
set_option maxHeartbeats 8000000 in
set_option maxRecDepth 100000 in
theorem estoversref21_Check.calls (k : Nat) (A0 : Option Addr) (c0 : Nat) (l0 : List (S37)) (r : Int) (w : World) (hr0 : Kd.C k37 w A0 l0.length l0) (hc0 : l0.length ≤ c0) (h : estoversref21_Check.f k l0 = some r) :
    Calls Try.prog 28 #[.slice A0 l0.length c0] w fun e w' => e = .returned (.int .i64 r) ∧ Below w.heap.size w w' := by
  have hu37 := Try.underlying37
  have HR0 := Aside0.mk hr0
  have HC0 := Aside0.mk hc0
  clear hr0 hc0
  have HB := Aside0.mk (Below.refl w.heap.size w)
  have H : (estoversref21_Check.l0 k l0 0) = some r := h
  clear h
  have H' := Aside0.mk H
  clear H
  go_enter Try.func28, Try.ntmps28
  go_wp2
  go_loopg [3] k (fun kq v3 w' => ∃ (x3_1 : Int), v3 = .int .i64 x3_1 ∧ Aside0 (estoversref21_Check.l0 kq l0 x3_1 = some r) ∧ Aside0 (kq ≤ k) ∧ Aside0 (Below w.heap.size w w'))
  case atStart => exact ⟨(0), (by first | rfl | (simp; done) | (simp [*]; done)), H', ⟨Nat.le_refl _⟩, ⟨by repeat (first | (with_reducible first | exact HB.out | apply below_alloc | apply pw_below_drewN | apply below_drew1) | exact HB.out)⟩⟩
  case round =>
    clear H'
    obtain ⟨x3_1, rfl, HA, HK1, HB⟩ := hrel
    cases gk with
    | zero => exact absurd HA.out (by simp [estoversref21_Check.l0])
    | succ k1 =>
      have H := HA.out
      clear HA
      simp only [estoversref21_Check.l0] at H
      by_cases c2 : x3_1 < (l0.length : Int)
      · rw [if_pos c2] at H
        have c2b0 : decide (x3_1 < (l0.length : Int)) = true := decide_eq_true c2
        clear c2
        by_cases c3 : 0 ≤ x3_1
        · rw [if_pos c3] at H
          have c3b0 : decide (0 ≤ x3_1) = true := decide_eq_true c3
          clear c3
          replace H := Option.bind_eq_some_iff.mp H
          obtain ⟨t274, A40, H⟩ := H
          replace H : (if t274 = true then (estoversref21_Check.l0 k1 l0 (wrap64 (x3_1 + 1))) else (some 2)) = some r := H
          have A4 := Aside0.mk A40
          clear A40
          by_cases c5 : t274 = true
          · subst c5
            have H1 : (estoversref21_Check.l0 k1 l0 (wrap64 (x3_1 + 1))) = some r := by rw [if_pos rfl] at H; exact H
            clear H
            have H := H1
            clear H1
            have H' := Aside0.mk H
            clear H
            have p273 : 0 ≤ (x3_1 : Int) := of_decide_eq_true (by first | (with_reducible assumption) | assumption)
            have q273 : x3_1 < (l0.length : Int) := of_decide_eq_true (by first | (with_reducible assumption) | assumption)
            obtain ⟨ad273, e273, hx273_0, hx273_1, hx273_2, hx273_3⟩ := at_T37 HR0.out x3_1 p273 q273
            cases e273
            replace hx273_0 := (HB.out.cell (World.block_lt_of_cell? w _ hx273_0)).trans hx273_0
            replace hx273_1 := (HB.out.cell (World.block_lt_of_cell? w _ hx273_1)).trans hx273_1
            replace hx273_2 := (HB.out.cell (World.block_lt_of_cell? w _ hx273_2)).trans hx273_2
            replace hx273_3 := (HB.out.cell (World.block_lt_of_cell? w _ hx273_3)).trans hx273_3
            replace p273 := eq_true p273
            replace q273 := eq_true q273
            go_wp2_with (first | ((with_reducible refine gate_callee (f := 38) rfl ?_); refine goesL_ (some 15) rfl rfl Try.func38 (by kernel_rfl) rfl #[.agg #[.int .i64 ((rd_T37 l0 x3_1).f0), .int .i64 ((rd_T37 l0 x3_1).f1), .int .i64 ((rd_T37 l0 x3_1).f2), .int .i64 ((rd_T37 l0 x3_1).f3)]] rfl (by (try simp only [List.map_toArray, List.map_cons, List.map_nil]); first | done | rfl | (simp only [List.length_drop, List.length_take]; rfl)) ?_; (with_reducible refine (estoversref21_Valid.calls ((rd_T37 l0 x3_1).f0) ((rd_T37 l0 x3_1).f1) ((rd_T37 l0 x3_1).f2) ((rd_T37 l0 x3_1).f3) true _ A4.out).mono ?_); rintro e w6 ⟨rfl, hb⟩; refine ⟨_, rfl, ?_⟩; have n0_ := Aside0.mk (below_step (by repeat (first | (with_reducible first | exact HB.out | apply below_alloc | apply pw_below_drewN | apply below_drew1) | exact HB.out)) hb); clear HB; have HB := n0_; clear n0_; (try clear hb); (try clear hb2); (try clear hk); (try clear hi)))
            go_roundg k1
            case measure => have := HK1.out; omega
            case rel => exact ⟨(wrap64 (x3_1 + 1)), (by first | rfl | (simp; done) | (simp [*]; done)), H', ⟨by have := HK1.out; omega⟩, ⟨by repeat (first | (with_reducible first | exact HB.out | apply below_alloc | apply pw_below_drewN | apply below_drew1) | exact HB.out)⟩⟩
          · replace c5 := Bool.eq_false_iff.mpr c5
            subst c5
            have H1 : (some 2) = some r := by rw [if_neg (show ¬ (false = true) by decide)] at H; exact H
            clear H
            have H := H1
            clear H1
            obtain rfl := Option.some.inj H
            have p273 : 0 ≤ (x3_1 : Int) := of_decide_eq_true (by first | (with_reducible assumption) | assumption)
            have q273 : x3_1 < (l0.length : Int) := of_decide_eq_true (by first | (with_reducible assumption) | assumption)
            obtain ⟨ad273, e273, hx273_0, hx273_1, hx273_2, hx273_3⟩ := at_T37 HR0.out x3_1 p273 q273
            cases e273
            replace hx273_0 := (HB.out.cell (World.block_lt_of_cell? w _ hx273_0)).trans hx273_0
            replace hx273_1 := (HB.out.cell (World.block_lt_of_cell? w _ hx273_1)).trans hx273_1
            replace hx273_2 := (HB.out.cell (World.block_lt_of_cell? w _ hx273_2)).trans hx273_2
            replace hx273_3 := (HB.out.cell (World.block_lt_of_cell? w _ hx273_3)).trans hx273_3
            replace p273 := eq_true p273
            replace q273 := eq_true q273
            go_wp2_with (first | ((with_reducible refine gate_callee (f := 38) rfl ?_); refine goesL_ (some 15) rfl rfl Try.func38 (by kernel_rfl) rfl #[.agg #[.int .i64 ((rd_T37 l0 x3_1).f0), .int .i64 ((rd_T37 l0 x3_1).f1), .int .i64 ((rd_T37 l0 x3_1).f2), .int .i64 ((rd_T37 l0 x3_1).f3)]] rfl (by (try simp only [List.map_toArray, List.map_cons, List.map_nil]); first | done | rfl | (simp only [List.length_drop, List.length_take]; rfl)) ?_; (with_reducible refine (estoversref21_Valid.calls ((rd_T37 l0 x3_1).f0) ((rd_T37 l0 x3_1).f1) ((rd_T37 l0 x3_1).f2) ((rd_T37 l0 x3_1).f3) false _ A4.out).mono ?_); rintro e w7 ⟨rfl, hb⟩; refine ⟨_, rfl, ?_⟩; have n0_ := Aside0.mk (below_step (by repeat (first | (with_reducible first | exact HB.out | apply below_alloc | apply pw_below_drewN | apply below_drew1) | exact HB.out)) hb); clear HB; have HB := n0_; clear n0_; (try clear hb); (try clear hb2); (try clear hk); (try clear hi)))
            go_ret
            exact ⟨by first | rfl | (simp [errW_none, errW_some] <;> rfl) | (simp [*, errW_none, errW_some] <;> rfl), by repeat (first | (with_reducible first | exact HB.out | apply below_alloc | apply pw_below_drewN | apply below_drew1) | exact HB.out)⟩
        · rw [if_neg c3] at H
          exact absurd H (by simp)
      · rw [if_neg c2] at H
        have c2b0 : decide (x3_1 < (l0.length : Int)) = false := decide_eq_false c2
        clear c2
        have H' := Aside0.mk H
        clear H
        go_wp2
        go_loopg [4] k1 (fun kq v4 w' => ∃ (x4_2 : Int), v4 = .int .i64 x4_2 ∧ Aside0 (estoversref21_Check.l1 kq l0 x4_2 = some r) ∧ Aside0 (kq ≤ k1) ∧ Aside0 (Below w.heap.size w w'))
        case atStart => exact ⟨(0), (by first | rfl | (simp; done) | (simp [*]; done)), H', ⟨Nat.le_refl _⟩, ⟨by repeat (first | (with_reducible first | exact HB.out | apply below_alloc | apply pw_below_drewN | apply below_drew1) | exact HB.out)⟩⟩
        case round =>
          clear H'
          try clear c2
          try clear c2b0
          try clear p2
          try clear q2
          try clear hx2
          try clear c3
          try clear c3b0
          try clear c5
          try clear p6
          try clear hx273_0
          try clear hx273_1
          try clear hx273_2
          try clear hx273_3
          try clear p273
          try clear q273
          obtain ⟨x4_2, rfl, HA, HK2, HB⟩ := hrel
          cases gk with
          | zero => exact absurd HA.out (by simp [estoversref21_Check.l1])
          | succ k2 =>
            have H := HA.out
            clear HA
            simp only [estoversref21_Check.l1] at H
            by_cases c8 : x4_2 < (l0.length : Int)
            · rw [if_pos c8] at H
              have c8b0 : decide (x4_2 < (l0.length : Int)) = true := decide_eq_true c8
              clear c8
              by_cases c9 : 0 ≤ x4_2
              · rw [if_pos c9] at H
                have c9b0 : decide (0 ≤ x4_2) = true := decide_eq_true c9
                clear c9
                replace H := Option.bind_eq_some_iff.mp H
                obtain ⟨t276, A100, H⟩ := H
                replace H : (if t276 < x4_2 then (some 7) else (estoversref21_Check.l1 k2 l0 (wrap64 (x4_2 + 1)))) = some r := H
                have A10 := Aside0.mk A100
                clear A100
                by_cases c11 : t276 < x4_2
                · rw [if_pos c11] at H
                  have c11b0 : decide (t276 < x4_2) = true := decide_eq_true c11
                  clear c11
                  obtain rfl := Option.some.inj H
                  have p275 : 0 ≤ (x4_2 : Int) := of_decide_eq_true (by first | (with_reducible assumption) | assumption)
                  have q275 : x4_2 < (l0.length : Int) := of_decide_eq_true (by first | (with_reducible assumption) | assumption)
                  obtain ⟨ad275, e275, hx275_0, hx275_1, hx275_2, hx275_3⟩ := at_T37 HR0.out x4_2 p275 q275
                  cases e275
                  replace hx275_0 := (HB.out.cell (World.block_lt_of_cell? w _ hx275_0)).trans hx275_0
                  replace hx275_1 := (HB.out.cell (World.block_lt_of_cell? w _ hx275_1)).trans hx275_1
                  replace hx275_2 := (HB.out.cell (World.block_lt_of_cell? w _ hx275_2)).trans hx275_2
                  replace hx275_3 := (HB.out.cell (World.block_lt_of_cell? w _ hx275_3)).trans hx275_3
                  replace p275 := eq_true p275
                  replace q275 := eq_true q275
                  go_wp2_with (first | ((with_reducible refine gate_callee (f := 55) rfl ?_); refine goesL_ (some 29) rfl rfl Try.func55 (by kernel_rfl) rfl #[.slice (some ad275) l0.length c0, .int .i64 ((rd_T37 l0 x4_2).f0)] rfl (by (try simp only [List.map_toArray, List.map_cons, List.map_nil]); first | done | rfl | (simp only [List.length_drop, List.length_take]; rfl)) ?_; (with_reducible refine (estoversref21_at.calls k2 _ _ l0 ((rd_T37 l0 x4_2).f0) t276 _ ?side1 ?side2 A10.out).mono ?_); (case side1 => repeat (first | exact (Kd.C_below HR0.out HB.out) | (with_reducible refine Kd.C_alloc ?_ _) | (with_reducible refine Kd.C_drewN ?_ _) | (with_reducible refine Kd.C_drew ?_))); (case side2 => exact HC0.out); rintro e w' ⟨rfl, ⟨nd, rfl⟩⟩; refine ⟨_, rfl, ?_⟩))
                  go_ret
                  exact ⟨by first | rfl | (simp [errW_none, errW_some] <;> rfl) | (simp [*, errW_none, errW_some] <;> rfl), by repeat (first | (with_reducible first | exact HB.out | apply below_alloc | apply pw_below_drewN | apply below_drew1) | exact HB.out)⟩
                · rw [if_neg c11] at H
                  have c11b0 : decide (t276 < x4_2) = false := decide_eq_false c11
                  clear c11
                  have H' := Aside0.mk H
                  clear H
                  have p275 : 0 ≤ (x4_2 : Int) := of_decide_eq_true (by first | (with_reducible assumption) | assumption)
                  have q275 : x4_2 < (l0.length : Int) := of_decide_eq_true (by first | (with_reducible assumption) | assumption)
                  obtain ⟨ad275, e275, hx275_0, hx275_1, hx275_2, hx275_3⟩ := at_T37 HR0.out x4_2 p275 q275
                  cases e275
                  replace hx275_0 := (HB.out.cell (World.block_lt_of_cell? w _ hx275_0)).trans hx275_0
                  replace hx275_1 := (HB.out.cell (World.block_lt_of_cell? w _ hx275_1)).trans hx275_1
                  replace hx275_2 := (HB.out.cell (World.block_lt_of_cell? w _ hx275_2)).trans hx275_2
                  replace hx275_3 := (HB.out.cell (World.block_lt_of_cell? w _ hx275_3)).trans hx275_3
                  replace p275 := eq_true p275
                  replace q275 := eq_true q275
                  go_wp2_with (first | ((with_reducible refine gate_callee (f := 55) rfl ?_); refine goesL_ (some 29) rfl rfl Try.func55 (by kernel_rfl) rfl #[.slice (some ad275) l0.length c0, .int .i64 ((rd_T37 l0 x4_2).f0)] rfl (by (try simp only [List.map_toArray, List.map_cons, List.map_nil]); first | done | rfl | (simp only [List.length_drop, List.length_take]; rfl)) ?_; (with_reducible refine (estoversref21_at.calls k2 _ _ l0 ((rd_T37 l0 x4_2).f0) t276 _ ?side1 ?side2 A10.out).mono ?_); (case side1 => repeat (first | exact (Kd.C_below HR0.out HB.out) | (with_reducible refine Kd.C_alloc ?_ _) | (with_reducible refine Kd.C_drewN ?_ _) | (with_reducible refine Kd.C_drew ?_))); (case side2 => exact HC0.out); rintro e w' ⟨rfl, ⟨nd, rfl⟩⟩; refine ⟨_, rfl, ?_⟩))
                  go_roundg k2
                  case measure => have := HK1.out; have := HK2.out; omega
                  case rel => exact ⟨(wrap64 (x4_2 + 1)), (by first | rfl | (simp; done) | (simp [*]; done)), H', ⟨by have := HK1.out; have := HK2.out; omega⟩, ⟨by repeat (first | (with_reducible first | exact HB.out | apply below_alloc | apply pw_below_drewN | apply below_drew1) | exact HB.out)⟩⟩
              · rw [if_neg c9] at H
                exact absurd H (by simp)
            · rw [if_neg c8] at H
              have c8b0 : decide (x4_2 < (l0.length : Int)) = false := decide_eq_false c8
              clear c8
              obtain rfl := Option.some.inj H
              go_wp2
              go_ret
              exact ⟨by first | rfl | (simp [errW_none, errW_some] <;> rfl) | (simp [*, errW_none, errW_some] <;> rfl), by repeat (first | (with_reducible first | exact HB.out | apply below_alloc | apply pw_below_drewN | apply below_drew1) | exact HB.out)⟩

/-! ### estoversref21_Push: function 30 -/
def estoversref21_Push.l0 : Nat → List (S37) → List (S37) → Int → Int → Int → Int → Int → Option ((List (S37)) × Int)
  | 0, _, _, _, _, _, _, _ => none
  | k + 1, x0, x7, x8, x278000, x278001, x278002, x278003 => if x8 < (x0.length : Int) then (if 0 ≤ x8 then (if x7.length < 4398046511104 then (estoversref21_Push.l0 k x0 (x7 ++ [(⟨(rd_T37 x0 x8).f0, (rd_T37 x0 x8).f1, (rd_T37 x0 x8).f2, (rd_T37 x0 x8).f3⟩ : S37)]) (wrap64 (x8 + 1)) x278000 x278001 x278002 x278003) else (none)) else (none)) else (if x7.length < 4398046511104 then (some ((x7 ++ [(⟨x278000, x278001, x278002, x278003⟩ : S37)]), 0)) else (none))
def estoversref21_Push.f (k : Nat) (l0 : List (S37)) (a1_0 : Int) (a1_1 : Int) (a1_2 : Int) (a1_3 : Int) : Option ((List (S37)) × Int) := (estoversref21_Check.f k l0).bind fun t278 => (if t278 = 0 then ((estoversref21_Valid.f a1_0 a1_1 a1_2 a1_3).bind fun t279 => (if t279 = true then ((estoversref21_at.f k l0 a1_0).bind fun t280 => (if t280 ≥ 0 then (some (([] : List (S37)), 7)) else (estoversref21_Push.l0 k l0 ([] : List (S37)) 0 a1_0 a1_1 a1_2 a1_3))) else (some (([] : List (S37)), 2)))) else (some (([] : List (S37)), t278)))
theorem estoversref21_Push.mono_l : ∀ k, (∀ y0 y1 y2 y3 y4 y5 y6, LeO (estoversref21_Push.l0 k y0 y1 y2 y3 y4 y5 y6) (estoversref21_Push.l0 (k + 1) y0 y1 y2 y3 y4 y5 y6))
  | 0 => fun _ _ _ _ _ _ _ r h => by simp [estoversref21_Push.l0] at h
  | k + 1 => by
    have ih0 := estoversref21_Push.mono_l k
    · intro y0 y1 y2 y3 y4 y5 y6
      unfold estoversref21_Push.l0
      repeat' first
      | (with_reducible exact ih0 _ _ _ _ _ _ _)
      | (with_reducible exact estoversref21_Check.mono _ _)
      | (with_reducible exact estoversref21_at.mono _ _ _)
      | (with_reducible exact LeO.refl _)
      | (with_reducible exact LeO.none _)
      | (with_reducible refine LeO.ite ?_ ?_)
      | (with_reducible refine LeO.bind ?_ (fun _ => ?_))
      | exact ih0 _ _ _ _ _ _ _
      | exact estoversref21_Check.mono _ _
      | exact estoversref21_at.mono _ _ _
      | exact LeO.none _
      | refine LeO.ite ?_ ?_
      | refine LeO.bind ?_ (fun _ => ?_)
theorem estoversref21_Push.mono : ∀ a0 a1 a2 a3 a4 k, LeO (estoversref21_Push.f k a0 a1 a2 a3 a4) (estoversref21_Push.f (k + 1) a0 a1 a2 a3 a4) := by
  intro a0 a1 a2 a3 a4 k
  have ih0 := estoversref21_Push.mono_l k
  unfold estoversref21_Push.f
  repeat' first
      | (with_reducible exact ih0 _ _ _ _ _ _ _)
      | (with_reducible exact estoversref21_Check.mono _ _)
      | (with_reducible exact estoversref21_at.mono _ _ _)
      | (with_reducible exact LeO.refl _)
      | (with_reducible exact LeO.none _)
      | (with_reducible refine LeO.ite ?_ ?_)
      | (with_reducible refine LeO.bind ?_ (fun _ => ?_))
      | exact ih0 _ _ _ _ _ _ _
      | exact estoversref21_Check.mono _ _
      | exact estoversref21_at.mono _ _ _
      | exact LeO.none _
      | refine LeO.ite ?_ ?_
      | refine LeO.bind ?_ (fun _ => ?_)
set_option maxHeartbeats 8000000 in
set_option maxRecDepth 100000 in
theorem estoversref21_Push.calls (k : Nat) (A0 : Option Addr) (c0 : Nat) (l0 : List (S37)) (a1_0 : Int) (a1_1 : Int) (a1_2 : Int) (a1_3 : Int) (r1 : List (S37)) (r2 : Int) (w : World) (hr0 : Kd.C k37 w A0 l0.length l0) (hc0 : l0.length ≤ c0) (h : estoversref21_Push.f k l0 a1_0 a1_1 a1_2 a1_3 = some (r1, r2)) :
    Calls Try.prog 30 #[.slice A0 l0.length c0, .agg #[.int .i64 a1_0, .int .i64 a1_1, .int .i64 a1_2, .int .i64 a1_3]] w fun e w' => ∃ v0_ : Value, e = .returned (.tuple #[v0_, .int .i64 r2]) ∧ Kd.R k37 37 w' w.heap.size (fun _ => True) v0_ r1 ∧ Below w.heap.size w w' := by
  have hu37 := Try.underlying37
  have HR0 := Aside0.mk hr0
  have HC0 := Aside0.mk hc0
  clear hr0 hc0
  have HB := Aside0.mk (Below.refl w.heap.size w)
  have H : ((estoversref21_Check.f k l0).bind fun t278 => (if t278 = 0 then ((estoversref21_Valid.f a1_0 a1_1 a1_2 a1_3).bind fun t279 => (if t279 = true then ((estoversref21_at.f k l0 a1_0).bind fun t280 => (if t280 ≥ 0 then (some (([] : List (S37)), 7)) else (estoversref21_Push.l0 k l0 ([] : List (S37)) 0 a1_0 a1_1 a1_2 a1_3))) else (some (([] : List (S37)), 2)))) else (some (([] : List (S37)), t278)))) = some (r1, r2) := h
  clear h
  replace H := Option.bind_eq_some_iff.mp H
  obtain ⟨t278, A30, H⟩ := H
  replace H : (if t278 = 0 then ((estoversref21_Valid.f a1_0 a1_1 a1_2 a1_3).bind fun t279 => (if t279 = true then ((estoversref21_at.f k l0 a1_0).bind fun t280 => (if t280 ≥ 0 then (some (([] : List (S37)), 7)) else (estoversref21_Push.l0 k l0 ([] : List (S37)) 0 a1_0 a1_1 a1_2 a1_3))) else (some (([] : List (S37)), 2)))) else (some (([] : List (S37)), t278))) = some (r1, r2) := H
  have A3 := Aside0.mk A30
  clear A30
  by_cases c4 : t278 = 0
  · rw [if_pos c4] at H
    have c4b0 : (t278 == 0) = true := beq_iff_eq.mpr c4
    have c4b1 : (t278 != 0) = false := bne_eq_false_iff_eq.mpr c4
    clear c4
    replace H := Option.bind_eq_some_iff.mp H
    obtain ⟨t279, A50, H⟩ := H
    replace H : (if t279 = true then ((estoversref21_at.f k l0 a1_0).bind fun t280 => (if t280 ≥ 0 then (some (([] : List (S37)), 7)) else (estoversref21_Push.l0 k l0 ([] : List (S37)) 0 a1_0 a1_1 a1_2 a1_3))) else (some (([] : List (S37)), 2))) = some (r1, r2) := H
    have A5 := Aside0.mk A50
    clear A50
    by_cases c6 : t279 = true
    · subst c6
      have H1 : ((estoversref21_at.f k l0 a1_0).bind fun t280 => (if t280 ≥ 0 then (some (([] : List (S37)), 7)) else (estoversref21_Push.l0 k l0 ([] : List (S37)) 0 a1_0 a1_1 a1_2 a1_3))) = some (r1, r2) := by rw [if_pos rfl] at H; exact H
      clear H
      have H := H1
      clear H1
      replace H := Option.bind_eq_some_iff.mp H
      obtain ⟨t280, A70, H⟩ := H
      replace H : (if t280 ≥ 0 then (some (([] : List (S37)), 7)) else (estoversref21_Push.l0 k l0 ([] : List (S37)) 0 a1_0 a1_1 a1_2 a1_3)) = some (r1, r2) := H
      have A7 := Aside0.mk A70
      clear A70
      by_cases c8 : t280 ≥ 0
      · rw [if_pos c8] at H
        have c8b0 : decide (0 ≤ t280) = true := decide_eq_true c8
        clear c8
        simp only [Option.some.injEq, Prod.mk.injEq] at H
        obtain ⟨rfl, rfl⟩ := H
        go_enter Try.func30, Try.ntmps30
        go_wp2_with (first | ((with_reducible refine gate_dst (N := 3) rfl ?_); refine box_event ?hg (N := 3) ?hd (cs := #[.int .i64 a1_0, .int .i64 a1_1, .int .i64 a1_2, .int .i64 a1_3]) (t := 37) ?hr ?_; (case hd => rfl); (case hg => rfl); (case hr => first | (go_simp; done) | (go_simp; rfl)); intro gb277 hg w9 hbox hb; have n0_ := Aside0.mk (below_step (by repeat (first | (with_reducible first | exact HB.out | apply below_alloc | apply pw_below_drewN | apply below_drew1) | exact HB.out)) hb); have n1_ := Aside0.mk (hbox); have n2_ := Aside0.mk ((by rw [hg]; exact (below_size (by repeat (first | (with_reducible first | exact HB.out | apply below_alloc | apply pw_below_drewN | apply below_drew1) | exact HB.out))) : w.heap.size ≤ gb277)); have n3_ := Aside0.mk ((by rw [hg]; exact (below_size (by repeat (first | (with_reducible first | exact HB.out | apply below_alloc | apply pw_below_drewN | apply below_drew1) | exact HB.out))) : w.heap.size ≤ gb277)); clear HB; have HB := n0_; have BK277 := n1_; have GW277 := n2_; have GE277 := n3_; clear n0_ n1_ n2_ n3_; clear hb hbox hg) | ((with_reducible refine gate_callee (f := 28) rfl ?_); refine goesL_ (some 10) rfl rfl Try.func28 (by kernel_rfl) rfl #[.slice A0 l0.length c0] rfl (by (try simp only [List.map_toArray, List.map_cons, List.map_nil]); first | done | rfl | (simp only [List.length_drop, List.length_take]; rfl)) ?_; (with_reducible refine (estoversref21_Check.calls k _ _ l0 t278 _ ?side1 ?side2 A3.out).mono ?_); (case side1 => repeat (first | exact (Kd.C_below HR0.out HB.out) | (with_reducible refine Kd.C_alloc ?_ _) | (with_reducible refine Kd.C_drewN ?_ _) | (with_reducible refine Kd.C_drew ?_))); (case side2 => exact HC0.out); rintro e w10 ⟨rfl, hb⟩; refine ⟨_, rfl, ?_⟩; have n0_ := Aside0.mk (blk_below (g := gb277) (o := .cells #[.int .i64 a1_0, .int .i64 a1_1, .int .i64 a1_2, .int .i64 a1_3] 37 (0, 0)) (by (with_reducible repeat (first | refine blk_drewN ?_ _ | refine blk_drew ?_ | refine blk_alloc ?_ _)); exact BK277.out) hb); have n1_ := Aside0.mk (below_step (by repeat (first | (with_reducible first | exact HB.out | apply below_alloc | apply pw_below_drewN | apply below_drew1 | refine below_set ?_ GE277.out) | exact HB.out)) hb); clear BK277; clear HB; have BK277 := n0_; have HB := n1_; clear n0_ n1_; (try clear hb); (try clear hb2); (try clear hk); (try clear hi); have hcz11_0 : w10.cell? ⟨gb277, 0, none⟩ = some (.int .i64 a1_0) := (blk_cell BK277.out 0).trans rfl; have hcz11_1 : w10.cell? ⟨gb277, 1, none⟩ = some (.int .i64 a1_1) := (blk_cell BK277.out 1).trans rfl; have hcz11_2 : w10.cell? ⟨gb277, 2, none⟩ = some (.int .i64 a1_2) := (blk_cell BK277.out 2).trans rfl; have hcz11_3 : w10.cell? ⟨gb277, 3, none⟩ = some (.int .i64 a1_3) := (blk_cell BK277.out 3).trans rfl; have hfz11_0 := blk_frozen BK277.out 0; have hfz11_1 := blk_frozen BK277.out 1; have hfz11_2 := blk_frozen BK277.out 2; have hfz11_3 := blk_frozen BK277.out 3) | ((with_reducible refine gate_callee (f := 38) rfl ?_); refine goesL_ (some 15) rfl rfl Try.func38 (by kernel_rfl) rfl #[.agg #[.int .i64 a1_0, .int .i64 a1_1, .int .i64 a1_2, .int .i64 a1_3]] rfl (by (try simp only [List.map_toArray, List.map_cons, List.map_nil]); first | done | rfl | (simp only [List.length_drop, List.length_take]; rfl)) ?_; (with_reducible refine (estoversref21_Valid.calls a1_0 a1_1 a1_2 a1_3 true _ A5.out).mono ?_); rintro e w12 ⟨rfl, hb⟩; refine ⟨_, rfl, ?_⟩; have n0_ := Aside0.mk (blk_below (g := gb277) (o := .cells #[.int .i64 a1_0, .int .i64 a1_1, .int .i64 a1_2, .int .i64 a1_3] 37 (0, 0)) (by (with_reducible repeat (first | refine blk_drewN ?_ _ | refine blk_drew ?_ | refine blk_alloc ?_ _)); exact BK277.out) hb); have n1_ := Aside0.mk (below_step (by repeat (first | (with_reducible first | exact HB.out | apply below_alloc | apply pw_below_drewN | apply below_drew1 | refine below_set ?_ GE277.out) | exact HB.out)) hb); clear BK277; clear HB; have BK277 := n0_; have HB := n1_; clear n0_ n1_; (try clear hb); (try clear hb2); (try clear hk); (try clear hi); have hcz13_0 : w12.cell? ⟨gb277, 0, none⟩ = some (.int .i64 a1_0) := (blk_cell BK277.out 0).trans rfl; have hcz13_1 : w12.cell? ⟨gb277, 1, none⟩ = some (.int .i64 a1_1) := (blk_cell BK277.out 1).trans rfl; have hcz13_2 : w12.cell? ⟨gb277, 2, none⟩ = some (.int .i64 a1_2) := (blk_cell BK277.out 2).trans rfl; have hcz13_3 : w12.cell? ⟨gb277, 3, none⟩ = some (.int .i64 a1_3) := (blk_cell BK277.out 3).trans rfl; have hfz13_0 := blk_frozen BK277.out 0; have hfz13_1 := blk_frozen BK277.out 1; have hfz13_2 := blk_frozen BK277.out 2; have hfz13_3 := blk_frozen BK277.out 3) | ((with_reducible refine gate_callee (f := 55) rfl ?_); refine goesL_ (some 20) rfl rfl Try.func55 (by kernel_rfl) rfl #[.slice A0 l0.length c0, .int .i64 a1_0] rfl (by (try simp only [List.map_toArray, List.map_cons, List.map_nil]); first | done | rfl | (simp only [List.length_drop, List.length_take]; rfl)) ?_; (with_reducible refine (estoversref21_at.calls k _ _ l0 a1_0 t280 _ ?side1 ?side2 A7.out).mono ?_); (case side1 => repeat (first | exact (Kd.C_below HR0.out HB.out) | (with_reducible refine Kd.C_alloc ?_ _) | (with_reducible refine Kd.C_drewN ?_ _) | (with_reducible refine Kd.C_drew ?_))); (case side2 => exact HC0.out); rintro e w' ⟨rfl, ⟨nd, rfl⟩⟩; refine ⟨_, rfl, ?_⟩))
        go_ret2
        exact ⟨_, by first | rfl | (simp [errW_none, errW_some] <;> rfl) | (simp [*, errW_none, errW_some] <;> rfl), by first | exact Kd.R_nil _ _ _ _ _ | exact Kd.N_nil _ _ _ _ _ | exact Kd.V_nil _ _ _ _ _ | exact Kd.Q_nil _ _ _ _ _ | exact Kd.S_nil _ _ _ _ _, by repeat (first | (with_reducible first | exact HB.out | apply below_alloc | apply pw_below_drewN | apply below_drew1 | refine below_set ?_ GE277.out) | exact HB.out)⟩
      · rw [if_neg c8] at H
        have c8b0 : decide (0 ≤ t280) = false := decide_eq_false c8
        clear c8
        have H' := Aside0.mk H
        clear H
        go_enter Try.func30, Try.ntmps30
        go_wp2_with (first | ((with_reducible refine gate_dst (N := 3) rfl ?_); refine box_event ?hg (N := 3) ?hd (cs := #[.int .i64 a1_0, .int .i64 a1_1, .int .i64 a1_2, .int .i64 a1_3]) (t := 37) ?hr ?_; (case hd => rfl); (case hg => rfl); (case hr => first | (go_simp; done) | (go_simp; rfl)); intro gb277 hg w14 hbox hb; have n0_ := Aside0.mk (below_step (by repeat (first | (with_reducible first | exact HB.out | apply below_alloc | apply pw_below_drewN | apply below_drew1) | exact HB.out)) hb); have n1_ := Aside0.mk (hbox); have n2_ := Aside0.mk ((by rw [hg]; exact (below_size (by repeat (first | (with_reducible first | exact HB.out | apply below_alloc | apply pw_below_drewN | apply below_drew1) | exact HB.out))) : w.heap.size ≤ gb277)); have n3_ := Aside0.mk ((by rw [hg]; exact (below_size (by repeat (first | (with_reducible first | exact HB.out | apply below_alloc | apply pw_below_drewN | apply below_drew1) | exact HB.out))) : w.heap.size ≤ gb277)); clear HB; have HB := n0_; have BK277 := n1_; have GW277 := n2_; have GE277 := n3_; clear n0_ n1_ n2_ n3_; clear hb hbox hg) | ((with_reducible refine gate_callee (f := 28) rfl ?_); refine goesL_ (some 10) rfl rfl Try.func28 (by kernel_rfl) rfl #[.slice A0 l0.length c0] rfl (by (try simp only [List.map_toArray, List.map_cons, List.map_nil]); first | done | rfl | (simp only [List.length_drop, List.length_take]; rfl)) ?_; (with_reducible refine (estoversref21_Check.calls k _ _ l0 t278 _ ?side1 ?side2 A3.out).mono ?_); (case side1 => repeat (first | exact (Kd.C_below HR0.out HB.out) | (with_reducible refine Kd.C_alloc ?_ _) | (with_reducible refine Kd.C_drewN ?_ _) | (with_reducible refine Kd.C_drew ?_))); (case side2 => exact HC0.out); rintro e w15 ⟨rfl, hb⟩; refine ⟨_, rfl, ?_⟩; have n0_ := Aside0.mk (blk_below (g := gb277) (o := .cells #[.int .i64 a1_0, .int .i64 a1_1, .int .i64 a1_2, .int .i64 a1_3] 37 (0, 0)) (by (with_reducible repeat (first | refine blk_drewN ?_ _ | refine blk_drew ?_ | refine blk_alloc ?_ _)); exact BK277.out) hb); have n1_ := Aside0.mk (below_step (by repeat (first | (with_reducible first | exact HB.out | apply below_alloc | apply pw_below_drewN | apply below_drew1 | refine below_set ?_ GE277.out) | exact HB.out)) hb); clear BK277; clear HB; have BK277 := n0_; have HB := n1_; clear n0_ n1_; (try clear hb); (try clear hb2); (try clear hk); (try clear hi); have hcz16_0 : w15.cell? ⟨gb277, 0, none⟩ = some (.int .i64 a1_0) := (blk_cell BK277.out 0).trans rfl; have hcz16_1 : w15.cell? ⟨gb277, 1, none⟩ = some (.int .i64 a1_1) := (blk_cell BK277.out 1).trans rfl; have hcz16_2 : w15.cell? ⟨gb277, 2, none⟩ = some (.int .i64 a1_2) := (blk_cell BK277.out 2).trans rfl; have hcz16_3 : w15.cell? ⟨gb277, 3, none⟩ = some (.int .i64 a1_3) := (blk_cell BK277.out 3).trans rfl; have hfz16_0 := blk_frozen BK277.out 0; have hfz16_1 := blk_frozen BK277.out 1; have hfz16_2 := blk_frozen BK277.out 2; have hfz16_3 := blk_frozen BK277.out 3) | ((with_reducible refine gate_callee (f := 38) rfl ?_); refine goesL_ (some 15) rfl rfl Try.func38 (by kernel_rfl) rfl #[.agg #[.int .i64 a1_0, .int .i64 a1_1, .int .i64 a1_2, .int .i64 a1_3]] rfl (by (try simp only [List.map_toArray, List.map_cons, List.map_nil]); first | done | rfl | (simp only [List.length_drop, List.length_take]; rfl)) ?_; (with_reducible refine (estoversref21_Valid.calls a1_0 a1_1 a1_2 a1_3 true _ A5.out).mono ?_); rintro e w17 ⟨rfl, hb⟩; refine ⟨_, rfl, ?_⟩; have n0_ := Aside0.mk (blk_below (g := gb277) (o := .cells #[.int .i64 a1_0, .int .i64 a1_1, .int .i64 a1_2, .int .i64 a1_3] 37 (0, 0)) (by (with_reducible repeat (first | refine blk_drewN ?_ _ | refine blk_drew ?_ | refine blk_alloc ?_ _)); exact BK277.out) hb); have n1_ := Aside0.mk (below_step (by repeat (first | (with_reducible first | exact HB.out | apply below_alloc | apply pw_below_drewN | apply below_drew1 | refine below_set ?_ GE277.out) | exact HB.out)) hb); clear BK277; clear HB; have BK277 := n0_; have HB := n1_; clear n0_ n1_; (try clear hb); (try clear hb2); (try clear hk); (try clear hi); have hcz18_0 : w17.cell? ⟨gb277, 0, none⟩ = some (.int .i64 a1_0) := (blk_cell BK277.out 0).trans rfl; have hcz18_1 : w17.cell? ⟨gb277, 1, none⟩ = some (.int .i64 a1_1) := (blk_cell BK277.out 1).trans rfl; have hcz18_2 : w17.cell? ⟨gb277, 2, none⟩ = some (.int .i64 a1_2) := (blk_cell BK277.out 2).trans rfl; have hcz18_3 : w17.cell? ⟨gb277, 3, none⟩ = some (.int .i64 a1_3) := (blk_cell BK277.out 3).trans rfl; have hfz18_0 := blk_frozen BK277.out 0; have hfz18_1 := blk_frozen BK277.out 1; have hfz18_2 := blk_frozen BK277.out 2; have hfz18_3 := blk_frozen BK277.out 3) | ((with_reducible refine gate_callee (f := 55) rfl ?_); refine goesL_ (some 20) rfl rfl Try.func55 (by kernel_rfl) rfl #[.slice A0 l0.length c0, .int .i64 a1_0] rfl (by (try simp only [List.map_toArray, List.map_cons, List.map_nil]); first | done | rfl | (simp only [List.length_drop, List.length_take]; rfl)) ?_; (with_reducible refine (estoversref21_at.calls k _ _ l0 a1_0 t280 _ ?side1 ?side2 A7.out).mono ?_); (case side1 => repeat (first | exact (Kd.C_below HR0.out HB.out) | (with_reducible refine Kd.C_alloc ?_ _) | (with_reducible refine Kd.C_drewN ?_ _) | (with_reducible refine Kd.C_drew ?_))); (case side2 => exact HC0.out); rintro e w' ⟨rfl, ⟨nd, rfl⟩⟩; refine ⟨_, rfl, ?_⟩))
        go_loopg [7, 8] k (fun kq v7 v8 w' => ∃ (x7_1 : List (S37)) (x8_1 : Int), v8 = .int .i64 x8_1 ∧ Aside0 (estoversref21_Push.l0 kq l0 x7_1 x8_1 a1_0 a1_1 a1_2 a1_3 = some (r1, r2)) ∧ Aside0 (kq ≤ k) ∧ Aside0 (Kd.R k37 37 w' w.heap.size (fun k_ => k_ ≠ gb277) v7 x7_1) ∧ Aside0 (w'.heap[gb277]? = some (.cells #[.int .i64 a1_0, .int .i64 a1_1, .int .i64 a1_2, .int .i64 a1_3] 37 (0, 0))) ∧ Aside0 (Below w.heap.size w w'))
        case atStart => exact ⟨(([] : List (S37))), (0), (by first | rfl | (simp; done) | (simp [*]; done)), H', ⟨Nat.le_refl _⟩, ⟨by first | exact Kd.R_nil _ _ _ _ _ | exact Kd.N_nil _ _ _ _ _ | exact Kd.V_nil _ _ _ _ _ | exact Kd.Q_nil _ _ _ _ _ | exact Kd.S_nil _ _ _ _ _⟩, ⟨by (with_reducible repeat (first | refine blk_drewN ?_ _ | refine blk_drew ?_ | refine blk_alloc ?_ _)); exact BK277.out⟩, ⟨by repeat (first | (with_reducible first | exact HB.out | apply below_alloc | apply pw_below_drewN | apply below_drew1 | refine below_set ?_ GE277.out) | exact HB.out)⟩⟩
        case round =>
          clear H'
          try clear c2
          try clear p2
          try clear c3
          try clear c4
          try clear c4b0
          try clear c4b1
          try clear c5
          try clear c6
          try clear c8
          try clear c8b0
          try clear hcz11_0
          try clear hcz11_1
          try clear hcz11_2
          try clear hcz11_3
          try clear hcz13_0
          try clear hcz13_1
          try clear hcz13_2
          try clear hcz13_3
          try clear hcz16_0
          try clear hcz16_1
          try clear hcz16_2
          try clear hcz16_3
          try clear hcz18_0
          try clear hcz18_1
          try clear hcz18_2
          try clear hcz18_3
          try clear hfz11_0
          try clear hfz11_1
          try clear hfz11_2
          try clear hfz11_3
          try clear hfz13_0
          try clear hfz13_1
          try clear hfz13_2
          try clear hfz13_3
          try clear hfz16_0
          try clear hfz16_1
          try clear hfz16_2
          try clear hfz16_3
          try clear hfz18_0
          try clear hfz18_1
          try clear hfz18_2
          try clear hfz18_3
          obtain ⟨x7_1, x8_1, rfl, HA, HK1, HO_7, BK277, HB⟩ := hrel
          cases gk with
          | zero => exact absurd HA.out (by simp [estoversref21_Push.l0])
          | succ k1 =>
            have H := HA.out
            clear HA
            simp only [estoversref21_Push.l0] at H
            by_cases c19 : x8_1 < (l0.length : Int)
            · rw [if_pos c19] at H
              have c19b0 : decide (x8_1 < (l0.length : Int)) = true := decide_eq_true c19
              clear c19
              by_cases c20 : 0 ≤ x8_1
              · rw [if_pos c20] at H
                have c20b0 : decide (0 ≤ x8_1) = true := decide_eq_true c20
                clear c20
                by_cases c21 : x7_1.length < 4398046511104
                · rw [if_pos c21] at H
                  have LMc21 := Aside0.mk c21
                  clear c21
                  obtain ⟨y282, hy282⟩ : ∃ y_ : List (S37), y_ = (x7_1 ++ [(⟨(rd_T37 l0 x8_1).f0, (rd_T37 l0 x8_1).f1, (rd_T37 l0 x8_1).f2, (rd_T37 l0 x8_1).f3⟩ : S37)]) := ⟨_, rfl⟩
                  replace H : (estoversref21_Push.l0 k1 l0 y282 (wrap64 (x8_1 + 1)) a1_0 a1_1 a1_2 a1_3) = some (r1, r2) := by first | (rw [hy282]; with_reducible exact H) | (have H2_ := (Option.bind_some _ _).symm.trans H; rw [hy282]; with_reducible exact H2_) | (have H2_ := (Option.bind_some _ _).symm.trans H; with_reducible exact H2_) | with_reducible exact H | (rw [hy282]; exact H) | exact H
                  have Ny282 := Aside0.mk hy282
                  clear hy282
                  have H' := Aside0.mk H
                  clear H
                  have p281 : 0 ≤ (x8_1 : Int) := of_decide_eq_true (by first | (with_reducible assumption) | assumption)
                  have q281 : x8_1 < (l0.length : Int) := of_decide_eq_true (by first | (with_reducible assumption) | assumption)
                  obtain ⟨ad281, e281, hx281_0, hx281_1, hx281_2, hx281_3⟩ := at_T37 HR0.out x8_1 p281 q281
                  cases e281
                  replace hx281_0 := (HB.out.cell (World.block_lt_of_cell? w _ hx281_0)).trans hx281_0
                  replace hx281_1 := (HB.out.cell (World.block_lt_of_cell? w _ hx281_1)).trans hx281_1
                  replace hx281_2 := (HB.out.cell (World.block_lt_of_cell? w _ hx281_2)).trans hx281_2
                  replace hx281_3 := (HB.out.cell (World.block_lt_of_cell? w _ hx281_3)).trans hx281_3
                  replace p281 := eq_true p281
                  replace q281 := eq_true q281
                  go_wp2_with (first | ((with_reducible refine gate_builtin (b := .append) (xs := #[.tmp 28, .tmp 33]) rfl ?_); at_builtin; refine Kd.R_append k37 (w0 := w) w.heap.size rfl (.tmp 28) (.tmp 33) 29 37 (.agg #[(.int .i64 0), (.int .i64 0), (.int .i64 0), (.int .i64 0)]) 32 rfl Try.underlying29 info37 rfl (by decide) (by omega) u7 x7_1 (⟨(rd_T37 l0 x8_1).f0, (rd_T37 l0 x8_1).f1, (rd_T37 l0 x8_1).f2, (rd_T37 l0 x8_1).f3⟩ : S37) [.int .i64 ((rd_T37 l0 x8_1).f0), .int .i64 ((rd_T37 l0 x8_1).f1), .int .i64 ((rd_T37 l0 x8_1).f2), .int .i64 ((rd_T37 l0 x8_1).f3)] (fun k_ => k_ ≠ gb277) (fun _ => False) rfl rfl ?aP (fun _ hk => hk.elim) ?aF ?aO ?aB ?aS ?aL ?_; (case aP => exact k37_mkM _ _ _ (⟨(rd_T37 l0 x8_1).f0, (rd_T37 l0 x8_1).f1, (rd_T37 l0 x8_1).f2, (rd_T37 l0 x8_1).f3⟩ : S37)); (case aB => exact (by repeat (first | (with_reducible first | exact HB.out | apply below_alloc | apply pw_below_drewN | apply below_drew1 | refine below_set ?_ GE277.out) | exact HB.out))); (case aF => exact (fun k_ hk => Kd.freshB (g := gb277) (o := .cells #[.int .i64 a1_0, .int .i64 a1_1, .int .i64 a1_2, .int .i64 a1_3] 37 (0, 0)) (by (with_reducible repeat (first | refine blk_drewN ?_ _ | refine blk_drew ?_ | refine blk_alloc ?_ _)); exact BK277.out) k_ hk)); (case aO => exact (by (with_reducible repeat (first | apply Kd.R_alloc | apply Kd.R_drewN | apply Kd.R_drew)); exact HO_7.out)); (case aS => exact (below_size (by repeat (first | (with_reducible first | exact HB.out | apply below_alloc | apply pw_below_drewN | apply below_drew1 | refine below_set ?_ GE277.out) | exact HB.out)))); (case aL => have := LMc21.out; omega); intro v283 w22 ho hb hg hat; rw [← Ny282.out] at ho; have n0_ := Aside0.mk (blk_grown (g := gb277) (o := .cells #[.int .i64 a1_0, .int .i64 a1_1, .int .i64 a1_2, .int .i64 a1_3] 37 (0, 0)) (by (with_reducible repeat (first | refine blk_drewN ?_ _ | refine blk_drew ?_ | refine blk_alloc ?_ _)); exact BK277.out) hg (Kd.R_away HO_7.out (fun _ hk => hk))); have n1_ := Aside0.mk (hb); have n2_ := Aside0.mk (ho); clear BK277; clear HB; clear HO_7; have BK277 := n0_; have HB := n1_; have HO284 := n2_; clear n0_ n1_ n2_; clear ho hb hg hat))
                  go_roundg k1
                  case measure => have := HK1.out; omega
                  case rel => exact ⟨(y282), (wrap64 (x8_1 + 1)), (by first | rfl | (simp; done) | (simp [*]; done)), H', ⟨by have := HK1.out; omega⟩, ⟨by (with_reducible repeat (first | apply Kd.R_alloc | apply Kd.R_drewN | apply Kd.R_drew)); exact HO284.out⟩, ⟨by (with_reducible repeat (first | refine blk_drewN ?_ _ | refine blk_drew ?_ | refine blk_alloc ?_ _)); exact BK277.out⟩, ⟨by repeat (first | (with_reducible first | exact HB.out | apply below_alloc | apply pw_below_drewN | apply below_drew1 | refine below_set ?_ GE277.out) | exact HB.out)⟩⟩
                · rw [if_neg c21] at H
                  exact absurd H (by simp)
              · rw [if_neg c20] at H
                exact absurd H (by simp)
            · rw [if_neg c19] at H
              have c19b0 : decide (x8_1 < (l0.length : Int)) = false := decide_eq_false c19
              clear c19
              by_cases c23 : x7_1.length < 4398046511104
              · rw [if_pos c23] at H
                have LMc23 := Aside0.mk c23
                clear c23
                obtain ⟨y285, hy285⟩ : ∃ y_ : List (S37), y_ = (x7_1 ++ [(⟨a1_0, a1_1, a1_2, a1_3⟩ : S37)]) := ⟨_, rfl⟩
                replace H : (some (y285, 0)) = some (r1, r2) := by first | (rw [hy285]; with_reducible exact H) | (have H2_ := (Option.bind_some _ _).symm.trans H; rw [hy285]; with_reducible exact H2_) | (have H2_ := (Option.bind_some _ _).symm.trans H; with_reducible exact H2_) | with_reducible exact H | (rw [hy285]; exact H) | exact H
                have Ny285 := Aside0.mk hy285
                clear hy285
                simp only [Option.some.injEq, Prod.mk.injEq] at H
                obtain ⟨rfl, rfl⟩ := H
                have hcz24_0 : wr.cell? ⟨gb277, 0, none⟩ = some (.int .i64 a1_0) := (blk_cell BK277.out 0).trans rfl
                have hcz24_1 : wr.cell? ⟨gb277, 1, none⟩ = some (.int .i64 a1_1) := (blk_cell BK277.out 1).trans rfl
                have hcz24_2 : wr.cell? ⟨gb277, 2, none⟩ = some (.int .i64 a1_2) := (blk_cell BK277.out 2).trans rfl
                have hcz24_3 : wr.cell? ⟨gb277, 3, none⟩ = some (.int .i64 a1_3) := (blk_cell BK277.out 3).trans rfl
                have hfz24_0 := blk_frozen BK277.out 0
                have hfz24_1 := blk_frozen BK277.out 1
                have hfz24_2 := blk_frozen BK277.out 2
                have hfz24_3 := blk_frozen BK277.out 3
                go_wp2_with (first | ((with_reducible refine gate_builtin (b := .append) (xs := #[.tmp 35, .tmp 37]) rfl ?_); at_builtin; refine Kd.R_append k37 (w0 := w) w.heap.size rfl (.tmp 35) (.tmp 37) 29 37 (.agg #[(.int .i64 0), (.int .i64 0), (.int .i64 0), (.int .i64 0)]) 32 rfl Try.underlying29 info37 rfl (by decide) (by omega) u7 x7_1 (⟨a1_0, a1_1, a1_2, a1_3⟩ : S37) [.int .i64 a1_0, .int .i64 a1_1, .int .i64 a1_2, .int .i64 a1_3] (fun k_ => k_ ≠ gb277) (fun _ => False) rfl rfl ?aP (fun _ hk => hk.elim) ?aF ?aO ?aB ?aS ?aL ?_; (case aP => exact k37_mkM _ _ _ (⟨a1_0, a1_1, a1_2, a1_3⟩ : S37)); (case aB => exact (by repeat (first | (with_reducible first | exact HB.out | apply below_alloc | apply pw_below_drewN | apply below_drew1 | refine below_set ?_ GE277.out) | exact HB.out))); (case aF => exact (fun k_ hk => Kd.freshB (g := gb277) (o := .cells #[.int .i64 a1_0, .int .i64 a1_1, .int .i64 a1_2, .int .i64 a1_3] 37 (0, 0)) (by (with_reducible repeat (first | refine blk_drewN ?_ _ | refine blk_drew ?_ | refine blk_alloc ?_ _)); exact BK277.out) k_ hk)); (case aO => exact (by (with_reducible repeat (first | apply Kd.R_alloc | apply Kd.R_drewN | apply Kd.R_drew)); exact HO_7.out)); (case aS => exact (below_size (by repeat (first | (with_reducible first | exact HB.out | apply below_alloc | apply pw_below_drewN | apply below_drew1 | refine below_set ?_ GE277.out) | exact HB.out)))); (case aL => have := LMc23.out; omega); intro v286 w25 ho hb hg hat; rw [← Ny285.out] at ho; have n0_ := Aside0.mk (blk_grown (g := gb277) (o := .cells #[.int .i64 a1_0, .int .i64 a1_1, .int .i64 a1_2, .int .i64 a1_3] 37 (0, 0)) (by (with_reducible repeat (first | refine blk_drewN ?_ _ | refine blk_drew ?_ | refine blk_alloc ?_ _)); exact BK277.out) hg (Kd.R_away HO_7.out (fun _ hk => hk))); have n1_ := Aside0.mk (hb); have n2_ := Aside0.mk (ho); clear BK277; clear HB; clear HO_7; have BK277 := n0_; have HB := n1_; have HO287 := n2_; clear n0_ n1_ n2_; clear ho hb hg hat))
                go_ret2
                exact ⟨_, by first | rfl | (simp [errW_none, errW_some] <;> rfl) | (simp [*, errW_none, errW_some] <;> rfl), by (with_reducible repeat (first | apply Kd.R_alloc | apply Kd.R_drewN | apply Kd.R_drew)); exact Kd.R_mono HO287.out (fun _ hk => trivial), by repeat (first | (with_reducible first | exact HB.out | apply below_alloc | apply pw_below_drewN | apply below_drew1 | refine below_set ?_ GE277.out) | exact HB.out)⟩
              · rw [if_neg c23] at H
                exact absurd H (by simp)
    · replace c6 := Bool.eq_false_iff.mpr c6
      subst c6
      have H1 : (some (([] : List (S37)), 2)) = some (r1, r2) := by rw [if_neg (show ¬ (false = true) by decide)] at H; exact H
      clear H
      have H := H1
      clear H1
      simp only [Option.some.injEq, Prod.mk.injEq] at H
      obtain ⟨rfl, rfl⟩ := H
      go_enter Try.func30, Try.ntmps30
      go_wp2_with (first | ((with_reducible refine gate_dst (N := 3) rfl ?_); refine box_event ?hg (N := 3) ?hd (cs := #[.int .i64 a1_0, .int .i64 a1_1, .int .i64 a1_2, .int .i64 a1_3]) (t := 37) ?hr ?_; (case hd => rfl); (case hg => rfl); (case hr => first | (go_simp; done) | (go_simp; rfl)); intro gb277 hg w26 hbox hb; have n0_ := Aside0.mk (below_step (by repeat (first | (with_reducible first | exact HB.out | apply below_alloc | apply pw_below_drewN | apply below_drew1) | exact HB.out)) hb); have n1_ := Aside0.mk (hbox); have n2_ := Aside0.mk ((by rw [hg]; exact (below_size (by repeat (first | (with_reducible first | exact HB.out | apply below_alloc | apply pw_below_drewN | apply below_drew1) | exact HB.out))) : w.heap.size ≤ gb277)); have n3_ := Aside0.mk ((by rw [hg]; exact (below_size (by repeat (first | (with_reducible first | exact HB.out | apply below_alloc | apply pw_below_drewN | apply below_drew1) | exact HB.out))) : w.heap.size ≤ gb277)); clear HB; have HB := n0_; have BK277 := n1_; have GW277 := n2_; have GE277 := n3_; clear n0_ n1_ n2_ n3_; clear hb hbox hg) | ((with_reducible refine gate_callee (f := 28) rfl ?_); refine goesL_ (some 10) rfl rfl Try.func28 (by kernel_rfl) rfl #[.slice A0 l0.length c0] rfl (by (try simp only [List.map_toArray, List.map_cons, List.map_nil]); first | done | rfl | (simp only [List.length_drop, List.length_take]; rfl)) ?_; (with_reducible refine (estoversref21_Check.calls k _ _ l0 t278 _ ?side1 ?side2 A3.out).mono ?_); (case side1 => repeat (first | exact (Kd.C_below HR0.out HB.out) | (with_reducible refine Kd.C_alloc ?_ _) | (with_reducible refine Kd.C_drewN ?_ _) | (with_reducible refine Kd.C_drew ?_))); (case side2 => exact HC0.out); rintro e w27 ⟨rfl, hb⟩; refine ⟨_, rfl, ?_⟩; have n0_ := Aside0.mk (blk_below (g := gb277) (o := .cells #[.int .i64 a1_0, .int .i64 a1_1, .int .i64 a1_2, .int .i64 a1_3] 37 (0, 0)) (by (with_reducible repeat (first | refine blk_drewN ?_ _ | refine blk_drew ?_ | refine blk_alloc ?_ _)); exact BK277.out) hb); have n1_ := Aside0.mk (below_step (by repeat (first | (with_reducible first | exact HB.out | apply below_alloc | apply pw_below_drewN | apply below_drew1 | refine below_set ?_ GE277.out) | exact HB.out)) hb); clear BK277; clear HB; have BK277 := n0_; have HB := n1_; clear n0_ n1_; (try clear hb); (try clear hb2); (try clear hk); (try clear hi); have hcz28_0 : w27.cell? ⟨gb277, 0, none⟩ = some (.int .i64 a1_0) := (blk_cell BK277.out 0).trans rfl; have hcz28_1 : w27.cell? ⟨gb277, 1, none⟩ = some (.int .i64 a1_1) := (blk_cell BK277.out 1).trans rfl; have hcz28_2 : w27.cell? ⟨gb277, 2, none⟩ = some (.int .i64 a1_2) := (blk_cell BK277.out 2).trans rfl; have hcz28_3 : w27.cell? ⟨gb277, 3, none⟩ = some (.int .i64 a1_3) := (blk_cell BK277.out 3).trans rfl; have hfz28_0 := blk_frozen BK277.out 0; have hfz28_1 := blk_frozen BK277.out 1; have hfz28_2 := blk_frozen BK277.out 2; have hfz28_3 := blk_frozen BK277.out 3) | ((with_reducible refine gate_callee (f := 38) rfl ?_); refine goesL_ (some 15) rfl rfl Try.func38 (by kernel_rfl) rfl #[.agg #[.int .i64 a1_0, .int .i64 a1_1, .int .i64 a1_2, .int .i64 a1_3]] rfl (by (try simp only [List.map_toArray, List.map_cons, List.map_nil]); first | done | rfl | (simp only [List.length_drop, List.length_take]; rfl)) ?_; (with_reducible refine (estoversref21_Valid.calls a1_0 a1_1 a1_2 a1_3 false _ A5.out).mono ?_); rintro e w29 ⟨rfl, hb⟩; refine ⟨_, rfl, ?_⟩; have n0_ := Aside0.mk (blk_below (g := gb277) (o := .cells #[.int .i64 a1_0, .int .i64 a1_1, .int .i64 a1_2, .int .i64 a1_3] 37 (0, 0)) (by (with_reducible repeat (first | refine blk_drewN ?_ _ | refine blk_drew ?_ | refine blk_alloc ?_ _)); exact BK277.out) hb); have n1_ := Aside0.mk (below_step (by repeat (first | (with_reducible first | exact HB.out | apply below_alloc | apply pw_below_drewN | apply below_drew1 | refine below_set ?_ GE277.out) | exact HB.out)) hb); clear BK277; clear HB; have BK277 := n0_; have HB := n1_; clear n0_ n1_; (try clear hb); (try clear hb2); (try clear hk); (try clear hi)))
      go_ret2
      exact ⟨_, by first | rfl | (simp [errW_none, errW_some] <;> rfl) | (simp [*, errW_none, errW_some] <;> rfl), by first | exact Kd.R_nil _ _ _ _ _ | exact Kd.N_nil _ _ _ _ _ | exact Kd.V_nil _ _ _ _ _ | exact Kd.Q_nil _ _ _ _ _ | exact Kd.S_nil _ _ _ _ _, by repeat (first | (with_reducible first | exact HB.out | apply below_alloc | apply pw_below_drewN | apply below_drew1 | refine below_set ?_ GE277.out) | exact HB.out)⟩
  · rw [if_neg c4] at H
    have c4b0 : (t278 == 0) = false := beq_eq_false_iff_ne.mpr c4
    have c4b1 : (t278 != 0) = true := bne_iff_ne.mpr c4
    simp only [Option.some.injEq, Prod.mk.injEq] at H
    obtain ⟨rfl, rfl⟩ := H
    go_enter Try.func30, Try.ntmps30
    go_wp2_with (first | ((with_reducible refine gate_dst (N := 3) rfl ?_); refine box_event ?hg (N := 3) ?hd (cs := #[.int .i64 a1_0, .int .i64 a1_1, .int .i64 a1_2, .int .i64 a1_3]) (t := 37) ?hr ?_; (case hd => rfl); (case hg => rfl); (case hr => first | (go_simp; done) | (go_simp; rfl)); intro gb277 hg w30 hbox hb; have n0_ := Aside0.mk (below_step (by repeat (first | (with_reducible first | exact HB.out | apply below_alloc | apply pw_below_drewN | apply below_drew1) | exact HB.out)) hb); have n1_ := Aside0.mk (hbox); have n2_ := Aside0.mk ((by rw [hg]; exact (below_size (by repeat (first | (with_reducible first | exact HB.out | apply below_alloc | apply pw_below_drewN | apply below_drew1) | exact HB.out))) : w.heap.size ≤ gb277)); have n3_ := Aside0.mk ((by rw [hg]; exact (below_size (by repeat (first | (with_reducible first | exact HB.out | apply below_alloc | apply pw_below_drewN | apply below_drew1) | exact HB.out))) : w.heap.size ≤ gb277)); clear HB; have HB := n0_; have BK277 := n1_; have GW277 := n2_; have GE277 := n3_; clear n0_ n1_ n2_ n3_; clear hb hbox hg) | ((with_reducible refine gate_callee (f := 28) rfl ?_); refine goesL_ (some 10) rfl rfl Try.func28 (by kernel_rfl) rfl #[.slice A0 l0.length c0] rfl (by (try simp only [List.map_toArray, List.map_cons, List.map_nil]); first | done | rfl | (simp only [List.length_drop, List.length_take]; rfl)) ?_; (with_reducible refine (estoversref21_Check.calls k _ _ l0 t278 _ ?side1 ?side2 A3.out).mono ?_); (case side1 => repeat (first | exact (Kd.C_below HR0.out HB.out) | (with_reducible refine Kd.C_alloc ?_ _) | (with_reducible refine Kd.C_drewN ?_ _) | (with_reducible refine Kd.C_drew ?_))); (case side2 => exact HC0.out); rintro e w31 ⟨rfl, hb⟩; refine ⟨_, rfl, ?_⟩; have n0_ := Aside0.mk (blk_below (g := gb277) (o := .cells #[.int .i64 a1_0, .int .i64 a1_1, .int .i64 a1_2, .int .i64 a1_3] 37 (0, 0)) (by (with_reducible repeat (first | refine blk_drewN ?_ _ | refine blk_drew ?_ | refine blk_alloc ?_ _)); exact BK277.out) hb); have n1_ := Aside0.mk (below_step (by repeat (first | (with_reducible first | exact HB.out | apply below_alloc | apply pw_below_drewN | apply below_drew1 | refine below_set ?_ GE277.out) | exact HB.out)) hb); clear BK277; clear HB; have BK277 := n0_; have HB := n1_; clear n0_ n1_; (try clear hb); (try clear hb2); (try clear hk); (try clear hi)))
    go_ret2
    exact ⟨_, by first | rfl | (simp [errW_none, errW_some] <;> rfl) | (simp [*, errW_none, errW_some] <;> rfl), by first | exact Kd.R_nil _ _ _ _ _ | exact Kd.N_nil _ _ _ _ _ | exact Kd.V_nil _ _ _ _ _ | exact Kd.Q_nil _ _ _ _ _ | exact Kd.S_nil _ _ _ _ _, by repeat (first | (with_reducible first | exact HB.out | apply below_alloc | apply pw_below_drewN | apply below_drew1 | refine below_set ?_ GE277.out) | exact HB.out)⟩

-- NOT PRINTED: function 57 (api_Ask_57)

/-! ### grant_Cancel: function 31 -/
theorem heap_setCells_same {g : Nat} {e : TypeId} : ∀ (vs : List Value) (o : Nat) (w : World) (cur : Array Value), w.heap[g]? = some (.cells cur e (0, 0)) → o + vs.length ≤ cur.size →
    ∃ cur', (w.setCells g o vs).heap[g]? = some (.cells cur' e (0, 0)) ∧ cur'.toList = cur.toList.take o ++ vs ++ cur.toList.drop (o + vs.length)
  | [], o, w, cur, h, hl => ⟨cur, h, by simp⟩
  | v :: r, o, w, cur, h, hl => by
    have h1 := heap_setCell_same w g o cur e v h
    simp only [List.length_cons] at hl
    obtain ⟨cur', h2, h3⟩ := heap_setCells_same r (o + 1) _ _ h1 (by simp; omega)
    refine ⟨cur', h2, h3.trans ?_⟩
    apply List.ext_getElem?
    intro t
    simp only [Array.toList_setIfInBounds, List.getElem?_append, List.length_append, List.length_take, List.length_set, Array.length_toList, List.getElem?_drop, List.getElem?_take, List.getElem?_set, List.length_cons]
    have e1 : min (o + 1) cur.size = o + 1 := by omega
    have e2 : min o cur.size = o := by omega
    simp only [e1, e2]
    rcases Nat.lt_trichotomy t o with ht | ht | ht
    · simp [ht, show t < o + 1 by omega, show t < o + 1 + r.length by omega, show t < o + (r.length + 1) by omega, show ¬ o = t by omega]
    · subst ht
      simp [show t < t + 1 + r.length by omega, show t < cur.size by omega]
    · by_cases ht2 : t < o + 1 + r.length
      · simp [ht2, show t < o + (r.length + 1) by omega, show ¬ t < o + 1 by omega, show ¬ t < o by omega]
        rw [show t - o = (t - (o + 1)) + 1 by omega, List.getElem?_cons_succ]
      · simp [ht2, show ¬ t < o + (r.length + 1) by omega]
        rw [show o + (r.length + 1) + (t - (o + (r.length + 1))) = t by omega, show o + 1 + r.length + (t - (o + 1 + r.length)) = t by omega]
        simp [show ¬ o = t by omega]

theorem below_setCells' {B b : Nat} {a : World} (hb : B ≤ b) : ∀ (vs : List Value) (o : Nat) (w : World), Below B a w → Below B a (w.setCells b o vs)
  | [], _, _, h => h
  | v :: r, o, w, h => below_setCells' hb r (o + 1) _ (h.setCell (p := ⟨b, o, none⟩) hb v)

theorem run_clear_one {P : Program} (w : World) (t e ty : TypeId) (z : Value) (zs : List Value) (ht : P.underlying t = some (.slice e)) (hv : ∀ w, (zeroValue e).run P w = .ok z w) (hz : z.cells = zs.toArray) (h1 : ∀ u ∈ zs, u.oneCell' = true) (b o c : Nat)
    (hc : ∀ j, j < zs.length → (w.cell? ⟨b, o + j, none⟩).isSome = true) (hf : ∀ j, j < zs.length → w.frozen? ⟨b, o + j, none⟩ = false) :
    (Builtin.clear_ #[t] ty #[.slice (some ⟨b, o, none⟩) 1 c]).run P w = .ok (.tuple #[]) (w.setCells b o zs) := by
  have hzc : (Builtin.zeroCells z.cells 1).toList = zs := by
    rw [hz]
    simp [Builtin.zeroCells]
    apply List.ext_getElem
    · simp
    · intro i h1 h2
      simp only [List.length_map, List.length_range] at h1
      simp [Nat.mod_eq_of_lt h1, List.getElem?_eq_getElem h2]
  have hst := run_storeCells_cells (P := P) b o zs 0 w (by simpa using hc) (by simpa using hf) h1
  simp only [Nat.add_zero] at hst
  simp [Builtin.clear_, run_underlying ht, hv, hzc, hst]

set_option maxHeartbeats 4000000 in
set_option maxRecDepth 1000000 in
theorem askDel.calls {base : Nat} (g cap n i : Nat) (inner : List Value) (w : World) (ho : w.ownsRow base 37 4 (.slice (some ⟨g, 0, none⟩) n cap) n inner) (h1 : ∀ u ∈ inner, u.oneCell' = true) (hi : i < n) :
    Calls Try.prog 57 #[.slice (some ⟨g, 0, none⟩) n cap, .int .i64 i, .int .i64 ((i : Int) + 1)] w fun e w' => e = .returned (.slice (some ⟨g, 0, none⟩) (n - 1) cap) ∧ w'.ownsRow base 37 4 (.slice (some ⟨g, 0, none⟩) (n - 1) cap) (n - 1) (inner.take (i * 4) ++ inner.drop ((i + 1) * 4)) ∧ Below base w w' := by
  obtain ⟨hlen, hno | ⟨g', cap', cur, he, hb, hg, hnc, hcm, hsz, htk⟩⟩ := ho
  · exact absurd hno.2 (by omega)
  simp only [Value.slice.injEq, Option.some.injEq, Addr.mk.injEq, and_true, true_and] at he
  obtain ⟨rfl, rfl⟩ := he
  have hm : cap ≤ 9223372036854775807 := hcm
  obtain ⟨i0, hi0, hz0, hz1, hz2⟩ := info_parts info37
  have hcell : ∀ j, j < n * 4 → w.drew.cell? ⟨g, j, none⟩ = inner[j]? := by
    intro j hj
    have h2 : w.drew.cell? ⟨g, j, none⟩ = cur[j]? := by
      show w.cell? _ = _
      simp [World.cell?, hg]
    rw [h2, ← htk, List.getElem?_take, if_pos hj, Array.getElem?_toList]
  have hfz : ∀ j, w.drew.frozen? ⟨g, j, none⟩ = false := by
    intro j
    show w.frozen? _ = _
    simp [World.frozen?, hg]
  obtain ⟨news, hnews⟩ : ∃ news, news = inner.drop ((i + 1) * 4) := ⟨_, rfl⟩
  have hnl : news.length = (n - (i + 1)) * 4 := by rw [hnews, List.length_drop, hlen]; omega
  obtain ⟨A, hA, hsrc⟩ : ∃ A : Addr, (if cap = i + 1 then some (⟨g, 0, none⟩ : Addr) else some ⟨g, (i + 1) * 4, none⟩) = some A ∧ Hid (∀ t u, news[t]? = some u → w.drew.cell? (A.add t) = some u) := by
    by_cases h : cap = i + 1
    · refine ⟨⟨g, 0, none⟩, by simp [h], fun t u hu => ?_⟩
      have h0 : news.length = 0 := by rw [hnl]; omega
      rw [List.length_eq_zero_iff.1 h0] at hu
      simp at hu
    · refine ⟨⟨g, (i + 1) * 4, none⟩, by simp [h], fun t u hu => ?_⟩
      have ht := (List.getElem?_eq_some_iff.1 hu).1
      rw [hnl] at ht
      rw [Addr.add_lit, hcell _ (by omega)]
      rw [hnews, List.getElem?_drop] at hu
      exact hu
  have s1 : Hid (news.length = (n - (i + 1)) * 4) := hnl
  have s2 : Hid (∀ u ∈ news, u.oneCell' = true) := fun u hu => h1 u (by rw [hnews] at hu; exact List.mem_of_mem_drop hu)
  have s3 : Hid (∀ t, t < news.length → (w.drew.cell? ⟨g, 0 + i * 4 + t, none⟩).isSome = true ∧ w.drew.frozen? ⟨g, 0 + i * 4 + t, none⟩ = false) := by
    intro t ht
    rw [hnl] at ht
    exact ⟨by rw [hcell _ (by omega), List.getElem?_eq_getElem (by rw [hlen]; omega)]; rfl, hfz _⟩
  obtain ⟨W1, hW1⟩ : ∃ W1, W1 = w.drew.setCells g (0 + i * 4) news := ⟨_, rfl⟩
  obtain ⟨cur1, hg1, hc1⟩ := heap_setCells_same (g := g) news (0 + i * 4) w.drew cur hg (by omega)
  have hz1' : cur1.size = cur.size := by
    rw [← Array.length_toList, hc1]
    simp
    omega
  obtain ⟨zs, hzs⟩ : ∃ zs : List Value, zs = [.int .i64 0, .int .i64 0, .int .i64 0, .int .i64 0] := ⟨_, rfl⟩
  obtain ⟨cur2, hg2, hc2⟩ := heap_setCells_same (g := g) zs (0 + (i + (n - (i + 1))) * 4) W1 cur1 (by rw [hW1]; exact hg1) (by rw [hz1', hzs]; simp; omega)
  have hz2' : cur2.size = cur.size := by
    rw [← Array.length_toList, hc2, hzs]
    simp
    omega
  have hcl : ∀ ty, (Builtin.clear_ #[29] ty #[.slice (some ⟨g, (i + (n - (i + 1))) * 4, none⟩) (n - (i + (n - (i + 1)))) (cap - (i + (n - (i + 1))))]).run Try.prog W1 = .ok (.tuple #[]) (W1.setCells g (0 + (i + (n - (i + 1))) * 4) zs) := fun ty => by
    rw [Nat.zero_add, show n - (i + (n - (i + 1))) = 1 by omega]
    refine run_clear_one W1 29 37 ty (.agg #[.int .i64 0, .int .i64 0, .int .i64 0, .int .i64 0]) zs Try.underlying29 (fun w => by go_simp) (by rw [hzs]; rfl) (by rw [hzs]; intro u hu; simp at hu; subst hu; rfl) g _ _ ?_ ?_
    · intro j hj
      rw [hzs] at hj
      simp at hj
      have h2 : ((i + (n - (i + 1))) * 4) + j < cur1.size := by rw [hz1', hsz]; omega
      rw [hW1]
      simp only [World.cell?, hg1, Option.isSome_none, Bool.false_eq_true, if_false]
      rw [Array.getElem?_eq_getElem h2]
      rfl
    · intro j hj
      rw [hW1]
      simp only [World.frozen?, hg1]
      simp
  have hW : Hid (W1 = w.drew.setCells g (0 + i * 4) news) := hW1
  have hfin : Hid ((W1.setCells g (0 + (i + (n - (i + 1))) * 4) zs).ownsRow base 37 4 (.slice (some ⟨g, 0, none⟩) (n - 1) cap) (n - 1) (inner.take (i * 4) ++ inner.drop ((i + 1) * 4)) ∧ Below base w (W1.setCells g (0 + (i + (n - (i + 1))) * 4) zs)) := by
    refine ⟨⟨?_, .inr ⟨g, cap, cur2, rfl, hb, hg2, by omega, hcm, by rw [hz2', hsz], ?_⟩⟩, ?_⟩
    · simp [hlen]
      omega
    · have e0 : i + (n - (i + 1)) = n - 1 := by omega
      have e3 : cur1.toList.length = cur.size := by rw [Array.length_toList, hz1']
      have e1 : (cur.toList.take (0 + i * 4) ++ news).length = (n - 1) * 4 := by
        rw [List.length_append, List.length_take, Array.length_toList, hnl]
        omega
      rw [hc2, e0, List.append_assoc, Nat.zero_add, List.take_append_of_le_length (by rw [List.length_take, e3]; omega), List.take_take, Nat.min_self, hc1, ← e1, List.take_left, ← hnews, ← htk, List.take_take, Nat.zero_add]
      congr 2
      omega
    · exact below_setCells' hb _ _ _ (by rw [hW1]; exact below_setCells' hb _ _ _ (Below.refl _ _).drew)
  have hic : i ≤ cap := by omega
  have hjc : i + 1 ≤ cap := by omega
  have hwr : IntKind.i64.wrap ((i : Int) + 1) = (i : Int) + 1 := by rw [IntKind.wrap_i64]; omega
  have hp0 : (0 : Int) ≤ (i : Int) + 1 := by omega
  have hp1 : (i : Int) + 1 ≤ (n : Int) := by omega
  have hp2 : ((i : Int) + 1).toNat = i + 1 := by omega
  have hp3 : (n : Int).toNat = n := by omega
  have hne : ((i : Int) == (i : Int) + 1) = false := by simp; omega
  have X := Aside0.mk htk
  clear htk hfz hcell hnl hnews hg1 hc1 hg2 hc2 hz1' hz2' hW1 hg hsz h1 hlen hzs
  go_enter Try.func57, Try.ntmps57
  go_wp2_with fail
  go_region_law (refine step_append_room rfl (.tmp 22) (.tmp 25) 29 rfl 37 i0 4 Try.underlying29 hi0 hz1 g 0 i cap (by simp [Act.eval, Act.put]) A (n - (i + 1)) (cap - (i + 1)) news (by simp [Act.eval, Act.put]) s1.out hsrc.out s2.out (by omega) s3.out ?_; rw [← hW.out])
  have hq1 : ¬ (cap = i + (n - (i + 1))) := by omega
  have hq2 : i + (n - (i + 1)) ≤ n := by omega
  go_wp2
  go_ret
  exact ⟨by rw [show i + (n - (i + 1)) = n - 1 by omega]; rfl, by have h := hfin.out; rw [Nat.zero_add] at h; exact h⟩
theorem reps_del {α : Type} {R : α → List Value → Prop} {size i : Nat} {ps : List α} {cs : List Value} (h : Reps R size ps cs) (hi : i < ps.length) : Reps R size (ps.take i ++ ps.drop (i + 1)) (cs.take (i * size) ++ cs.drop ((i + 1) * size)) := by
  have hl := h.1
  have e1 : i * size + (ps.length - (i + 1)) * size = (ps.length - 1) * size := by rw [← Nat.add_mul]; congr 1; omega
  have e2 : ps.length * size = (i + 1) * size + (ps.length - (i + 1)) * size := by rw [← Nat.add_mul]; congr 1; omega
  have e3 : i * size ≤ ps.length * size := Nat.mul_le_mul_right _ (by omega)
  refine ⟨?_, fun j p hp => ?_⟩
  · simp only [List.length_append, List.length_take, List.length_drop, hl]
    rw [Nat.min_eq_left e3, Nat.min_eq_left (by omega : i ≤ ps.length), Nat.add_mul i (ps.length - (i + 1)) size, e2]
    omega
  · have hti : (ps.take i).length = i := by rw [List.length_take]; omega
    have htc : (cs.take (i * size)).length = i * size := by rw [List.length_take, hl]; omega
    by_cases hj : j < i
    · rw [List.getElem?_append_left (by omega), List.getElem?_take, if_pos hj] at hp
      have h2 := h.2 j p hp
      have e4 : j * size + size ≤ i * size := by have := Nat.mul_le_mul_right size (show j + 1 ≤ i by omega); rw [Nat.add_mul, Nat.one_mul] at this; exact this
      have e5 : ((cs.take (i * size) ++ cs.drop ((i + 1) * size)).drop (j * size)).take size = (cs.drop (j * size)).take size := by
        apply List.ext_getElem?
        intro t
        simp only [List.getElem?_take, List.getElem?_drop]
        by_cases ht : t < size
        · rw [if_pos ht, if_pos ht, List.getElem?_append_left (by omega), List.getElem?_take, if_pos (by omega)]
        · rw [if_neg ht, if_neg ht]
      rw [e5]
      exact h2
    · rw [List.getElem?_append_right (by omega), List.getElem?_drop, hti, show i + 1 + (j - i) = j + 1 by omega] at hp
      have h2 := h.2 (j + 1) p hp
      have e4 : i * size ≤ j * size := Nat.mul_le_mul_right _ (by omega)
      have e5 : ((cs.take (i * size) ++ cs.drop ((i + 1) * size)).drop (j * size)).take size = (cs.drop ((j + 1) * size)).take size := by
        apply List.ext_getElem?
        intro t
        simp only [List.getElem?_take, List.getElem?_drop]
        by_cases ht : t < size
        · rw [if_pos ht, if_pos ht, List.getElem?_append_right (by omega), List.getElem?_drop, htc]
          congr 1
          have e6 : (i + 1) * size = i * size + size := by rw [Nat.add_mul, Nat.one_mul]
          have e7 : (j + 1) * size = j * size + size := by rw [Nat.add_mul, Nat.one_mul]
          omega
        · rw [if_neg ht, if_neg ht]
      rw [e5]
      exact h2
theorem reps_one {α : Type} {R : α → List Value → Prop} {size : Nat} {ps : List α} {cs : List Value} (h : Reps R size ps cs) (h1 : ∀ x c, R x c → ∀ u ∈ c, u.oneCell' = true) : ∀ u ∈ cs, u.oneCell' = true := by
  intro u hu
  obtain ⟨t, ht, rfl⟩ := List.mem_iff_getElem.1 hu
  have hs : 0 < size := by
    rcases Nat.eq_zero_or_pos size with h0 | h0
    · have := h.1
      rw [h0, Nat.mul_zero] at this
      omega
    · exact h0
  have hq : t / size < ps.length := by rw [Nat.div_lt_iff_lt_mul hs, ← h.1]; exact ht
  refine h1 _ _ (h.2 (t / size) _ (List.getElem?_eq_getElem hq)) _ ?_
  rw [List.mem_iff_getElem?]
  refine ⟨t % size, ?_⟩
  rw [List.getElem?_take, if_pos (Nat.mod_lt _ hs), List.getElem?_drop, Nat.mul_comm, Nat.div_add_mod, List.getElem?_eq_getElem ht]
theorem askDelR.calls {base : Nat} {ok : Nat → Prop} {A : Option Addr} {n cap : Nat} (i : Nat) (xs : List S37) (w : World) (ho : Kd.R k37 37 w base ok (.slice A n cap) xs) (hi : i < xs.length) :
    Calls Try.prog 57 #[.slice A n cap, .int .i64 i, .int .i64 ((i : Int) + 1)] w fun e w' => ∃ v0_ : Value, e = .returned v0_ ∧ Kd.R k37 37 w' base ok v0_ (xs.take i ++ xs.drop (i + 1)) ∧ Below base w w' := by
  obtain ⟨h0, inner, hw, hr⟩ := ho
  have hn : n = xs.length := by
    obtain ⟨A', c', he⟩ := own_slice hw
    injection he
  subst hn
  obtain ⟨g, rfl⟩ : ∃ g, A = some ⟨g, 0, none⟩ := by
    obtain ⟨_, he | ⟨g, c', cur, he, _⟩⟩ := hw
    · omega
    · injection he with he
      exact ⟨g, he⟩
  have hr1 : Reps (k37.M w base (fun k => ok k ∧ some k ≠ (Value.slice (some ⟨g, 0, none⟩) xs.length cap).ownBlock)) 4 xs inner := hr
  refine (askDel.calls g cap xs.length i inner w hw (reps_one hr1 (fun x c hp => k37.K_one (k37.K_of_M hp))) hi).mono ?_
  rintro e w' ⟨rfl, h1, h2⟩
  have hl : (xs.take i ++ xs.drop (i + 1)).length = xs.length - 1 := by
    rw [List.length_append, List.length_take, List.length_drop]
    omega
  refine ⟨_, rfl, ⟨fun k hk => h0 k hk, _, ?_, reps_del hr1 hi⟩, h2⟩
  rw [hl]
  exact h1
def grant_Cancel.f (k : Nat) (l0 : List (S37)) (a1 : Int) : Option ((List (S37)) × Int) := (grant_Check.f k l0).bind fun t => if t = 0 then ((grant_of.f k l0 a1).bind fun i => if i < 0 then some (([] : List S37), 6) else (api_Ask_56.f l0).bind fun y => if i.toNat < y.length ∧ y.length < 4398046511104 then some (y.take i.toNat ++ y.drop (i.toNat + 1), 0) else none) else some (([] : List S37), t)
theorem grant_Cancel.mono : ∀ a0 a1 k, LeO (grant_Cancel.f k a0 a1) (grant_Cancel.f (k + 1) a0 a1) := by
  intro a0 a1 k
  unfold grant_Cancel.f
  repeat' first
      | (with_reducible exact grant_Check.mono _ _)
      | (with_reducible exact grant_of.mono _ _ _)
      | (with_reducible exact LeO.refl _)
      | (with_reducible exact LeO.none _)
      | (with_reducible refine LeO.ite ?_ ?_)
      | (with_reducible refine LeO.bind ?_ (fun _ => ?_))
set_option maxHeartbeats 8000000 in
set_option maxRecDepth 100000 in
theorem grant_Cancel.calls (k : Nat) (A0 : Option Addr) (c0 : Nat) (l0 : List (S37)) (a1 : Int) (r1 : List (S37)) (r2 : Int) (w : World) (hr0 : Kd.C k37 w A0 l0.length l0) (hc0 : l0.length ≤ c0) (h : grant_Cancel.f k l0 a1 = some (r1, r2)) :
    Calls Try.prog 31 #[.slice A0 l0.length c0, .int .i64 a1] w fun e w' => ∃ v0_ : Value, e = .returned (.tuple #[v0_, .int .i64 r2]) ∧ Kd.R k37 37 w' w.heap.size (fun _ => True) v0_ r1 ∧ Below w.heap.size w w' := by
  have HR0 := Aside0.mk hr0
  have HC0 := Aside0.mk hc0
  clear hr0 hc0
  have HB := Aside0.mk (Below.refl w.heap.size w)
  have H := h
  clear h
  unfold grant_Cancel.f at H
  obtain ⟨t, A30, H⟩ := Option.bind_eq_some_iff.mp H
  have A3 := Aside0.mk A30
  clear A30
  by_cases c4 : t = 0
  · rw [if_pos c4] at H
    have c4b0 : (t == 0) = true := beq_iff_eq.mpr c4
    have c4b1 : (t != 0) = false := bne_eq_false_iff_eq.mpr c4
    clear c4
    obtain ⟨i, A70, H⟩ := Option.bind_eq_some_iff.mp H
    have A7 := Aside0.mk A70
    clear A70
    by_cases c8 : i < 0
    · rw [if_pos c8] at H
      have c8b0 : decide (i < 0) = true := decide_eq_true c8
      clear c8
      simp only [Option.some.injEq, Prod.mk.injEq] at H
      obtain ⟨rfl, rfl⟩ := H
      go_enter Try.func31, Try.ntmps31
      go_wp2_with (first | (go_at_call 27; (with_reducible refine (grant_Check.calls k _ _ l0 t _ ?side1 ?side2 A3.out).mono ?_); (case side1 => repeat (first | exact (Kd.C_below HR0.out HB.out) | (with_reducible refine Kd.C_alloc ?_ _) | (with_reducible refine Kd.C_drewN ?_ _) | (with_reducible refine Kd.C_drew ?_))); (case side2 => exact HC0.out); rintro e w10 ⟨rfl, hb⟩; have n1_ := Aside0.mk (below_step (by repeat (first | (with_reducible first | exact HB.out | apply below_alloc | apply pw_below_drewN | apply below_drew1) | exact HB.out)) hb); clear HB; have HB := n1_; clear n1_ hb) | (go_at_call 54; (with_reducible refine (grant_of.calls k _ _ l0 a1 i _ ?side1 ?side2 A7.out).mono ?_); (case side1 => repeat (first | exact (Kd.C_below HR0.out HB.out) | (with_reducible refine Kd.C_alloc ?_ _) | (with_reducible refine Kd.C_drewN ?_ _) | (with_reducible refine Kd.C_drew ?_))); (case side2 => exact HC0.out); rintro e w11 ⟨rfl, hb⟩; have n1_ := Aside0.mk (below_step (by repeat (first | (with_reducible first | exact HB.out | apply below_alloc | apply pw_below_drewN | apply below_drew1) | exact HB.out)) hb); clear HB; have HB := n1_; clear n1_ hb))
      go_ret2
      exact ⟨_, rfl, Kd.R_nil _ _ _ _ _, by repeat (first | (with_reducible first | exact HB.out | apply below_alloc | apply pw_below_drewN | apply below_drew1) | exact HB.out)⟩
    · rw [if_neg c8] at H
      have c8b0 : decide (i < 0) = false := decide_eq_false c8
      obtain ⟨m, rfl⟩ := Int.eq_ofNat_of_zero_le (show 0 ≤ i by omega)
      clear c8
      obtain ⟨y, A90, H⟩ := Option.bind_eq_some_iff.mp H
      have A9 := Aside0.mk A90
      clear A90
      simp only [Int.toNat_natCast] at H
      by_cases c9 : m < y.length ∧ y.length < 4398046511104
      · rw [if_pos c9] at H
        simp only [Option.some.injEq, Prod.mk.injEq] at H
        obtain ⟨rfl, rfl⟩ := H
        have hwr : IntKind.i64.wrap ((m : Int) + 1) = (m : Int) + 1 := by rw [IntKind.wrap_i64]; omega
        have C9 := Aside0.mk c9
        clear c9
        go_enter Try.func31, Try.ntmps31
        go_wp2_with (first | (go_at_call 27; (with_reducible refine (grant_Check.calls k _ _ l0 t _ ?side1 ?side2 A3.out).mono ?_); (case side1 => repeat (first | exact (Kd.C_below HR0.out HB.out) | (with_reducible refine Kd.C_alloc ?_ _) | (with_reducible refine Kd.C_drewN ?_ _) | (with_reducible refine Kd.C_drew ?_))); (case side2 => exact HC0.out); rintro e w10 ⟨rfl, hb⟩; have n1_ := Aside0.mk (below_step (by repeat (first | (with_reducible first | exact HB.out | apply below_alloc | apply pw_below_drewN | apply below_drew1) | exact HB.out)) hb); clear HB; have HB := n1_; clear n1_ hb) | (go_at_call 54; (with_reducible refine (grant_of.calls k _ _ l0 a1 (m : Int) _ ?side1 ?side2 A7.out).mono ?_); (case side1 => repeat (first | exact (Kd.C_below HR0.out HB.out) | (with_reducible refine Kd.C_alloc ?_ _) | (with_reducible refine Kd.C_drewN ?_ _) | (with_reducible refine Kd.C_drew ?_))); (case side2 => exact HC0.out); rintro e w11 ⟨rfl, hb⟩; have n1_ := Aside0.mk (below_step (by repeat (first | (with_reducible first | exact HB.out | apply below_alloc | apply pw_below_drewN | apply below_drew1) | exact HB.out)) hb); clear HB; have HB := n1_; clear n1_ hb) | (go_at_call 56; (with_reducible refine (api_Ask_56.calls _ _ l0 y _ ?side1 ?side2 A9.out).mono ?_); (case side1 => repeat (first | exact (Kd.C_below HR0.out HB.out) | (with_reducible refine Kd.C_alloc ?_ _) | (with_reducible refine Kd.C_drewN ?_ _) | (with_reducible refine Kd.C_drew ?_))); (case side2 => exact HC0.out); rintro e w12 ⟨v9, rfl, ho0, hb⟩; have n0_ := Aside0.mk (Kd.R_lower ho0 (below_size (by repeat (first | (with_reducible first | exact HB.out | apply below_alloc | apply pw_below_drewN | apply below_drew1) | exact HB.out)))); have n1_ := Aside0.mk (below_step (by repeat (first | (with_reducible first | exact HB.out | apply below_alloc | apply pw_below_drewN | apply below_drew1) | exact HB.out)) hb); clear HB; have HO9 := n0_; have HB := n1_; clear n0_ n1_ hb ho0; obtain ⟨Ao9, co9, eo9⟩ := Kd.R_slice HO9.out; subst eo9) | (go_at_call 57; (with_reducible refine (askDelR.calls (base := w.heap.size) (ok := fun _ => True) m y _ ?side1 C9.out.1).mono ?_); (case side1 => exact HO9.out); rintro e w13 ⟨v13, rfl, ho0, hb⟩; have n0_ := Aside0.mk ho0; have n1_ := Aside0.mk (HB.out.trans hb); clear HB HO9; have HO13 := n0_; have HB := n1_; clear n0_ n1_ hb ho0))
        go_ret2
        exact ⟨_, rfl, HO13.out, by repeat (first | (with_reducible first | exact HB.out | apply below_alloc | apply pw_below_drewN | apply below_drew1) | exact HB.out)⟩
      · rw [if_neg c9] at H
        exact absurd H (by simp)
  · rw [if_neg c4] at H
    have c4b0 : (t == 0) = false := beq_eq_false_iff_ne.mpr c4
    have c4b1 : (t != 0) = true := bne_iff_ne.mpr c4
    clear c4
    simp only [Option.some.injEq, Prod.mk.injEq] at H
    obtain ⟨rfl, rfl⟩ := H
    go_enter Try.func31, Try.ntmps31
    go_wp2_with (first | (go_at_call 27; (with_reducible refine (grant_Check.calls k _ _ l0 t _ ?side1 ?side2 A3.out).mono ?_); (case side1 => repeat (first | exact (Kd.C_below HR0.out HB.out) | (with_reducible refine Kd.C_alloc ?_ _) | (with_reducible refine Kd.C_drewN ?_ _) | (with_reducible refine Kd.C_drew ?_))); (case side2 => exact HC0.out); rintro e w10 ⟨rfl, hb⟩; have n1_ := Aside0.mk (below_step (by repeat (first | (with_reducible first | exact HB.out | apply below_alloc | apply pw_below_drewN | apply below_drew1) | exact HB.out)) hb); clear HB; have HB := n1_; clear n1_ hb))
    go_ret2
    exact ⟨_, rfl, Kd.R_nil _ _ _ _ _, by repeat (first | (with_reducible first | exact HB.out | apply below_alloc | apply pw_below_drewN | apply below_drew1) | exact HB.out)⟩

end Go.Proofs.Ytimlodcdfekbhaa.PGrantQueues
