-- Printed by a copy of the kit's printer that this session has patched (wip/tools/patch_print.py): the session's own text. Lean checks it.
import Derived.Test.YtimlodcdfekbhaaPGrantShortsx0
import Derived.Test.YtimlodcdfekbhaaPGrantShortsx1
import Derived.Test.YtimlodcdfekbhaaPGrantShortsx4
import Derived.Test.YtimlodcdfekbhaaPGrantShortsx5
import Derived.Test.YtimlodcdfekbhaaPGrantShortsx7
import Derived.Test.YtimlodcdfekbhaaPGrantShortsx10
import Derived.Test.YtimlodcdfekbhaaPGrantShortsx11
namespace Go.Proofs.Ytimlodcdfekbhaa.PGrantShorts
open Go.RowKit Go.Proofs.YtimlodcdfekbhaaW.PrintWords Go.Proofs.YtimlodcdfekbhaaW.PrintLast Go.Proofs.YtimlodcdfekbhaaW.PrintMore
attribute [local go_sem] max2_int min2_int max_two min_two max_three min_three max_four min_four   -- for this text's walks alone
set_option linter.unusedVariables false
set_option linter.unusedSimpArgs false

attribute [local go_sem high] eqA43
/-! ### estoverslaw21_GrantShorts: function 4 -/
def estoverslaw21_GrantShorts.j0 : Nat → List (S59) → Bool → Int → Int → Int → Int → Int → Int → Option (Bool)
  | 0, _, _, _, _, _, _, _, _ => none
  | k + 1, x1, x17, x327000, x327001, x327002, x327003, x328000, x328001 => if x17 = true then ((estoverslaw21_awake.f k).bind fun t329 => (some t329)) else ((grant_Short.f k x327000 x327001 x327002 x327003 x1 x328000 x328001).bind fun bt330 => ((estoversref21_Short.f k x327000 x327001 x327002 x327003 x1 x328000 x328001).bind fun bt335 => (if (bt330.1 == bt335.1 && (bt330.2.1 == bt335.2.1 && (bt330.2.2.1 == bt335.2.2.1))) = true then (if bt330.2.2.2 = bt335.2.2.2 then ((grant_Hopeless.f k x327000 x327001 x327002 x327003 x1 x328000 x328001).bind fun t340 => ((estoversref21_Hopeless.f k x327000 x327001 x327002 x327003 x1 x328000 x328001).bind fun t341 => (some (t340 == t341)))) else (none)) else (none))))
def estoverslaw21_GrantShorts.f (k : Nat) (a0_0 : Int) (a0_1 : Int) (a0_2 : Int) (a0_3 : Int) (l1 : List (S59)) (a2_0 : Int) (a2_1 : Int) : Option (Bool) := (estoverslaw21_awake.f k).bind fun t328 => (if t328 = true then (estoverslaw21_GrantShorts.j0 k l1 (decide ((l1.length : Int) > 20)) a0_0 a0_1 a0_2 a0_3 a2_0 a2_1) else (estoverslaw21_GrantShorts.j0 k l1 true a0_0 a0_1 a0_2 a0_3 a2_0 a2_1))
theorem estoverslaw21_GrantShorts.mono_l : ∀ k, (∀ y0 y1 y2 y3 y4 y5 y6 y7, LeO (estoverslaw21_GrantShorts.j0 k y0 y1 y2 y3 y4 y5 y6 y7) (estoverslaw21_GrantShorts.j0 (k + 1) y0 y1 y2 y3 y4 y5 y6 y7))
  | 0 => fun _ _ _ _ _ _ _ _ r h => by simp [estoverslaw21_GrantShorts.j0] at h
  | k + 1 => by
    have ih0 := estoverslaw21_GrantShorts.mono_l k
    · intro y0 y1 y2 y3 y4 y5 y6 y7
      unfold estoverslaw21_GrantShorts.j0
      repeat' first
      | (with_reducible exact ih0 _ _ _ _ _ _ _ _)
      | (with_reducible exact estoverslaw21_awake.mono _)
      | (with_reducible exact estoversref21_Hopeless.mono _ _ _ _ _ _ _ _)
      | (with_reducible exact estoversref21_Short.mono _ _ _ _ _ _ _ _)
      | (with_reducible exact grant_Hopeless.mono _ _ _ _ _ _ _ _)
      | (with_reducible exact grant_Short.mono _ _ _ _ _ _ _ _)
      | (with_reducible exact LeO.refl _)
      | (with_reducible exact LeO.none _)
      | (with_reducible refine LeO.ite ?_ ?_)
      | (with_reducible refine LeO.bind ?_ (fun _ => ?_))
      | exact ih0 _ _ _ _ _ _ _ _
      | exact estoverslaw21_awake.mono _
      | exact estoversref21_Hopeless.mono _ _ _ _ _ _ _ _
      | exact estoversref21_Short.mono _ _ _ _ _ _ _ _
      | exact grant_Hopeless.mono _ _ _ _ _ _ _ _
      | exact grant_Short.mono _ _ _ _ _ _ _ _
      | exact LeO.none _
      | refine LeO.ite ?_ ?_
      | refine LeO.bind ?_ (fun _ => ?_)
theorem estoverslaw21_GrantShorts.mono : ∀ a0 a1 a2 a3 a4 a5 a6 k, LeO (estoverslaw21_GrantShorts.f k a0 a1 a2 a3 a4 a5 a6) (estoverslaw21_GrantShorts.f (k + 1) a0 a1 a2 a3 a4 a5 a6) := by
  intro a0 a1 a2 a3 a4 a5 a6 k
  have ih0 := estoverslaw21_GrantShorts.mono_l k
  unfold estoverslaw21_GrantShorts.f
  repeat' first
      | (with_reducible exact ih0 _ _ _ _ _ _ _ _)
      | (with_reducible exact estoverslaw21_awake.mono _)
      | (with_reducible exact estoversref21_Hopeless.mono _ _ _ _ _ _ _ _)
      | (with_reducible exact estoversref21_Short.mono _ _ _ _ _ _ _ _)
      | (with_reducible exact grant_Hopeless.mono _ _ _ _ _ _ _ _)
      | (with_reducible exact grant_Short.mono _ _ _ _ _ _ _ _)
      | (with_reducible exact LeO.refl _)
      | (with_reducible exact LeO.none _)
      | (with_reducible refine LeO.ite ?_ ?_)
      | (with_reducible refine LeO.bind ?_ (fun _ => ?_))
      | exact ih0 _ _ _ _ _ _ _ _
      | exact estoverslaw21_awake.mono _
      | exact estoversref21_Hopeless.mono _ _ _ _ _ _ _ _
      | exact estoversref21_Short.mono _ _ _ _ _ _ _ _
      | exact grant_Hopeless.mono _ _ _ _ _ _ _ _
      | exact grant_Short.mono _ _ _ _ _ _ _ _
      | exact LeO.none _
      | refine LeO.ite ?_ ?_
      | refine LeO.bind ?_ (fun _ => ?_)
def estoverslaw21_GrantShorts.T5 : Bool × List (List Nat × List Nat) := (true, [([], []), ([], []), ([0, 1], [0, 1]), ([2], [2]), ([3], [3]), ([3], [3]), ([4, 5, 3], [3, 4, 5]), ([3, 6], [3, 6]), ([7, 3], [7]), ([8], [8]), ([8], [8]), ([8], [8]), ([11, 8], [8, 11]), ([8], [8]), ([13, 8], [8, 13]), ([9, 10, 12, 14, 8, 8], [8, 9, 10, 12, 14]), ([8], [8]), ([8], [8]), ([8], [8]), ([18, 8], [8, 18]), ([8], [8]), ([20, 8], [8, 20]), ([16, 17, 19, 21, 15, 8], [8, 16, 17, 19, 21]), ([15, 22, 8], [8, 15, 22]), ([8, 23], [8, 23]), ([24, 22, 0, 1, 2, 3, 4, 5, 6, 7, 8, 9, 10, 11, 12, 13, 14, 15, 16, 17, 18, 19, 20, 21, 22, 23, 24], [24])])
def estoverslaw21_GrantShorts.B5 : List Nat := [0, 0, 3, 7, 15, 15, 63, 127, 255, 511, 511, 511, 2559, 511, 8703, 32767, 511, 511, 511, 262655, 511, 1049087, 4194303, 8388607, 16777215, 33554431]
theorem estoverslaw21_GrantShorts.tab5 : rtab .any (opsOf Try.f4 5) = estoverslaw21_GrantShorts.T5 := by kernel_rfl
theorem estoverslaw21_GrantShorts.bits5 : waitsOk estoverslaw21_GrantShorts.T5.2 estoverslaw21_GrantShorts.B5 = true := by kernel_rfl
set_option maxHeartbeats 8000000 in
set_option maxRecDepth 100000 in
theorem estoverslaw21_GrantShorts.calls (k : Nat) (a0_0 : Int) (a0_1 : Int) (a0_2 : Int) (a0_3 : Int) (A1 : Option Addr) (c1 : Nat) (l1 : List (S59)) (a2_0 : Int) (a2_1 : Int) (r : Bool) (w : World) (hr1 : Kd.C k59 w A1 l1.length l1) (hc1 : l1.length ≤ c1) (h : estoverslaw21_GrantShorts.f k a0_0 a0_1 a0_2 a0_3 l1 a2_0 a2_1 = some r) :
    Calls Try.prog 4 #[.agg #[.int .i64 a0_0, .int .i64 a0_1, .int .i64 a0_2, .int .i64 a0_3], .slice A1 l1.length c1, .agg #[.int .i64 a2_0, .int .i64 a2_1]] w fun e w' => e = .returned (.bool r) ∧ Below w.heap.size w w' := by
  have hu37 := Try.underlying37
  have hu41 := Try.underlying41
  have hu43 := Try.underlying43
  have HR1 := Aside0.mk hr1
  have HC1 := Aside0.mk hc1
  clear hr1 hc1
  have HB := Aside0.mk (Below.refl w.heap.size w)
  have H : ((estoverslaw21_awake.f k).bind fun t328 => (if t328 = true then (estoverslaw21_GrantShorts.j0 k l1 (decide ((l1.length : Int) > 20)) a0_0 a0_1 a0_2 a0_3 a2_0 a2_1) else (estoverslaw21_GrantShorts.j0 k l1 true a0_0 a0_1 a0_2 a0_3 a2_0 a2_1))) = some r := h
  clear h
  have HC4 := Aside0.mk H
  clear H
  go_enter Try.func4, Try.ntmps4
  go_upto_region 1 with (first | ((with_reducible refine gate_dst (N := 3) rfl ?_); (try (refine gate_guard (by rfl) ?_; dsimp only)); refine box_event ?hg (N := 3) ?hd (cs := #[.int .i64 a0_0, .int .i64 a0_1, .int .i64 a0_2, .int .i64 a0_3]) (t := 37) ?hr ?_; (case hd => rfl); (case hg => rfl); (case hr => first | (go_simp; done) | (go_simp; rfl)); intro gb326 hg w5 hbox hb; have n0_ := Aside0.mk (below_step (by repeat (first | (with_reducible first | exact HB.out | apply below_alloc | apply pw_below_drewN | apply below_drew1) | exact HB.out)) hb); have n1_ := Aside0.mk (hbox); have n2_ := Aside0.mk ((by rw [hg]; exact (below_size (by repeat (first | (with_reducible first | exact HB.out | apply below_alloc | apply pw_below_drewN | apply below_drew1) | exact HB.out))) : w.heap.size ≤ gb326)); have n3_ := Aside0.mk ((by rw [hg]; exact (below_size (by repeat (first | (with_reducible first | exact HB.out | apply below_alloc | apply pw_below_drewN | apply below_drew1) | exact HB.out))) : w.heap.size ≤ gb326)); clear HB; have HB := n0_; have BK326 := n1_; have GW326 := n2_; have GE326 := n3_; clear n0_ n1_ n2_ n3_; clear hb hbox hg) | ((with_reducible refine gate_dst (N := 5) rfl ?_); (try (refine gate_guard (by rfl) ?_; dsimp only)); refine box_event ?hg (N := 5) ?hd (cs := #[.int .i64 a2_0, .int .i64 a2_1]) (t := 41) ?hr ?_; (case hd => rfl); (case hg => rfl); (case hr => first | (go_simp; done) | (go_simp; rfl)); intro gb327 hg w6 hbox hb; have n0_ := Aside0.mk (blk_below (g := gb326) (o := .cells #[.int .i64 a0_0, .int .i64 a0_1, .int .i64 a0_2, .int .i64 a0_3] 37 (0, 0)) (by (with_reducible repeat (first | refine blk_drewN ?_ _ | refine blk_drew ?_ | refine blk_alloc ?_ _)); exact BK326.out) hb); have n1_ := Aside0.mk (below_step (by repeat (first | (with_reducible first | exact HB.out | apply below_alloc | apply pw_below_drewN | apply below_drew1 | refine below_set ?_ GE326.out) | exact HB.out)) hb); have n2_ := Aside0.mk (hbox); have n3_ := Aside0.mk ((by rw [hg]; exact (below_size (by repeat (first | (with_reducible first | exact HB.out | apply below_alloc | apply pw_below_drewN | apply below_drew1 | refine below_set ?_ GE326.out) | exact HB.out))) : w.heap.size ≤ gb327)); have n4_ := Aside0.mk ((by rw [hg]; exact (below_size (by repeat (first | (with_reducible first | exact HB.out | apply below_alloc | apply pw_below_drewN | apply below_drew1 | refine below_set ?_ GE326.out) | exact HB.out))) : w.heap.size ≤ gb327)); have n5_ := Aside0.mk ((by rw [hg]; exact Nat.ne_of_lt (blk_lt (g := gb326) (o := .cells #[.int .i64 a0_0, .int .i64 a0_1, .int .i64 a0_2, .int .i64 a0_3] 37 (0, 0)) (by (with_reducible repeat (first | refine blk_drewN ?_ _ | refine blk_drew ?_ | refine blk_alloc ?_ _)); exact BK326.out)) : gb326 ≠ gb327)); have n6_ := Aside0.mk ((by rw [hg]; exact Nat.ne_of_gt (blk_lt (g := gb326) (o := .cells #[.int .i64 a0_0, .int .i64 a0_1, .int .i64 a0_2, .int .i64 a0_3] 37 (0, 0)) (by (with_reducible repeat (first | refine blk_drewN ?_ _ | refine blk_drew ?_ | refine blk_alloc ?_ _)); exact BK326.out)) : gb327 ≠ gb326)); clear BK326; clear HB; have BK326 := n0_; have HB := n1_; have BK327 := n2_; have GW327 := n3_; have GE327 := n4_; have NB326_327 := n5_; have NB327_326 := n6_; clear n0_ n1_ n2_ n3_ n4_ n5_ n6_; clear hb hbox hg))
  (try simp only [Act.put, List.setIfInBounds_toArray, List.set_cons_zero, List.set_cons_succ])
  go_cut [17] (fun v17 wc => ∃ (kq : Nat) (x17_3 : Bool), v17 = .bool x17_3 ∧ Aside0 (estoverslaw21_GrantShorts.j0 kq l1 x17_3 a0_0 a0_1 a0_2 a0_3 a2_0 a2_1 = some r) ∧ Aside0 (kq ≤ k) ∧ Aside0 (wc.heap[gb326]? = some (.cells #[.int .i64 a0_0, .int .i64 a0_1, .int .i64 a0_2, .int .i64 a0_3] 37 (0, 0))) ∧ Aside0 (wc.heap[gb327]? = some (.cells #[.int .i64 a2_0, .int .i64 a2_1] 41 (0, 0))) ∧ Aside0 (Below w.heap.size w wc))
  case first =>
    have H := HC4.out
    clear HC4
    replace H := Option.bind_eq_some_iff.mp H
    obtain ⟨t328, A70, H⟩ := H
    replace H : (if t328 = true then (estoverslaw21_GrantShorts.j0 k l1 (decide ((l1.length : Int) > 20)) a0_0 a0_1 a0_2 a0_3 a2_0 a2_1) else (estoverslaw21_GrantShorts.j0 k l1 true a0_0 a0_1 a0_2 a0_3 a2_0 a2_1)) = some r := H
    have A7 := Aside0.mk A70
    clear A70
    by_cases c8 : t328 = true
    · subst c8
      have H1 : (estoverslaw21_GrantShorts.j0 k l1 (decide ((l1.length : Int) > 20)) a0_0 a0_1 a0_2 a0_3 a2_0 a2_1) = some r := by rw [if_pos rfl] at H; exact H
      clear H
      have H := H1
      clear H1
      have H' := Aside0.mk H
      clear H
      go_wp2_with (first | ((with_reducible refine gate_callee (f := 15) rfl ?_); refine goesL_ (some 11) rfl rfl Try.func15 (by kernel_rfl) rfl #[] rfl (by (try simp only [List.map_toArray, List.map_cons, List.map_nil]); first | done | rfl | (simp only [List.length_drop, List.length_take]; rfl)) ?_; (with_reducible refine (estoverslaw21_awake.calls k  true _ A7.out).mono ?_); rintro e w9 ⟨rfl, hb⟩; refine ⟨_, rfl, ?_⟩; have n0_ := Aside0.mk (blk_below (g := gb326) (o := .cells #[.int .i64 a0_0, .int .i64 a0_1, .int .i64 a0_2, .int .i64 a0_3] 37 (0, 0)) (by (with_reducible repeat (first | refine blk_drewN ?_ _ | refine blk_drew ?_ | refine blk_alloc ?_ _)); exact BK326.out) hb); have n1_ := Aside0.mk (blk_below (g := gb327) (o := .cells #[.int .i64 a2_0, .int .i64 a2_1] 41 (0, 0)) (by (with_reducible repeat (first | refine blk_drewN ?_ _ | refine blk_drew ?_ | refine blk_alloc ?_ _)); exact BK327.out) hb); have n2_ := Aside0.mk (below_step (by repeat (first | (with_reducible first | exact HB.out | apply below_alloc | apply pw_below_drewN | apply below_drew1 | refine below_set ?_ GE326.out | refine below_set ?_ GE327.out) | exact HB.out)) hb); clear BK326; clear BK327; clear HB; have BK326 := n0_; have BK327 := n1_; have HB := n2_; clear n0_ n1_ n2_; (try clear hb); (try clear hb2); (try clear hk); (try clear hi)))
      go_meet
      case rel => exact ⟨_, (decide ((l1.length : Int) > 20)), (by first | rfl | (simp; done) | (simp [*]; done)), H', ⟨by first | omega | exact Nat.le_refl _⟩, ⟨by (with_reducible repeat (first | refine blk_drewN ?_ _ | refine blk_drew ?_ | refine blk_alloc ?_ _)); exact BK326.out⟩, ⟨by (with_reducible repeat (first | refine blk_drewN ?_ _ | refine blk_drew ?_ | refine blk_alloc ?_ _)); exact BK327.out⟩, ⟨by repeat (first | (with_reducible first | exact HB.out | apply below_alloc | apply pw_below_drewN | apply below_drew1 | refine below_set ?_ GE326.out | refine below_set ?_ GE327.out) | exact HB.out)⟩⟩
    · replace c8 := Bool.eq_false_iff.mpr c8
      subst c8
      have H1 : (estoverslaw21_GrantShorts.j0 k l1 true a0_0 a0_1 a0_2 a0_3 a2_0 a2_1) = some r := by rw [if_neg (show ¬ (false = true) by decide)] at H; exact H
      clear H
      have H := H1
      clear H1
      have H' := Aside0.mk H
      clear H
      go_wp2_with (first | ((with_reducible refine gate_callee (f := 15) rfl ?_); refine goesL_ (some 11) rfl rfl Try.func15 (by kernel_rfl) rfl #[] rfl (by (try simp only [List.map_toArray, List.map_cons, List.map_nil]); first | done | rfl | (simp only [List.length_drop, List.length_take]; rfl)) ?_; (with_reducible refine (estoverslaw21_awake.calls k  false _ A7.out).mono ?_); rintro e w10 ⟨rfl, hb⟩; refine ⟨_, rfl, ?_⟩; have n0_ := Aside0.mk (blk_below (g := gb326) (o := .cells #[.int .i64 a0_0, .int .i64 a0_1, .int .i64 a0_2, .int .i64 a0_3] 37 (0, 0)) (by (with_reducible repeat (first | refine blk_drewN ?_ _ | refine blk_drew ?_ | refine blk_alloc ?_ _)); exact BK326.out) hb); have n1_ := Aside0.mk (blk_below (g := gb327) (o := .cells #[.int .i64 a2_0, .int .i64 a2_1] 41 (0, 0)) (by (with_reducible repeat (first | refine blk_drewN ?_ _ | refine blk_drew ?_ | refine blk_alloc ?_ _)); exact BK327.out) hb); have n2_ := Aside0.mk (below_step (by repeat (first | (with_reducible first | exact HB.out | apply below_alloc | apply pw_below_drewN | apply below_drew1 | refine below_set ?_ GE326.out | refine below_set ?_ GE327.out) | exact HB.out)) hb); clear BK326; clear BK327; clear HB; have BK326 := n0_; have BK327 := n1_; have HB := n2_; clear n0_ n1_ n2_; (try clear hb); (try clear hb2); (try clear hk); (try clear hi)))
      go_meet
      case rel => exact ⟨_, (true), (by first | rfl | (simp; done) | (simp [*]; done)), H', ⟨by first | omega | exact Nat.le_refl _⟩, ⟨by (with_reducible repeat (first | refine blk_drewN ?_ _ | refine blk_drew ?_ | refine blk_alloc ?_ _)); exact BK326.out⟩, ⟨by (with_reducible repeat (first | refine blk_drewN ?_ _ | refine blk_drew ?_ | refine blk_alloc ?_ _)); exact BK327.out⟩, ⟨by repeat (first | (with_reducible first | exact HB.out | apply below_alloc | apply pw_below_drewN | apply below_drew1 | refine below_set ?_ GE326.out | refine below_set ?_ GE327.out) | exact HB.out)⟩⟩
  case rest =>
    clear HC4
    try clear c1
    try clear p2
    try clear c4
    try clear c8
    obtain ⟨kq, x17_3, rfl, HA, HJ3, BK326, BK327, HB⟩ := hcut
    cases kq with
    | zero => exact absurd HA.out (by simp [estoverslaw21_GrantShorts.j0])
    | succ kj3 =>
      have H := HA.out
      clear HA
      simp only [estoverslaw21_GrantShorts.j0] at H
      by_cases c11 : x17_3 = true
      · subst c11
        have H1 : ((estoverslaw21_awake.f kj3).bind fun t329 => (some t329)) = some r := by rw [if_pos rfl] at H; exact H
        clear H
        have H := H1
        clear H1
        replace H := Option.bind_eq_some_iff.mp H
        obtain ⟨t329, A120, H⟩ := H
        replace H : (some t329) = some r := H
        have A12 := Aside0.mk A120
        clear A120
        obtain rfl := Option.some.inj H
        go_wp2_with (first | ((with_reducible refine gate_callee (f := 15) rfl ?_); refine goesL_ (some 18) rfl rfl Try.func15 (by kernel_rfl) rfl #[] rfl (by (try simp only [List.map_toArray, List.map_cons, List.map_nil]); first | done | rfl | (simp only [List.length_drop, List.length_take]; rfl)) ?_; (with_reducible refine (estoverslaw21_awake.calls kj3  t329 _ A12.out).mono ?_); rintro e w13 ⟨rfl, hb⟩; refine ⟨_, rfl, ?_⟩; have n0_ := Aside0.mk (blk_below (g := gb326) (o := .cells #[.int .i64 a0_0, .int .i64 a0_1, .int .i64 a0_2, .int .i64 a0_3] 37 (0, 0)) (by (with_reducible repeat (first | refine blk_drewN ?_ _ | refine blk_drew ?_ | refine blk_alloc ?_ _)); exact BK326.out) hb); have n1_ := Aside0.mk (blk_below (g := gb327) (o := .cells #[.int .i64 a2_0, .int .i64 a2_1] 41 (0, 0)) (by (with_reducible repeat (first | refine blk_drewN ?_ _ | refine blk_drew ?_ | refine blk_alloc ?_ _)); exact BK327.out) hb); have n2_ := Aside0.mk (below_step (by repeat (first | (with_reducible first | exact HB.out | apply below_alloc | apply pw_below_drewN | apply below_drew1 | refine below_set ?_ GE326.out | refine below_set ?_ GE327.out) | exact HB.out)) hb); clear BK326; clear BK327; clear HB; have BK326 := n0_; have BK327 := n1_; have HB := n2_; clear n0_ n1_ n2_; (try clear hb); (try clear hb2); (try clear hk); (try clear hi)))
        go_ret
        exact ⟨by first | rfl | (simp [errW_none, errW_some] <;> rfl) | (simp [*, errW_none, errW_some] <;> rfl), by repeat (first | (with_reducible first | exact HB.out | apply below_alloc | apply pw_below_drewN | apply below_drew1 | refine below_set ?_ GE326.out | refine below_set ?_ GE327.out) | exact HB.out)⟩
      · replace c11 := Bool.eq_false_iff.mpr c11
        subst c11
        have H1 : ((grant_Short.f kj3 a0_0 a0_1 a0_2 a0_3 l1 a2_0 a2_1).bind fun bt330 => ((estoversref21_Short.f kj3 a0_0 a0_1 a0_2 a0_3 l1 a2_0 a2_1).bind fun bt335 => (if (bt330.1 == bt335.1 && (bt330.2.1 == bt335.2.1 && (bt330.2.2.1 == bt335.2.2.1))) = true then (if bt330.2.2.2 = bt335.2.2.2 then ((grant_Hopeless.f kj3 a0_0 a0_1 a0_2 a0_3 l1 a2_0 a2_1).bind fun t340 => ((estoversref21_Hopeless.f kj3 a0_0 a0_1 a0_2 a0_3 l1 a2_0 a2_1).bind fun t341 => (some (t340 == t341)))) else (none)) else (none)))) = some r := by rw [if_neg (show ¬ (false = true) by decide)] at H; exact H
        clear H
        have H := H1
        clear H1
        replace H := Option.bind_eq_some_iff.mp H
        obtain ⟨⟨t330, t331, t332, t333⟩, A140, H⟩ := H
        replace H : ((estoversref21_Short.f kj3 a0_0 a0_1 a0_2 a0_3 l1 a2_0 a2_1).bind fun bt335 => (if (t330 == bt335.1 && (t331 == bt335.2.1 && (t332 == bt335.2.2.1))) = true then (if t333 = bt335.2.2.2 then ((grant_Hopeless.f kj3 a0_0 a0_1 a0_2 a0_3 l1 a2_0 a2_1).bind fun t340 => ((estoversref21_Hopeless.f kj3 a0_0 a0_1 a0_2 a0_3 l1 a2_0 a2_1).bind fun t341 => (some (t340 == t341)))) else (none)) else (none))) = some r := H
        have A14 := Aside0.mk A140
        clear A140
        replace H := Option.bind_eq_some_iff.mp H
        obtain ⟨⟨t335, t336, t337, t338⟩, A150, H⟩ := H
        replace H : (if (t330 == t335 && (t331 == t336 && (t332 == t337))) = true then (if t333 = t338 then ((grant_Hopeless.f kj3 a0_0 a0_1 a0_2 a0_3 l1 a2_0 a2_1).bind fun t340 => ((estoversref21_Hopeless.f kj3 a0_0 a0_1 a0_2 a0_3 l1 a2_0 a2_1).bind fun t341 => (some (t340 == t341)))) else (none)) else (none)) = some r := H
        have A15 := Aside0.mk A150
        clear A150
        by_cases c16 : (t330 == t335 && (t331 == t336 && (t332 == t337))) = true
        · rw [if_pos c16] at H
          have c16b0 : (t330 == t335 && (t331 == t336 && (t332 == t337))) = true := c16
          (try (have c16b1 : decide (t330 = t335 && (t331 == t336 && (t332 == t337))) = true := by simpa using c16))
          (try (have c16b2 : (t330 == t335 && (t331 == t336 && (t332 == t337))) = true := by simpa using c16))
          clear c16
          by_cases c17 : t333 = t338
          · rw [if_pos c17] at H
            have c17b0 : (t333 == t338) = true := beq_iff_eq.mpr c17
            have c17b1 : (t333 != t338) = false := bne_eq_false_iff_eq.mpr c17
            clear c17
            replace H := Option.bind_eq_some_iff.mp H
            obtain ⟨t340, A180, H⟩ := H
            replace H : ((estoversref21_Hopeless.f kj3 a0_0 a0_1 a0_2 a0_3 l1 a2_0 a2_1).bind fun t341 => (some (t340 == t341))) = some r := H
            have A18 := Aside0.mk A180
            clear A180
            replace H := Option.bind_eq_some_iff.mp H
            obtain ⟨t341, A190, H⟩ := H
            replace H : (some (t340 == t341)) = some r := H
            have A19 := Aside0.mk A190
            clear A190
            obtain rfl := Option.some.inj H
            have hnb20 := NB326_327.out
            have hnc20 := NB327_326.out
            have hcz21_0 : wc.cell? ⟨gb326, 0, none⟩ = some (.int .i64 a0_0) := (blk_cell BK326.out 0).trans rfl
            have hcz21_1 : wc.cell? ⟨gb326, 1, none⟩ = some (.int .i64 a0_1) := (blk_cell BK326.out 1).trans rfl
            have hcz21_2 : wc.cell? ⟨gb326, 2, none⟩ = some (.int .i64 a0_2) := (blk_cell BK326.out 2).trans rfl
            have hcz21_3 : wc.cell? ⟨gb326, 3, none⟩ = some (.int .i64 a0_3) := (blk_cell BK326.out 3).trans rfl
            have hfz21_0 := blk_frozen BK326.out 0
            have hfz21_1 := blk_frozen BK326.out 1
            have hfz21_2 := blk_frozen BK326.out 2
            have hfz21_3 := blk_frozen BK326.out 3
            have hcz22_0 : wc.cell? ⟨gb327, 0, none⟩ = some (.int .i64 a2_0) := (blk_cell BK327.out 0).trans rfl
            have hcz22_1 : wc.cell? ⟨gb327, 1, none⟩ = some (.int .i64 a2_1) := (blk_cell BK327.out 1).trans rfl
            have hfz22_0 := blk_frozen BK327.out 0
            have hfz22_1 := blk_frozen BK327.out 1
            try go_wp2_with (first | ((with_reducible refine gate_callee (f := 16) rfl ?_); refine goesL_ (some 26) rfl rfl Try.func16 (by kernel_rfl) rfl #[.agg #[.int .i64 a0_0, .int .i64 a0_1, .int .i64 a0_2, .int .i64 a0_3], .slice A1 l1.length c1, .int .i64 a2_0, .int .i64 a2_1] rfl (by (try simp only [List.map_toArray, List.map_cons, List.map_nil]); first | done | rfl | (simp only [List.length_drop, List.length_take]; rfl)) ?_; (with_reducible refine (grant_Short.calls kj3 a0_0 a0_1 a0_2 a0_3 _ _ l1 a2_0 a2_1 t330 t331 t332 t333 _ ?side1 ?side2 A14.out).mono ?_); (case side1 => repeat (first | exact (Kd.C_below HR1.out HB.out) | (with_reducible refine Kd.C_alloc ?_ _) | (with_reducible refine Kd.C_drewN ?_ _) | (with_reducible refine Kd.C_drew ?_))); (case side2 => exact HC1.out); rintro e w23 ⟨rfl, hb⟩; refine ⟨_, rfl, ?_⟩; have n0_ := Aside0.mk (blk_below (g := gb326) (o := .cells #[.int .i64 a0_0, .int .i64 a0_1, .int .i64 a0_2, .int .i64 a0_3] 37 (0, 0)) (by (with_reducible repeat (first | refine blk_drewN ?_ _ | refine blk_drew ?_ | refine blk_alloc ?_ _)); exact BK326.out) hb); have n1_ := Aside0.mk (blk_below (g := gb327) (o := .cells #[.int .i64 a2_0, .int .i64 a2_1] 41 (0, 0)) (by (with_reducible repeat (first | refine blk_drewN ?_ _ | refine blk_drew ?_ | refine blk_alloc ?_ _)); exact BK327.out) hb); have n2_ := Aside0.mk (below_step (by repeat (first | (with_reducible first | exact HB.out | apply below_alloc | apply pw_below_drewN | apply below_drew1 | refine below_set ?_ GE326.out | refine below_set ?_ GE327.out) | exact HB.out)) hb); clear BK326; clear BK327; clear HB; have BK326 := n0_; have BK327 := n1_; have HB := n2_; clear n0_ n1_ n2_; (try clear hb); (try clear hb2); (try clear hk); (try clear hi)) | ((with_reducible refine gate_dst (N := 7) rfl ?_); (try (refine gate_guard (by rfl) ?_; dsimp only)); refine box_event ?hg (N := 7) ?hd (cs := #[.int .i64 0, .int .i64 0, .bool false]) (t := 43) ?hr ?_; (case hd => rfl); (case hg => rfl); (case hr => first | (go_simp; done) | (go_simp; rfl)); intro gb334 hg w24 hbox hb; have n0_ := Aside0.mk (blk_below (g := gb326) (o := .cells #[.int .i64 a0_0, .int .i64 a0_1, .int .i64 a0_2, .int .i64 a0_3] 37 (0, 0)) (by (with_reducible repeat (first | refine blk_drewN ?_ _ | refine blk_drew ?_ | refine blk_alloc ?_ _)); exact BK326.out) hb); have n1_ := Aside0.mk (blk_below (g := gb327) (o := .cells #[.int .i64 a2_0, .int .i64 a2_1] 41 (0, 0)) (by (with_reducible repeat (first | refine blk_drewN ?_ _ | refine blk_drew ?_ | refine blk_alloc ?_ _)); exact BK327.out) hb); have n2_ := Aside0.mk (below_step (by repeat (first | (with_reducible first | exact HB.out | apply below_alloc | apply pw_below_drewN | apply below_drew1 | refine below_set ?_ GE326.out | refine below_set ?_ GE327.out) | exact HB.out)) hb); have n3_ := Aside0.mk (hbox); have n4_ := Aside0.mk ((by rw [hg]; exact (below_size (by repeat (first | (with_reducible first | exact HB.out | apply below_alloc | apply pw_below_drewN | apply below_drew1 | refine below_set ?_ GE326.out | refine below_set ?_ GE327.out) | exact HB.out))) : w.heap.size ≤ gb334)); have n5_ := Aside0.mk ((by rw [hg]; exact (below_size (by repeat (first | (with_reducible first | exact HB.out | apply below_alloc | apply pw_below_drewN | apply below_drew1 | refine below_set ?_ GE326.out | refine below_set ?_ GE327.out) | exact HB.out))) : w.heap.size ≤ gb334)); have n6_ := Aside0.mk ((by rw [hg]; exact Nat.ne_of_lt (blk_lt (g := gb326) (o := .cells #[.int .i64 a0_0, .int .i64 a0_1, .int .i64 a0_2, .int .i64 a0_3] 37 (0, 0)) (by (with_reducible repeat (first | refine blk_drewN ?_ _ | refine blk_drew ?_ | refine blk_alloc ?_ _)); exact BK326.out)) : gb326 ≠ gb334)); have n7_ := Aside0.mk ((by rw [hg]; exact Nat.ne_of_gt (blk_lt (g := gb326) (o := .cells #[.int .i64 a0_0, .int .i64 a0_1, .int .i64 a0_2, .int .i64 a0_3] 37 (0, 0)) (by (with_reducible repeat (first | refine blk_drewN ?_ _ | refine blk_drew ?_ | refine blk_alloc ?_ _)); exact BK326.out)) : gb334 ≠ gb326)); have n8_ := Aside0.mk ((by rw [hg]; exact Nat.ne_of_lt (blk_lt (g := gb327) (o := .cells #[.int .i64 a2_0, .int .i64 a2_1] 41 (0, 0)) (by (with_reducible repeat (first | refine blk_drewN ?_ _ | refine blk_drew ?_ | refine blk_alloc ?_ _)); exact BK327.out)) : gb327 ≠ gb334)); have n9_ := Aside0.mk ((by rw [hg]; exact Nat.ne_of_gt (blk_lt (g := gb327) (o := .cells #[.int .i64 a2_0, .int .i64 a2_1] 41 (0, 0)) (by (with_reducible repeat (first | refine blk_drewN ?_ _ | refine blk_drew ?_ | refine blk_alloc ?_ _)); exact BK327.out)) : gb334 ≠ gb327)); clear BK326; clear BK327; clear HB; have BK326 := n0_; have BK327 := n1_; have HB := n2_; have BK334 := n3_; have GW334 := n4_; have GE334 := n5_; have NB326_334 := n6_; have NB334_326 := n7_; have NB327_334 := n8_; have NB334_327 := n9_; clear n0_ n1_ n2_ n3_ n4_ n5_ n6_ n7_ n8_ n9_; clear hb hbox hg; have hnb25 := NB334_326.out; have hnc25 := NB326_334.out; have hnb26 := NB334_327.out; have hnc26 := NB327_334.out; have hcz27_0 : w24.cell? ⟨gb334, 0, none⟩ = some (.int .i64 0) := (blk_cell BK334.out 0).trans rfl; have hcz27_1 : w24.cell? ⟨gb334, 1, none⟩ = some (.int .i64 0) := (blk_cell BK334.out 1).trans rfl; have hcz27_2 : w24.cell? ⟨gb334, 2, none⟩ = some (.bool false) := (blk_cell BK334.out 2).trans rfl; have hfz27_0 := blk_frozen BK334.out 0; have hfz27_1 := blk_frozen BK334.out 1; have hfz27_2 := blk_frozen BK334.out 2; have hcz28_0 : w24.cell? ⟨gb326, 0, none⟩ = some (.int .i64 a0_0) := (blk_cell BK326.out 0).trans rfl; have hcz28_1 : w24.cell? ⟨gb326, 1, none⟩ = some (.int .i64 a0_1) := (blk_cell BK326.out 1).trans rfl; have hcz28_2 : w24.cell? ⟨gb326, 2, none⟩ = some (.int .i64 a0_2) := (blk_cell BK326.out 2).trans rfl; have hcz28_3 : w24.cell? ⟨gb326, 3, none⟩ = some (.int .i64 a0_3) := (blk_cell BK326.out 3).trans rfl; have hfz28_0 := blk_frozen BK326.out 0; have hfz28_1 := blk_frozen BK326.out 1; have hfz28_2 := blk_frozen BK326.out 2; have hfz28_3 := blk_frozen BK326.out 3; have hcz29_0 : w24.cell? ⟨gb327, 0, none⟩ = some (.int .i64 a2_0) := (blk_cell BK327.out 0).trans rfl; have hcz29_1 : w24.cell? ⟨gb327, 1, none⟩ = some (.int .i64 a2_1) := (blk_cell BK327.out 1).trans rfl; have hfz29_0 := blk_frozen BK327.out 0; have hfz29_1 := blk_frozen BK327.out 1) | ((with_reducible refine gate_callee (f := 17) rfl ?_); refine goesL_ (some 36) rfl rfl Try.func17 (by kernel_rfl) rfl #[.agg #[.int .i64 a0_0, .int .i64 a0_1, .int .i64 a0_2, .int .i64 a0_3], .slice A1 l1.length c1, .int .i64 a2_0, .int .i64 a2_1] rfl (by (try simp only [List.map_toArray, List.map_cons, List.map_nil]); first | done | rfl | (simp only [List.length_drop, List.length_take]; rfl)) ?_; (with_reducible refine (estoversref21_Short.calls kj3 a0_0 a0_1 a0_2 a0_3 _ _ l1 a2_0 a2_1 t335 t336 t337 t338 _ ?side1 ?side2 A15.out).mono ?_); (case side1 => exact Kd.C_below HR1.out (by repeat (first | (with_reducible first | exact HB.out | apply below_alloc | apply pw_below_drewN | apply below_drew1 | refine below_set ?_ GE326.out | refine below_set ?_ GE327.out | refine below_set ?_ GE334.out) | exact HB.out))); (case side2 => exact HC1.out); rintro e w30 ⟨rfl, hb⟩; refine ⟨_, rfl, ?_⟩; have n0_ := Aside0.mk (blk_below (g := gb326) (o := .cells #[.int .i64 a0_0, .int .i64 a0_1, .int .i64 a0_2, .int .i64 a0_3] 37 (0, 0)) (by (with_reducible repeat (first | refine blk_drewN ?_ _ | refine blk_drew ?_ | refine blk_alloc ?_ _)); refine blk_far ?_ NB326_334.out _; (with_reducible repeat (first | refine blk_drewN ?_ _ | refine blk_drew ?_ | refine blk_alloc ?_ _)); refine blk_far ?_ NB326_334.out _; (with_reducible repeat (first | refine blk_drewN ?_ _ | refine blk_drew ?_ | refine blk_alloc ?_ _)); refine blk_far ?_ NB326_334.out _; (with_reducible repeat (first | refine blk_drewN ?_ _ | refine blk_drew ?_ | refine blk_alloc ?_ _)); exact BK326.out) hb); have n1_ := Aside0.mk (blk_below (g := gb327) (o := .cells #[.int .i64 a2_0, .int .i64 a2_1] 41 (0, 0)) (by (with_reducible repeat (first | refine blk_drewN ?_ _ | refine blk_drew ?_ | refine blk_alloc ?_ _)); refine blk_far ?_ NB327_334.out _; (with_reducible repeat (first | refine blk_drewN ?_ _ | refine blk_drew ?_ | refine blk_alloc ?_ _)); refine blk_far ?_ NB327_334.out _; (with_reducible repeat (first | refine blk_drewN ?_ _ | refine blk_drew ?_ | refine blk_alloc ?_ _)); refine blk_far ?_ NB327_334.out _; (with_reducible repeat (first | refine blk_drewN ?_ _ | refine blk_drew ?_ | refine blk_alloc ?_ _)); exact BK327.out) hb); have n2_ := Aside0.mk (blk_below (g := gb334) (o := .cells #[.int .i64 t330, .int .i64 t331, .bool t332] 43 (0, 0)) (by (with_reducible repeat (first | refine blk_drewN ?_ _ | refine blk_drew ?_ | refine blk_alloc ?_ _)); refine blk_put (cs := #[.int .i64 t330, .int .i64 t331, .bool false]) ?_ 2 _ rfl; (with_reducible repeat (first | refine blk_drewN ?_ _ | refine blk_drew ?_ | refine blk_alloc ?_ _)); refine blk_put (cs := #[.int .i64 t330, .int .i64 0, .bool false]) ?_ 1 _ rfl; (with_reducible repeat (first | refine blk_drewN ?_ _ | refine blk_drew ?_ | refine blk_alloc ?_ _)); refine blk_put (cs := #[.int .i64 0, .int .i64 0, .bool false]) ?_ 0 _ rfl; (with_reducible repeat (first | refine blk_drewN ?_ _ | refine blk_drew ?_ | refine blk_alloc ?_ _)); exact BK334.out) hb); have n3_ := Aside0.mk (below_step (by repeat (first | (with_reducible first | exact HB.out | apply below_alloc | apply pw_below_drewN | apply below_drew1 | refine below_set ?_ GE326.out | refine below_set ?_ GE327.out | refine below_set ?_ GE334.out) | exact HB.out)) hb); clear BK326; clear BK327; clear BK334; clear HB; have BK326 := n0_; have BK327 := n1_; have BK334 := n2_; have HB := n3_; clear n0_ n1_ n2_ n3_; (try clear hb); (try clear hb2); (try clear hk); (try clear hi)) | ((with_reducible refine gate_dst (N := 9) rfl ?_); (try (refine gate_guard (by rfl) ?_; dsimp only)); refine box_event ?hg (N := 9) ?hd (cs := #[.int .i64 0, .int .i64 0, .bool false]) (t := 43) ?hr ?_; (case hd => rfl); (case hg => rfl); (case hr => first | (go_simp; done) | (go_simp; rfl)); intro gb339 hg w31 hbox hb; have n0_ := Aside0.mk (blk_below (g := gb326) (o := .cells #[.int .i64 a0_0, .int .i64 a0_1, .int .i64 a0_2, .int .i64 a0_3] 37 (0, 0)) (by (with_reducible repeat (first | refine blk_drewN ?_ _ | refine blk_drew ?_ | refine blk_alloc ?_ _)); exact BK326.out) hb); have n1_ := Aside0.mk (blk_below (g := gb327) (o := .cells #[.int .i64 a2_0, .int .i64 a2_1] 41 (0, 0)) (by (with_reducible repeat (first | refine blk_drewN ?_ _ | refine blk_drew ?_ | refine blk_alloc ?_ _)); exact BK327.out) hb); have n2_ := Aside0.mk (blk_below (g := gb334) (o := .cells #[.int .i64 t330, .int .i64 t331, .bool t332] 43 (0, 0)) (by (with_reducible repeat (first | refine blk_drewN ?_ _ | refine blk_drew ?_ | refine blk_alloc ?_ _)); exact BK334.out) hb); have n3_ := Aside0.mk (below_step (by repeat (first | (with_reducible first | exact HB.out | apply below_alloc | apply pw_below_drewN | apply below_drew1 | refine below_set ?_ GE326.out | refine below_set ?_ GE327.out | refine below_set ?_ GE334.out) | exact HB.out)) hb); have n4_ := Aside0.mk (hbox); have n5_ := Aside0.mk ((by rw [hg]; exact (below_size (by repeat (first | (with_reducible first | exact HB.out | apply below_alloc | apply pw_below_drewN | apply below_drew1 | refine below_set ?_ GE326.out | refine below_set ?_ GE327.out | refine below_set ?_ GE334.out) | exact HB.out))) : w.heap.size ≤ gb339)); have n6_ := Aside0.mk ((by rw [hg]; exact (below_size (by repeat (first | (with_reducible first | exact HB.out | apply below_alloc | apply pw_below_drewN | apply below_drew1 | refine below_set ?_ GE326.out | refine below_set ?_ GE327.out | refine below_set ?_ GE334.out) | exact HB.out))) : w.heap.size ≤ gb339)); have n7_ := Aside0.mk ((by rw [hg]; exact Nat.ne_of_lt (blk_lt (g := gb326) (o := .cells #[.int .i64 a0_0, .int .i64 a0_1, .int .i64 a0_2, .int .i64 a0_3] 37 (0, 0)) (by (with_reducible repeat (first | refine blk_drewN ?_ _ | refine blk_drew ?_ | refine blk_alloc ?_ _)); exact BK326.out)) : gb326 ≠ gb339)); have n8_ := Aside0.mk ((by rw [hg]; exact Nat.ne_of_gt (blk_lt (g := gb326) (o := .cells #[.int .i64 a0_0, .int .i64 a0_1, .int .i64 a0_2, .int .i64 a0_3] 37 (0, 0)) (by (with_reducible repeat (first | refine blk_drewN ?_ _ | refine blk_drew ?_ | refine blk_alloc ?_ _)); exact BK326.out)) : gb339 ≠ gb326)); have n9_ := Aside0.mk ((by rw [hg]; exact Nat.ne_of_lt (blk_lt (g := gb327) (o := .cells #[.int .i64 a2_0, .int .i64 a2_1] 41 (0, 0)) (by (with_reducible repeat (first | refine blk_drewN ?_ _ | refine blk_drew ?_ | refine blk_alloc ?_ _)); exact BK327.out)) : gb327 ≠ gb339)); have n10_ := Aside0.mk ((by rw [hg]; exact Nat.ne_of_gt (blk_lt (g := gb327) (o := .cells #[.int .i64 a2_0, .int .i64 a2_1] 41 (0, 0)) (by (with_reducible repeat (first | refine blk_drewN ?_ _ | refine blk_drew ?_ | refine blk_alloc ?_ _)); exact BK327.out)) : gb339 ≠ gb327)); have n11_ := Aside0.mk ((by rw [hg]; exact Nat.ne_of_lt (blk_lt (g := gb334) (o := .cells #[.int .i64 t330, .int .i64 t331, .bool t332] 43 (0, 0)) (by (with_reducible repeat (first | refine blk_drewN ?_ _ | refine blk_drew ?_ | refine blk_alloc ?_ _)); exact BK334.out)) : gb334 ≠ gb339)); have n12_ := Aside0.mk ((by rw [hg]; exact Nat.ne_of_gt (blk_lt (g := gb334) (o := .cells #[.int .i64 t330, .int .i64 t331, .bool t332] 43 (0, 0)) (by (with_reducible repeat (first | refine blk_drewN ?_ _ | refine blk_drew ?_ | refine blk_alloc ?_ _)); exact BK334.out)) : gb339 ≠ gb334)); clear BK326; clear BK327; clear BK334; clear HB; have BK326 := n0_; have BK327 := n1_; have BK334 := n2_; have HB := n3_; have BK339 := n4_; have GW339 := n5_; have GE339 := n6_; have NB326_339 := n7_; have NB339_326 := n8_; have NB327_339 := n9_; have NB339_327 := n10_; have NB334_339 := n11_; have NB339_334 := n12_; clear n0_ n1_ n2_ n3_ n4_ n5_ n6_ n7_ n8_ n9_ n10_ n11_ n12_; clear hb hbox hg; have hnb32 := NB339_326.out; have hnc32 := NB326_339.out; have hnb33 := NB339_327.out; have hnc33 := NB327_339.out; have hnb34 := NB339_334.out; have hnc34 := NB334_339.out; have hcz35_0 : w31.cell? ⟨gb339, 0, none⟩ = some (.int .i64 0) := (blk_cell BK339.out 0).trans rfl; have hcz35_1 : w31.cell? ⟨gb339, 1, none⟩ = some (.int .i64 0) := (blk_cell BK339.out 1).trans rfl; have hcz35_2 : w31.cell? ⟨gb339, 2, none⟩ = some (.bool false) := (blk_cell BK339.out 2).trans rfl; have hfz35_0 := blk_frozen BK339.out 0; have hfz35_1 := blk_frozen BK339.out 1; have hfz35_2 := blk_frozen BK339.out 2))
            have n0_ : Aside0 ((((w31.setCell ⟨gb339, 0, none⟩ (.int .i64 t335)).setCell ⟨gb339, 1, none⟩ (.int .i64 t336)).setCell ⟨gb339, 2, none⟩ (.bool t337)).heap[gb326]? = some (.cells #[.int .i64 a0_0, .int .i64 a0_1, .int .i64 a0_2, .int .i64 a0_3] 37 (0, 0))) := ⟨by (with_reducible repeat (first | refine blk_drewN ?_ _ | refine blk_drew ?_ | refine blk_alloc ?_ _)); refine blk_far ?_ NB326_339.out _; (with_reducible repeat (first | refine blk_drewN ?_ _ | refine blk_drew ?_ | refine blk_alloc ?_ _)); refine blk_far ?_ NB326_339.out _; (with_reducible repeat (first | refine blk_drewN ?_ _ | refine blk_drew ?_ | refine blk_alloc ?_ _)); refine blk_far ?_ NB326_339.out _; (with_reducible repeat (first | refine blk_drewN ?_ _ | refine blk_drew ?_ | refine blk_alloc ?_ _)); exact BK326.out⟩
            have n1_ : Aside0 ((((w31.setCell ⟨gb339, 0, none⟩ (.int .i64 t335)).setCell ⟨gb339, 1, none⟩ (.int .i64 t336)).setCell ⟨gb339, 2, none⟩ (.bool t337)).heap[gb327]? = some (.cells #[.int .i64 a2_0, .int .i64 a2_1] 41 (0, 0))) := ⟨by (with_reducible repeat (first | refine blk_drewN ?_ _ | refine blk_drew ?_ | refine blk_alloc ?_ _)); refine blk_far ?_ NB327_339.out _; (with_reducible repeat (first | refine blk_drewN ?_ _ | refine blk_drew ?_ | refine blk_alloc ?_ _)); refine blk_far ?_ NB327_339.out _; (with_reducible repeat (first | refine blk_drewN ?_ _ | refine blk_drew ?_ | refine blk_alloc ?_ _)); refine blk_far ?_ NB327_339.out _; (with_reducible repeat (first | refine blk_drewN ?_ _ | refine blk_drew ?_ | refine blk_alloc ?_ _)); exact BK327.out⟩
            have n2_ : Aside0 ((((w31.setCell ⟨gb339, 0, none⟩ (.int .i64 t335)).setCell ⟨gb339, 1, none⟩ (.int .i64 t336)).setCell ⟨gb339, 2, none⟩ (.bool t337)).heap[gb334]? = some (.cells #[.int .i64 t330, .int .i64 t331, .bool t332] 43 (0, 0))) := ⟨by (with_reducible repeat (first | refine blk_drewN ?_ _ | refine blk_drew ?_ | refine blk_alloc ?_ _)); refine blk_far ?_ NB334_339.out _; (with_reducible repeat (first | refine blk_drewN ?_ _ | refine blk_drew ?_ | refine blk_alloc ?_ _)); refine blk_far ?_ NB334_339.out _; (with_reducible repeat (first | refine blk_drewN ?_ _ | refine blk_drew ?_ | refine blk_alloc ?_ _)); refine blk_far ?_ NB334_339.out _; (with_reducible repeat (first | refine blk_drewN ?_ _ | refine blk_drew ?_ | refine blk_alloc ?_ _)); exact BK334.out⟩
            have n3_ : Aside0 ((((w31.setCell ⟨gb339, 0, none⟩ (.int .i64 t335)).setCell ⟨gb339, 1, none⟩ (.int .i64 t336)).setCell ⟨gb339, 2, none⟩ (.bool t337)).heap[gb339]? = some (.cells #[.int .i64 t335, .int .i64 t336, .bool t337] 43 (0, 0))) := ⟨by (with_reducible repeat (first | refine blk_drewN ?_ _ | refine blk_drew ?_ | refine blk_alloc ?_ _)); refine blk_put (cs := #[.int .i64 t335, .int .i64 t336, .bool false]) ?_ 2 _ rfl; (with_reducible repeat (first | refine blk_drewN ?_ _ | refine blk_drew ?_ | refine blk_alloc ?_ _)); refine blk_put (cs := #[.int .i64 t335, .int .i64 0, .bool false]) ?_ 1 _ rfl; (with_reducible repeat (first | refine blk_drewN ?_ _ | refine blk_drew ?_ | refine blk_alloc ?_ _)); refine blk_put (cs := #[.int .i64 0, .int .i64 0, .bool false]) ?_ 0 _ rfl; (with_reducible repeat (first | refine blk_drewN ?_ _ | refine blk_drew ?_ | refine blk_alloc ?_ _)); exact BK339.out⟩
            have n4_ : Aside0 (Below w.heap.size w (((w31.setCell ⟨gb339, 0, none⟩ (.int .i64 t335)).setCell ⟨gb339, 1, none⟩ (.int .i64 t336)).setCell ⟨gb339, 2, none⟩ (.bool t337))) := ⟨by repeat (first | (with_reducible first | exact HB.out | apply below_alloc | apply pw_below_drewN | apply below_drew1 | refine below_set ?_ GE326.out | refine below_set ?_ GE327.out | refine below_set ?_ GE334.out | refine below_set ?_ GE339.out) | exact HB.out)⟩
            (try clear BK326)
            (try clear BK327)
            (try clear BK334)
            (try clear BK339)
            (try clear HB)
            generalize (((w31.setCell ⟨gb339, 0, none⟩ (.int .i64 t335)).setCell ⟨gb339, 1, none⟩ (.int .i64 t336)).setCell ⟨gb339, 2, none⟩ (.bool t337)) = w36 at n0_ n1_ n2_ n3_ n4_ ⊢
            have BK326 := n0_
            have BK327 := n1_
            have BK334 := n2_
            have BK339 := n3_
            have HB := n4_
            clear n0_ n1_ n2_ n3_ n4_
            have n0_ := Aside0.mk (blk_drew BK326.out)
            have n1_ := Aside0.mk (blk_drew BK327.out)
            have n2_ := Aside0.mk (blk_drew BK334.out)
            have n3_ := Aside0.mk (blk_drew BK339.out)
            have n4_ := Aside0.mk (below_drew1 HB.out)
            clear BK326
            clear BK327
            clear BK334
            clear BK339
            clear HB
            have BK326 := n0_
            have BK327 := n1_
            have BK334 := n2_
            have BK339 := n3_
            have HB := n4_
            clear n0_ n1_ n2_ n3_ n4_
            refine start_ (n := 26) (S := fun w' => w'.cell? ⟨gb334, 0, none⟩ = some (.int .i64 t330) ∧ w'.cell? ⟨gb334, 1, none⟩ = some (.int .i64 t331) ∧ w'.cell? ⟨gb334, 2, none⟩ = some (.bool t332) ∧ w'.cell? ⟨gb339, 0, none⟩ = some (.int .i64 t335) ∧ w'.cell? ⟨gb339, 1, none⟩ = some (.int .i64 t336) ∧ w'.cell? ⟨gb339, 2, none⟩ = some (.bool t337) ∧ w'.cell? ⟨gb326, 0, none⟩ = some (.int .i64 a0_0) ∧ w'.cell? ⟨gb326, 1, none⟩ = some (.int .i64 a0_1) ∧ w'.cell? ⟨gb326, 2, none⟩ = some (.int .i64 a0_2) ∧ w'.cell? ⟨gb326, 3, none⟩ = some (.int .i64 a0_3) ∧ w'.cell? ⟨gb327, 0, none⟩ = some (.int .i64 a2_0) ∧ w'.cell? ⟨gb327, 1, none⟩ = some (.int .i64 a2_1)) (ds := []) #[false, false, false, false, false, false, false, false, false, false, false, false, false, false, false, false, false, false, false, false, false, false, false, false, false, false] (by kernel_rfl) rfl rfl ⟨(blk_cell BK334.out 0).trans rfl, (blk_cell BK334.out 1).trans rfl, (blk_cell BK334.out 2).trans rfl, (blk_cell BK339.out 0).trans rfl, (blk_cell BK339.out 1).trans rfl, (blk_cell BK339.out 2).trans rfl, (blk_cell BK326.out 0).trans rfl, (blk_cell BK326.out 1).trans rfl, (blk_cell BK326.out 2).trans rfl, (blk_cell BK326.out 3).trans rfl, (blk_cell BK327.out 0).trans rfl, (blk_cell BK327.out 1).trans rfl⟩ (fun hHeld => ?_); refine with_tabW estoverslaw21_GrantShorts.tab5 estoverslaw21_GrantShorts.bits5 (fun HT_ HW_ => ?_)
            generalize w36.drew = w37 at BK326 BK327 BK334 BK339 HB hHeld ⊢
            refine take_ (i := 0) (N := some 39) (v := ?_) (a' := ?_) #[true, false, false, false, false, false, false, false, false, false, false, false, false, false, false, false, false, false, false, false, false, false, false, false, false, false] rfl rfl (take_ofW HT_.out HW_.out (by kernel_rfl)) (fun _ _ _ h => h) (Or.inl ⟨by rfl, ?_⟩) hHeld ?_ ?_
            rotate_left
            · rintro w' ⟨s0, s1, s2, s3, s4, s5, s6, s7, s8, s9, s10, s11⟩
              go_simp
              with_reducible rfl
            rotate_left
            · simp only [Act.put, List.setIfInBounds_toArray, List.set_cons_zero, List.set_cons_succ, i64_w, i32_w]
              rfl
            refine take_ (i := 1) (N := some 40) (v := ?_) (a' := ?_) #[true, true, false, false, false, false, false, false, false, false, false, false, false, false, false, false, false, false, false, false, false, false, false, false, false, false] rfl rfl (take_ofW HT_.out HW_.out (by kernel_rfl)) (fun _ _ _ h => h) (Or.inl ⟨by rfl, ?_⟩) hHeld ?_ ?_
            rotate_left
            · rintro w' ⟨s0, s1, s2, s3, s4, s5, s6, s7, s8, s9, s10, s11⟩
              go_simp
              with_reducible rfl
            rotate_left
            · simp only [Act.put, List.setIfInBounds_toArray, List.set_cons_zero, List.set_cons_succ, i64_w, i32_w]
              rfl
            refine pure_ (i := 2) (N := some 41) (v := ?_) (a' := ?_) #[true, true, true, false, false, false, false, false, false, false, false, false, false, false, false, false, false, false, false, false, false, false, false, false, false, false] rfl rfl (any_of HT_.out (by kernel_rfl)) (fun _ _ _ h => h) (Or.inl ⟨by rfl, ?_⟩) ?_ ?_
            rotate_left
            · intro w'
              go_simp
              with_reducible rfl
            rotate_left
            · simp only [Act.put, List.setIfInBounds_toArray, List.set_cons_zero, List.set_cons_succ, i64_w, i32_w]
              rfl
            refine pure_ (i := 3) (N := some 42) (v := ?_) (a' := ?_) #[true, true, true, true, false, false, false, false, false, false, false, false, false, false, false, false, false, false, false, false, false, false, false, false, false, false] rfl rfl (any_of HT_.out (by kernel_rfl)) (fun _ _ _ h => h) (Or.inl ⟨by rfl, ?_⟩) ?_ ?_
            rotate_left
            · intro w'
              go_simp
              with_reducible rfl
            rotate_left
            · simp only [Act.put, List.setIfInBounds_toArray, List.set_cons_zero, List.set_cons_succ, i64_w, i32_w]
              rfl
            refine pure_ (i := 4) (N := some 43) (v := ?_) (a' := ?_) #[true, true, true, true, true, false, false, false, false, false, false, false, false, false, false, false, false, false, false, false, false, false, false, false, false, false] rfl rfl (any_of HT_.out (by kernel_rfl)) (fun _ _ _ h => h) (Or.inl ⟨by rfl, ?_⟩) ?_ ?_
            rotate_left
            · intro w'
              go_simp
              with_reducible rfl
            rotate_left
            · simp only [Act.put, List.setIfInBounds_toArray, List.set_cons_zero, List.set_cons_succ, i64_w, i32_w]
              rfl
            refine pure_ (i := 5) (N := some 44) (v := ?_) (a' := ?_) #[true, true, true, true, true, true, false, false, false, false, false, false, false, false, false, false, false, false, false, false, false, false, false, false, false, false] rfl rfl (any_of HT_.out (by kernel_rfl)) (fun _ _ _ h => h) (Or.inl ⟨by rfl, ?_⟩) ?_ ?_
            rotate_left
            · intro w'
              go_simp
              with_reducible rfl
            rotate_left
            · simp only [Act.put, List.setIfInBounds_toArray, List.set_cons_zero, List.set_cons_succ, i64_w, i32_w]
              rfl
            refine pure_ (i := 6) (N := some 45) (v := ?_) (a' := ?_) #[true, true, true, true, true, true, true, false, false, false, false, false, false, false, false, false, false, false, false, false, false, false, false, false, false, false] rfl rfl (any_of HT_.out (by kernel_rfl)) (fun _ _ _ h => h) (Or.inl ⟨by rfl, ?_⟩) ?_ ?_
            rotate_left
            · intro w'
              go_simp
              with_reducible rfl
            rotate_left
            · simp only [Act.put, List.setIfInBounds_toArray, List.set_cons_zero, List.set_cons_succ, i64_w, i32_w]
              rfl
            refine pure_ (i := 7) (N := some 46) (v := ?_) (a' := ?_) #[true, true, true, true, true, true, true, true, false, false, false, false, false, false, false, false, false, false, false, false, false, false, false, false, false, false] rfl rfl (any_of HT_.out (by kernel_rfl)) (fun _ _ _ h => h) (Or.inl ⟨by rfl, ?_⟩) ?_ ?_
            rotate_left
            · intro w'
              go_simp
              with_reducible rfl
            rotate_left
            · simp only [Act.put, List.setIfInBounds_toArray, List.set_cons_zero, List.set_cons_succ, i64_w, i32_w]
              rfl
            refine pure_ (i := 8) (N := some 47) (v := ?_) (a' := ?_) #[true, true, true, true, true, true, true, true, true, false, false, false, false, false, false, false, false, false, false, false, false, false, false, false, false, false] rfl rfl (any_of HT_.out (by kernel_rfl)) (fun _ _ _ h => h) (Or.inl ⟨by rfl, ?_⟩) ?_ ?_
            rotate_left
            · intro w'
              go_simp
              with_reducible rfl
            rotate_left
            · simp only [Act.put, List.setIfInBounds_toArray, List.set_cons_zero, List.set_cons_succ, i64_w, i32_w]
              rfl
            refine pure_ (i := 10) (N := some 49) (v := ?_) (a' := ?_) #[true, true, true, true, true, true, true, true, true, false, true, false, false, false, false, false, false, false, false, false, false, false, false, false, false, false] rfl rfl (any_of HT_.out (by kernel_rfl)) (fun _ _ _ h => h) (Or.inl ⟨by rfl, ?_⟩) ?_ ?_
            rotate_left
            · intro w'
              go_simp
              with_reducible rfl
            rotate_left
            · simp only [Act.put, List.setIfInBounds_toArray, List.set_cons_zero, List.set_cons_succ, i64_w, i32_w]
              rfl
            refine pure_ (i := 11) (N := some 50) (v := ?_) (a' := ?_) #[true, true, true, true, true, true, true, true, true, false, true, true, false, false, false, false, false, false, false, false, false, false, false, false, false, false] rfl rfl (any_of HT_.out (by kernel_rfl)) (fun _ _ _ h => h) (Or.inl ⟨by rfl, ?_⟩) ?_ ?_
            rotate_left
            · intro w'
              go_simp
              with_reducible rfl
            rotate_left
            · simp only [Act.put, List.setIfInBounds_toArray, List.set_cons_zero, List.set_cons_succ, i64_w, i32_w]
              rfl
            refine pure_ (i := 13) (N := some 52) (v := ?_) (a' := ?_) #[true, true, true, true, true, true, true, true, true, false, true, true, false, true, false, false, false, false, false, false, false, false, false, false, false, false] rfl rfl (any_of HT_.out (by kernel_rfl)) (fun _ _ _ h => h) (Or.inl ⟨by rfl, ?_⟩) ?_ ?_
            rotate_left
            · intro w'
              go_simp
              with_reducible rfl
            rotate_left
            · simp only [Act.put, List.setIfInBounds_toArray, List.set_cons_zero, List.set_cons_succ, i64_w, i32_w]
              rfl
            refine pure_ (i := 17) (N := some 56) (v := ?_) (a' := ?_) #[true, true, true, true, true, true, true, true, true, false, true, true, false, true, false, false, false, true, false, false, false, false, false, false, false, false] rfl rfl (any_of HT_.out (by kernel_rfl)) (fun _ _ _ h => h) (Or.inl ⟨by rfl, ?_⟩) ?_ ?_
            rotate_left
            · intro w'
              go_simp
              with_reducible rfl
            rotate_left
            · simp only [Act.put, List.setIfInBounds_toArray, List.set_cons_zero, List.set_cons_succ, i64_w, i32_w]
              rfl
            refine pure_ (i := 18) (N := some 57) (v := ?_) (a' := ?_) #[true, true, true, true, true, true, true, true, true, false, true, true, false, true, false, false, false, true, true, false, false, false, false, false, false, false] rfl rfl (any_of HT_.out (by kernel_rfl)) (fun _ _ _ h => h) (Or.inl ⟨by rfl, ?_⟩) ?_ ?_
            rotate_left
            · intro w'
              go_simp
              with_reducible rfl
            rotate_left
            · simp only [Act.put, List.setIfInBounds_toArray, List.set_cons_zero, List.set_cons_succ, i64_w, i32_w]
              rfl
            refine pure_ (i := 20) (N := some 59) (v := ?_) (a' := ?_) #[true, true, true, true, true, true, true, true, true, false, true, true, false, true, false, false, false, true, true, false, true, false, false, false, false, false] rfl rfl (any_of HT_.out (by kernel_rfl)) (fun _ _ _ h => h) (Or.inl ⟨by rfl, ?_⟩) ?_ ?_
            rotate_left
            · intro w'
              go_simp
              with_reducible rfl
            rotate_left
            · simp only [Act.put, List.setIfInBounds_toArray, List.set_cons_zero, List.set_cons_succ, i64_w, i32_w]
              rfl
            refine take_ (i := 9) (N := some 48) (v := ?_) (a' := ?_) #[true, true, true, true, true, true, true, true, true, true, true, true, false, true, false, false, false, true, true, false, true, false, false, false, false, false] rfl rfl (take_ofW HT_.out HW_.out (by kernel_rfl)) (fun _ _ _ h => h) (Or.inl ⟨by rfl, ?_⟩) hHeld ?_ ?_
            rotate_left
            · rintro w' ⟨s0, s1, s2, s3, s4, s5, s6, s7, s8, s9, s10, s11⟩
              go_simp
              with_reducible rfl
            rotate_left
            · simp only [Act.put, List.setIfInBounds_toArray, List.set_cons_zero, List.set_cons_succ, i64_w, i32_w]
              rfl
            refine take_ (i := 12) (N := some 51) (v := ?_) (a' := ?_) #[true, true, true, true, true, true, true, true, true, true, true, true, true, true, false, false, false, true, true, false, true, false, false, false, false, false] rfl rfl (take_ofW HT_.out HW_.out (by kernel_rfl)) (fun _ _ _ h => h) (Or.inl ⟨by rfl, ?_⟩) hHeld ?_ ?_
            rotate_left
            · rintro w' ⟨s0, s1, s2, s3, s4, s5, s6, s7, s8, s9, s10, s11⟩
              go_simp
              with_reducible rfl
            rotate_left
            · simp only [Act.put, List.setIfInBounds_toArray, List.set_cons_zero, List.set_cons_succ, i64_w, i32_w]
              rfl
            refine take_ (i := 14) (N := some 53) (v := ?_) (a' := ?_) #[true, true, true, true, true, true, true, true, true, true, true, true, true, true, true, false, false, true, true, false, true, false, false, false, false, false] rfl rfl (take_ofW HT_.out HW_.out (by kernel_rfl)) (fun _ _ _ h => h) (Or.inl ⟨by rfl, ?_⟩) hHeld ?_ ?_
            rotate_left
            · rintro w' ⟨s0, s1, s2, s3, s4, s5, s6, s7, s8, s9, s10, s11⟩
              go_simp
              with_reducible rfl
            rotate_left
            · simp only [Act.put, List.setIfInBounds_toArray, List.set_cons_zero, List.set_cons_succ, i64_w, i32_w]
              rfl
            refine take_ (i := 16) (N := some 55) (v := ?_) (a' := ?_) #[true, true, true, true, true, true, true, true, true, true, true, true, true, true, true, false, true, true, true, false, true, false, false, false, false, false] rfl rfl (take_ofW HT_.out HW_.out (by kernel_rfl)) (fun _ _ _ h => h) (Or.inl ⟨by rfl, ?_⟩) hHeld ?_ ?_
            rotate_left
            · rintro w' ⟨s0, s1, s2, s3, s4, s5, s6, s7, s8, s9, s10, s11⟩
              go_simp
              with_reducible rfl
            rotate_left
            · simp only [Act.put, List.setIfInBounds_toArray, List.set_cons_zero, List.set_cons_succ, i64_w, i32_w]
              rfl
            refine take_ (i := 19) (N := some 58) (v := ?_) (a' := ?_) #[true, true, true, true, true, true, true, true, true, true, true, true, true, true, true, false, true, true, true, true, true, false, false, false, false, false] rfl rfl (take_ofW HT_.out HW_.out (by kernel_rfl)) (fun _ _ _ h => h) (Or.inl ⟨by rfl, ?_⟩) hHeld ?_ ?_
            rotate_left
            · rintro w' ⟨s0, s1, s2, s3, s4, s5, s6, s7, s8, s9, s10, s11⟩
              go_simp
              with_reducible rfl
            rotate_left
            · simp only [Act.put, List.setIfInBounds_toArray, List.set_cons_zero, List.set_cons_succ, i64_w, i32_w]
              rfl
            refine take_ (i := 21) (N := some 60) (v := ?_) (a' := ?_) #[true, true, true, true, true, true, true, true, true, true, true, true, true, true, true, false, true, true, true, true, true, true, false, false, false, false] rfl rfl (take_ofW HT_.out HW_.out (by kernel_rfl)) (fun _ _ _ h => h) (Or.inl ⟨by rfl, ?_⟩) hHeld ?_ ?_
            rotate_left
            · rintro w' ⟨s0, s1, s2, s3, s4, s5, s6, s7, s8, s9, s10, s11⟩
              go_simp
              with_reducible rfl
            rotate_left
            · simp only [Act.put, List.setIfInBounds_toArray, List.set_cons_zero, List.set_cons_succ, i64_w, i32_w]
              rfl
            refine one_ (i := 15) (N := some 54) #[true, true, true, true, true, true, true, true, true, true, true, true, true, true, true, true, true, true, true, true, true, true, false, false, false, false] rfl rfl (one_of HT_.out (by kernel_rfl)) (by decide) (fun K hK => ?_)
            refine goes_ Try.func14 (by kernel_rfl) rfl #[.agg #[.int .i64 a0_0, .int .i64 a0_1, .int .i64 a0_2, .int .i64 a0_3], .slice A1 l1.length c1, .int .i64 a2_0, .int .i64 a2_1] (by rfl) rfl rfl (by (try simp only [List.map_toArray, List.map_cons, List.map_nil]); first | done | rfl | (simp only [List.length_drop, List.length_take]; rfl)) ?_
            with_reducible refine (grant_Hopeless.calls kj3 a0_0 a0_1 a0_2 a0_3 _ _ l1 a2_0 a2_1 t340 _ ?side1 ?side2 A18.out).mono ?_
            (case side1 => repeat (first | exact (Kd.C_below HR1.out HB.out) | (with_reducible refine Kd.C_alloc ?_ _) | (with_reducible refine Kd.C_drewN ?_ _) | (with_reducible refine Kd.C_drew ?_)))
            (case side2 => exact HC1.out)
            rintro e w38 ⟨rfl, hb⟩
            refine ⟨_, rfl, ?_⟩
            have n0_ := Aside0.mk (blk_below (g := gb326) (o := .cells #[.int .i64 a0_0, .int .i64 a0_1, .int .i64 a0_2, .int .i64 a0_3] 37 (0, 0)) (by (with_reducible repeat (first | refine blk_drewN ?_ _ | refine blk_drew ?_ | refine blk_alloc ?_ _)); exact BK326.out) hb)
            have n1_ := Aside0.mk (blk_below (g := gb327) (o := .cells #[.int .i64 a2_0, .int .i64 a2_1] 41 (0, 0)) (by (with_reducible repeat (first | refine blk_drewN ?_ _ | refine blk_drew ?_ | refine blk_alloc ?_ _)); exact BK327.out) hb)
            have n2_ := Aside0.mk (blk_below (g := gb334) (o := .cells #[.int .i64 t330, .int .i64 t331, .bool t332] 43 (0, 0)) (by (with_reducible repeat (first | refine blk_drewN ?_ _ | refine blk_drew ?_ | refine blk_alloc ?_ _)); exact BK334.out) hb)
            have n3_ := Aside0.mk (blk_below (g := gb339) (o := .cells #[.int .i64 t335, .int .i64 t336, .bool t337] 43 (0, 0)) (by (with_reducible repeat (first | refine blk_drewN ?_ _ | refine blk_drew ?_ | refine blk_alloc ?_ _)); exact BK339.out) hb)
            have n4_ := Aside0.mk (below_step (by repeat (first | (with_reducible first | exact HB.out | apply below_alloc | apply pw_below_drewN | apply below_drew1 | refine below_set ?_ GE326.out | refine below_set ?_ GE327.out | refine below_set ?_ GE334.out | refine below_set ?_ GE339.out) | exact HB.out)) hb)
            clear BK326
            clear BK327
            clear BK334
            clear BK339
            clear HB
            have BK326 := n0_
            have BK327 := n1_
            have BK334 := n2_
            have BK339 := n3_
            have HB := n4_
            clear n0_ n1_ n2_ n3_ n4_
            (try clear hb)
            (try clear hb2)
            (try clear hk)
            (try clear hi)
            refine hK.out _ _ ⟨(blk_cell BK334.out 0).trans rfl, (blk_cell BK334.out 1).trans rfl, (blk_cell BK334.out 2).trans rfl, (blk_cell BK339.out 0).trans rfl, (blk_cell BK339.out 1).trans rfl, (blk_cell BK339.out 2).trans rfl, (blk_cell BK326.out 0).trans rfl, (blk_cell BK326.out 1).trans rfl, (blk_cell BK326.out 2).trans rfl, (blk_cell BK326.out 3).trans rfl, (blk_cell BK327.out 0).trans rfl, (blk_cell BK327.out 1).trans rfl⟩ (fun hHeld => ?_)
            clear hK K
            refine norm_ (a' := ?_) ?_ ?_
            rotate_left
            · show Act.put _ (some 54) _ = _
              simp only [Act.put, List.setIfInBounds_toArray, List.set_cons_zero, List.set_cons_succ, i64_w, i32_w]
              rfl
            refine one_ (i := 22) (N := some 61) #[true, true, true, true, true, true, true, true, true, true, true, true, true, true, true, true, true, true, true, true, true, true, true, false, false, false] rfl rfl (one_of HT_.out (by kernel_rfl)) (by decide) (fun K hK => ?_)
            refine goes_ Try.func18 (by kernel_rfl) rfl #[.agg #[.int .i64 a0_0, .int .i64 a0_1, .int .i64 a0_2, .int .i64 a0_3], .slice A1 l1.length c1, .int .i64 a2_0, .int .i64 a2_1] (by rfl) rfl rfl (by (try simp only [List.map_toArray, List.map_cons, List.map_nil]); first | done | rfl | (simp only [List.length_drop, List.length_take]; rfl)) ?_
            with_reducible refine (estoversref21_Hopeless.calls kj3 a0_0 a0_1 a0_2 a0_3 _ _ l1 a2_0 a2_1 t341 _ ?side1 ?side2 A19.out).mono ?_
            (case side1 => repeat (first | exact (Kd.C_below HR1.out HB.out) | (with_reducible refine Kd.C_alloc ?_ _) | (with_reducible refine Kd.C_drewN ?_ _) | (with_reducible refine Kd.C_drew ?_)))
            (case side2 => exact HC1.out)
            rintro e w39 ⟨rfl, hb⟩
            refine ⟨_, rfl, ?_⟩
            have n0_ := Aside0.mk (blk_below (g := gb326) (o := .cells #[.int .i64 a0_0, .int .i64 a0_1, .int .i64 a0_2, .int .i64 a0_3] 37 (0, 0)) (by (with_reducible repeat (first | refine blk_drewN ?_ _ | refine blk_drew ?_ | refine blk_alloc ?_ _)); exact BK326.out) hb)
            have n1_ := Aside0.mk (blk_below (g := gb327) (o := .cells #[.int .i64 a2_0, .int .i64 a2_1] 41 (0, 0)) (by (with_reducible repeat (first | refine blk_drewN ?_ _ | refine blk_drew ?_ | refine blk_alloc ?_ _)); exact BK327.out) hb)
            have n2_ := Aside0.mk (blk_below (g := gb334) (o := .cells #[.int .i64 t330, .int .i64 t331, .bool t332] 43 (0, 0)) (by (with_reducible repeat (first | refine blk_drewN ?_ _ | refine blk_drew ?_ | refine blk_alloc ?_ _)); exact BK334.out) hb)
            have n3_ := Aside0.mk (blk_below (g := gb339) (o := .cells #[.int .i64 t335, .int .i64 t336, .bool t337] 43 (0, 0)) (by (with_reducible repeat (first | refine blk_drewN ?_ _ | refine blk_drew ?_ | refine blk_alloc ?_ _)); exact BK339.out) hb)
            have n4_ := Aside0.mk (below_step (by repeat (first | (with_reducible first | exact HB.out | apply below_alloc | apply pw_below_drewN | apply below_drew1 | refine below_set ?_ GE326.out | refine below_set ?_ GE327.out | refine below_set ?_ GE334.out | refine below_set ?_ GE339.out) | exact HB.out)) hb)
            clear BK326
            clear BK327
            clear BK334
            clear BK339
            clear HB
            have BK326 := n0_
            have BK327 := n1_
            have BK334 := n2_
            have BK339 := n3_
            have HB := n4_
            clear n0_ n1_ n2_ n3_ n4_
            (try clear hb)
            (try clear hb2)
            (try clear hk)
            (try clear hi)
            refine hK.out _ _ ⟨(blk_cell BK334.out 0).trans rfl, (blk_cell BK334.out 1).trans rfl, (blk_cell BK334.out 2).trans rfl, (blk_cell BK339.out 0).trans rfl, (blk_cell BK339.out 1).trans rfl, (blk_cell BK339.out 2).trans rfl, (blk_cell BK326.out 0).trans rfl, (blk_cell BK326.out 1).trans rfl, (blk_cell BK326.out 2).trans rfl, (blk_cell BK326.out 3).trans rfl, (blk_cell BK327.out 0).trans rfl, (blk_cell BK327.out 1).trans rfl⟩ (fun hHeld => ?_)
            clear hK K
            refine norm_ (a' := ?_) ?_ ?_
            rotate_left
            · show Act.put _ (some 61) _ = _
              simp only [Act.put, List.setIfInBounds_toArray, List.set_cons_zero, List.set_cons_succ, i64_w, i32_w]
              rfl
            refine pure_ (i := 23) (N := some 62) (v := ?_) (a' := ?_) #[true, true, true, true, true, true, true, true, true, true, true, true, true, true, true, true, true, true, true, true, true, true, true, true, false, false] rfl rfl (any_of HT_.out (by kernel_rfl)) (fun _ _ _ h => h) (Or.inl ⟨by rfl, ?_⟩) ?_ ?_
            rotate_left
            · intro w'
              go_simp
              with_reducible rfl
            rotate_left
            · simp only [Act.put, List.setIfInBounds_toArray, List.set_cons_zero, List.set_cons_succ, i64_w, i32_w]
              rfl
            refine pure_ (i := 24) (N := some 63) (v := ?_) (a' := ?_) #[true, true, true, true, true, true, true, true, true, true, true, true, true, true, true, true, true, true, true, true, true, true, true, true, true, false] rfl rfl (any_of HT_.out (by kernel_rfl)) (fun _ _ _ h => h) (Or.inl ⟨by rfl, ?_⟩) ?_ ?_
            rotate_left
            · intro w'
              go_simp
              with_reducible rfl
            rotate_left
            · simp only [Act.put, List.setIfInBounds_toArray, List.set_cons_zero, List.set_cons_succ, i64_w, i32_w]
              rfl
            refine pure_ (i := 25) (N := some 6) (v := ?_) (a' := ?_) #[true, true, true, true, true, true, true, true, true, true, true, true, true, true, true, true, true, true, true, true, true, true, true, true, true, true] rfl rfl (any_of HT_.out (by kernel_rfl)) (fun _ _ _ h => h) (Or.inl ⟨by rfl, ?_⟩) ?_ ?_
            rotate_left
            · intro w'
              go_simp
              with_reducible rfl
            rotate_left
            · simp only [Act.put, List.setIfInBounds_toArray, List.set_cons_zero, List.set_cons_succ, i64_w, i32_w]
              rfl
            refine done_ (done_of HT_.out (by kernel_rfl)) ?_
            try go_wp2
            go_ret
            exact ⟨by first | rfl | (simp [errW_none, errW_some] <;> rfl) | (simp [*, errW_none, errW_some] <;> rfl), by repeat (first | (with_reducible first | exact HB.out | apply below_alloc | apply pw_below_drewN | apply below_drew1 | refine below_set ?_ GE326.out | refine below_set ?_ GE327.out | refine below_set ?_ GE334.out | refine below_set ?_ GE339.out) | exact HB.out)⟩
          · rw [if_neg c17] at H
            exact absurd H (by simp)
        · rw [if_neg c16] at H
          exact absurd H (by simp)

end Go.Proofs.Ytimlodcdfekbhaa.PGrantShorts
