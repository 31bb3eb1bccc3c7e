-- Printed by a copy of the kit's printer that this session has patched (wip/tools/patch_print.py): the session's own text. Lean checks it.
import Derived.Test.YtimlodcdfekbhaaPGrantFifox0
import Derived.Test.YtimlodcdfekbhaaPGrantFifox3
import Derived.Test.YtimlodcdfekbhaaPGrantFifox5
import Derived.Test.YtimlodcdfekbhaaPGrantFifox7
import Derived.Test.YtimlodcdfekbhaaPGrantFifox8
namespace Go.Proofs.Ytimlodcdfekbhaa.PGrantFifo
open Go.RowKit Go.Proofs.YtimlodcdfekbhaaW.PrintWords Go.Proofs.YtimlodcdfekbhaaW.PrintLast Go.Proofs.YtimlodcdfekbhaaW.PrintMore
attribute [local go_sem] max2_int min2_int max_two min_two max_three min_three max_four min_four   -- for this text's walks alone
set_option linter.unusedVariables false
set_option linter.unusedSimpArgs false

/-! ### estoverslaw21_GrantFifo: function 9 -/
mutual
def estoverslaw21_GrantFifo.j0 : Nat → List (S37) → List (S59) → Bool → Int → Int → Option (Bool)
  | 0, _, _, _, _, _ => none
  | k + 1, x0, x1, x27, x289000, x289001 => if x27 = true then ((estoverslaw21_awake.f k).bind fun t292 => (some t292)) else ((estoverslaw21_served.f k x0 x1 x289000 x289001).bind fun bt293 => (if bt293.2.2.2.2 = true then ((accounts_Check.f k bt293.2.2.2.1).bind fun t300 => (if t300 = 0 then ((accounts_Total.f k bt293.2.2.2.1).bind fun t301 => ((accounts_Total.f k x1).bind fun t302 => (estoverslaw21_GrantFifo.j1 k x0 x1 bt293.1 bt293.2.1 bt293.2.2.1 bt293.2.2.2.1 (t301 != (wrap64 (t302 + bt293.2.2.1))) x289000 x289001))) else (estoverslaw21_GrantFifo.j1 k x0 x1 bt293.1 bt293.2.1 bt293.2.2.1 bt293.2.2.2.1 true x289000 x289001))) else (estoverslaw21_GrantFifo.j1 k x0 x1 bt293.1 bt293.2.1 bt293.2.2.1 bt293.2.2.2.1 true x289000 x289001)))
def estoverslaw21_GrantFifo.j1 : Nat → List (S37) → List (S59) → Int → Int → Int → List (S59) → Bool → Int → Int → Option (Bool)
  | 0, _, _, _, _, _, _, _, _, _ => none
  | k + 1, x0, x1, x7, x8, x9, x10, x57, x289000, x289001 => if x57 = true then (none) else (if x7 > 0 then (if x8 > x289000 then (estoverslaw21_GrantFifo.j2 k x0 x1 x7 x8 x9 x10 true x289000 x289001) else (estoverslaw21_GrantFifo.j2 k x0 x1 x7 x8 x9 x10 (decide (x9 > x289001)) x289000 x289001)) else (estoverslaw21_GrantFifo.j2 k x0 x1 x7 x8 x9 x10 false x289000 x289001))
def estoverslaw21_GrantFifo.j2 : Nat → List (S37) → List (S59) → Int → Int → Int → List (S59) → Bool → Int → Int → Option (Bool)
  | 0, _, _, _, _, _, _, _, _, _ => none
  | k + 1, x0, x1, x7, x8, x9, x10, x71, x289000, x289001 => if x71 = true then (none) else (if x7 = (x0.length : Int) then (some true) else (if 0 ≤ x7 then (if x7 < (x0.length : Int) then ((grant_Short.f k ((rd_T37 x0 x7).f0) ((rd_T37 x0 x7).f1) ((rd_T37 x0 x7).f2) ((rd_T37 x0 x7).f3) x10 (wrap64 (x289000 - x8)) (wrap64 (x289001 - x9))).bind fun bt304 => (if x289000 < 0 then (if 0 < (x0.length : Int) then ((grant_Short.f k ((rd_T37 x0 0).f0) ((rd_T37 x0 0).f1) ((rd_T37 x0 0).f2) ((rd_T37 x0 0).f3) x1 x289000 x289001).bind fun bt310 => (if bt310.2.2.2 = 0 then (some (decide (bt310.1 > 0))) else (none))) else (none)) else (if x289001 < 0 then (if 0 < (x0.length : Int) then ((grant_Short.f k ((rd_T37 x0 0).f0) ((rd_T37 x0 0).f1) ((rd_T37 x0 0).f2) ((rd_T37 x0 0).f3) x1 x289000 x289001).bind fun bt315 => (if bt315.2.2.2 = 0 then (some (decide (bt315.1 > 0))) else (none))) else (none)) else (if bt304.2.2.2 = 0 then (some (decide (bt304.1 > 0))) else (none))))) else (none)) else (none)))
end
def estoverslaw21_GrantFifo.f (k : Nat) (l0 : List (S37)) (l1 : List (S59)) (a2_0 : Int) (a2_1 : Int) : Option (Bool) := (estoverslaw21_awake.f k).bind fun t289 => (if t289 = true then ((estoverslaw21_few.f l0 l1).bind fun t290 => (if t290 = true then ((estoverslaw21_valid.f k l0 l1).bind fun t291 => (estoverslaw21_GrantFifo.j0 k l0 l1 (!t291) a2_0 a2_1)) else (estoverslaw21_GrantFifo.j0 k l0 l1 true a2_0 a2_1))) else (estoverslaw21_GrantFifo.j0 k l0 l1 true a2_0 a2_1))
theorem estoverslaw21_GrantFifo.mono_l : ∀ k, (∀ y0 y1 y2 y3 y4, LeO (estoverslaw21_GrantFifo.j0 k y0 y1 y2 y3 y4) (estoverslaw21_GrantFifo.j0 (k + 1) y0 y1 y2 y3 y4)) ∧ (∀ y0 y1 y2 y3 y4 y5 y6 y7 y8, LeO (estoverslaw21_GrantFifo.j1 k y0 y1 y2 y3 y4 y5 y6 y7 y8) (estoverslaw21_GrantFifo.j1 (k + 1) y0 y1 y2 y3 y4 y5 y6 y7 y8)) ∧ (∀ y0 y1 y2 y3 y4 y5 y6 y7 y8, LeO (estoverslaw21_GrantFifo.j2 k y0 y1 y2 y3 y4 y5 y6 y7 y8) (estoverslaw21_GrantFifo.j2 (k + 1) y0 y1 y2 y3 y4 y5 y6 y7 y8))
  | 0 => ⟨fun _ _ _ _ _ r h => by simp [estoverslaw21_GrantFifo.j0] at h, fun _ _ _ _ _ _ _ _ _ r h => by simp [estoverslaw21_GrantFifo.j1] at h, fun _ _ _ _ _ _ _ _ _ r h => by simp [estoverslaw21_GrantFifo.j2] at h⟩
  | k + 1 => by
    obtain ⟨ih0, ih1, ih2⟩ := estoverslaw21_GrantFifo.mono_l k
    refine ⟨?_, ?_, ?_⟩
    · intro y0 y1 y2 y3 y4
      unfold estoverslaw21_GrantFifo.j0
      repeat' first
      | (with_reducible exact ih0 _ _ _ _ _)
      | (with_reducible exact ih1 _ _ _ _ _ _ _ _ _)
      | (with_reducible exact ih2 _ _ _ _ _ _ _ _ _)
      | (with_reducible exact accounts_Check.mono _ _)
      | (with_reducible exact accounts_Total.mono _ _)
      | (with_reducible exact estoverslaw21_awake.mono _)
      | (with_reducible exact estoverslaw21_served.mono _ _ _ _ _)
      | (with_reducible exact estoverslaw21_valid.mono _ _ _)
      | (with_reducible exact grant_Short.mono _ _ _ _ _ _ _ _)
      | (with_reducible exact LeO.refl _)
      | (with_reducible exact LeO.none _)
      | (with_reducible refine LeO.ite ?_ ?_)
      | (with_reducible refine LeO.bind ?_ (fun _ => ?_))
      | exact ih0 _ _ _ _ _
      | exact ih1 _ _ _ _ _ _ _ _ _
      | exact ih2 _ _ _ _ _ _ _ _ _
      | exact accounts_Check.mono _ _
      | exact accounts_Total.mono _ _
      | exact estoverslaw21_awake.mono _
      | exact estoverslaw21_served.mono _ _ _ _ _
      | exact estoverslaw21_valid.mono _ _ _
      | exact grant_Short.mono _ _ _ _ _ _ _ _
      | exact LeO.none _
      | refine LeO.ite ?_ ?_
      | refine LeO.bind ?_ (fun _ => ?_)
    · intro y0 y1 y2 y3 y4 y5 y6 y7 y8
      unfold estoverslaw21_GrantFifo.j1
      repeat' first
      | (with_reducible exact ih0 _ _ _ _ _)
      | (with_reducible exact ih1 _ _ _ _ _ _ _ _ _)
      | (with_reducible exact ih2 _ _ _ _ _ _ _ _ _)
      | (with_reducible exact accounts_Check.mono _ _)
      | (with_reducible exact accounts_Total.mono _ _)
      | (with_reducible exact estoverslaw21_awake.mono _)
      | (with_reducible exact estoverslaw21_served.mono _ _ _ _ _)
      | (with_reducible exact estoverslaw21_valid.mono _ _ _)
      | (with_reducible exact grant_Short.mono _ _ _ _ _ _ _ _)
      | (with_reducible exact LeO.refl _)
      | (with_reducible exact LeO.none _)
      | (with_reducible refine LeO.ite ?_ ?_)
      | (with_reducible refine LeO.bind ?_ (fun _ => ?_))
      | exact ih0 _ _ _ _ _
      | exact ih1 _ _ _ _ _ _ _ _ _
      | exact ih2 _ _ _ _ _ _ _ _ _
      | exact accounts_Check.mono _ _
      | exact accounts_Total.mono _ _
      | exact estoverslaw21_awake.mono _
      | exact estoverslaw21_served.mono _ _ _ _ _
      | exact estoverslaw21_valid.mono _ _ _
      | exact grant_Short.mono _ _ _ _ _ _ _ _
      | exact LeO.none _
      | refine LeO.ite ?_ ?_
      | refine LeO.bind ?_ (fun _ => ?_)
    · intro y0 y1 y2 y3 y4 y5 y6 y7 y8
      unfold estoverslaw21_GrantFifo.j2
      repeat' first
      | (with_reducible exact ih0 _ _ _ _ _)
      | (with_reducible exact ih1 _ _ _ _ _ _ _ _ _)
      | (with_reducible exact ih2 _ _ _ _ _ _ _ _ _)
      | (with_reducible exact accounts_Check.mono _ _)
      | (with_reducible exact accounts_Total.mono _ _)
      | (with_reducible exact estoverslaw21_awake.mono _)
      | (with_reducible exact estoverslaw21_served.mono _ _ _ _ _)
      | (with_reducible exact estoverslaw21_valid.mono _ _ _)
      | (with_reducible exact grant_Short.mono _ _ _ _ _ _ _ _)
      | (with_reducible exact LeO.refl _)
      | (with_reducible exact LeO.none _)
      | (with_reducible refine LeO.ite ?_ ?_)
      | (with_reducible refine LeO.bind ?_ (fun _ => ?_))
      | exact ih0 _ _ _ _ _
      | exact ih1 _ _ _ _ _ _ _ _ _
      | exact ih2 _ _ _ _ _ _ _ _ _
      | exact accounts_Check.mono _ _
      | exact accounts_Total.mono _ _
      | exact estoverslaw21_awake.mono _
      | exact estoverslaw21_served.mono _ _ _ _ _
      | exact estoverslaw21_valid.mono _ _ _
      | exact grant_Short.mono _ _ _ _ _ _ _ _
      | exact LeO.none _
      | refine LeO.ite ?_ ?_
      | refine LeO.bind ?_ (fun _ => ?_)
theorem estoverslaw21_GrantFifo.mono : ∀ a0 a1 a2 a3 k, LeO (estoverslaw21_GrantFifo.f k a0 a1 a2 a3) (estoverslaw21_GrantFifo.f (k + 1) a0 a1 a2 a3) := by
  intro a0 a1 a2 a3 k
  obtain ⟨ih0, ih1, ih2⟩ := estoverslaw21_GrantFifo.mono_l k
  unfold estoverslaw21_GrantFifo.f
  repeat' first
      | (with_reducible exact ih0 _ _ _ _ _)
      | (with_reducible exact ih1 _ _ _ _ _ _ _ _ _)
      | (with_reducible exact ih2 _ _ _ _ _ _ _ _ _)
      | (with_reducible exact accounts_Check.mono _ _)
      | (with_reducible exact accounts_Total.mono _ _)
      | (with_reducible exact estoverslaw21_awake.mono _)
      | (with_reducible exact estoverslaw21_served.mono _ _ _ _ _)
      | (with_reducible exact estoverslaw21_valid.mono _ _ _)
      | (with_reducible exact grant_Short.mono _ _ _ _ _ _ _ _)
      | (with_reducible exact LeO.refl _)
      | (with_reducible exact LeO.none _)
      | (with_reducible refine LeO.ite ?_ ?_)
      | (with_reducible refine LeO.bind ?_ (fun _ => ?_))
      | exact ih0 _ _ _ _ _
      | exact ih1 _ _ _ _ _ _ _ _ _
      | exact ih2 _ _ _ _ _ _ _ _ _
      | exact accounts_Check.mono _ _
      | exact accounts_Total.mono _ _
      | exact estoverslaw21_awake.mono _
      | exact estoverslaw21_served.mono _ _ _ _ _
      | exact estoverslaw21_valid.mono _ _ _
      | exact grant_Short.mono _ _ _ _ _ _ _ _
      | exact LeO.none _
      | refine LeO.ite ?_ ?_
      | refine LeO.bind ?_ (fun _ => ?_)
def estoverslaw21_GrantFifo.T10 : Bool × List (List Nat × List Nat) := (true, [([], []), ([], []), ([0, 1], [0, 1]), ([2], [2]), ([], []), ([], []), ([5], [5]), ([], []), ([6, 7], [6, 7]), ([], []), ([9], [9]), ([], []), ([10, 11], [10, 11]), ([3, 4, 8, 12], [3, 4, 8, 12]), ([13], [13]), ([14], [14]), ([14], [14]), ([], []), ([17, 15, 13, 0, 1, 2, 3, 4, 5, 6, 7, 8, 9, 10, 11, 12, 13, 14, 15, 17], [15, 17]), ([16, 18, 0, 1, 2, 3, 4, 5, 6, 7, 8, 9, 10, 11, 12, 13, 14, 15, 16, 17, 18], [16])])
def estoverslaw21_GrantFifo.B10 : List Nat := [0, 0, 3, 7, 0, 0, 32, 0, 224, 0, 512, 0, 3584, 8191, 16383, 32767, 32767, 0, 196607, 524287]
theorem estoverslaw21_GrantFifo.tab10 : rtab .any (opsOf Try.f9 10) = estoverslaw21_GrantFifo.T10 := by kernel_rfl
theorem estoverslaw21_GrantFifo.bits10 : waitsOk estoverslaw21_GrantFifo.T10.2 estoverslaw21_GrantFifo.B10 = true := by kernel_rfl
def estoverslaw21_GrantFifo.T12 : Bool × List (List Nat × List Nat) := (true, [([], []), ([0], [0]), ([1], [1]), ([], []), ([], []), ([4], [4]), ([], []), ([6], [6]), ([2, 3, 5, 7], [2, 3, 5, 7]), ([8], [8]), ([9], [9]), ([9], [9]), ([10, 8, 0, 1, 2, 3, 4, 5, 6, 7, 8, 9, 10], [10]), ([11, 12, 0, 1, 2, 3, 4, 5, 6, 7, 8, 9, 10, 11, 12], [11])])
def estoverslaw21_GrantFifo.B12 : List Nat := [0, 1, 3, 0, 0, 16, 0, 64, 255, 511, 1023, 1023, 2047, 8191]
theorem estoverslaw21_GrantFifo.tab12 : rtab .any (opsOf Try.f9 12) = estoverslaw21_GrantFifo.T12 := by kernel_rfl
theorem estoverslaw21_GrantFifo.bits12 : waitsOk estoverslaw21_GrantFifo.T12.2 estoverslaw21_GrantFifo.B12 = true := by kernel_rfl
set_option maxHeartbeats 8000000 in
set_option maxRecDepth 100000 in
theorem estoverslaw21_GrantFifo.calls (k : Nat) (A0 : Option Addr) (c0 : Nat) (l0 : List (S37)) (A1 : Option Addr) (c1 : Nat) (l1 : List (S59)) (a2_0 : Int) (a2_1 : Int) (r : Bool) (w : World) (hr0 : Kd.C k37 w A0 l0.length l0) (hc0 : l0.length ≤ c0) (hr1 : Kd.C k59 w A1 l1.length l1) (hc1 : l1.length ≤ c1) (h : estoverslaw21_GrantFifo.f k l0 l1 a2_0 a2_1 = some r) :
    Calls Try.prog 9 #[.slice A0 l0.length c0, .slice A1 l1.length c1, .agg #[.int .i64 a2_0, .int .i64 a2_1]] w fun e w' => e = .returned (.bool r) ∧ Below w.heap.size w w' := by
  have hu41 := Try.underlying41
  have hu37 := Try.underlying37
  have hu43 := Try.underlying43
  have HR0 := Aside0.mk hr0
  have HC0 := Aside0.mk hc0
  clear hr0 hc0
  have HR1 := Aside0.mk hr1
  have HC1 := Aside0.mk hc1
  clear hr1 hc1
  have HB := Aside0.mk (Below.refl w.heap.size w)
  have H : ((estoverslaw21_awake.f k).bind fun t289 => (if t289 = true then ((estoverslaw21_few.f l0 l1).bind fun t290 => (if t290 = true then ((estoverslaw21_valid.f k l0 l1).bind fun t291 => (estoverslaw21_GrantFifo.j0 k l0 l1 (!t291) a2_0 a2_1)) else (estoverslaw21_GrantFifo.j0 k l0 l1 true a2_0 a2_1))) else (estoverslaw21_GrantFifo.j0 k l0 l1 true a2_0 a2_1))) = some r := h
  clear h
  have HC4 := Aside0.mk H
  clear H
  go_enter Try.func9, Try.ntmps9
  go_upto_region 1 with (first | ((with_reducible refine gate_dst (N := 5) rfl ?_); refine box_event ?hg (N := 5) ?hd (cs := #[.int .i64 a2_0, .int .i64 a2_1]) (t := 41) ?hr ?_; (case hd => rfl); (case hg => rfl); (case hr => first | (go_simp; done) | (go_simp; rfl)); intro gb288 hg w5 hbox hb; have n0_ := Aside0.mk (below_step (by repeat (first | (with_reducible first | exact HB.out | apply below_alloc | apply pw_below_drewN | apply below_drew1) | exact HB.out)) hb); have n1_ := Aside0.mk (hbox); have n2_ := Aside0.mk ((by rw [hg]; exact (below_size (by repeat (first | (with_reducible first | exact HB.out | apply below_alloc | apply pw_below_drewN | apply below_drew1) | exact HB.out))) : w.heap.size ≤ gb288)); have n3_ := Aside0.mk ((by rw [hg]; exact (below_size (by repeat (first | (with_reducible first | exact HB.out | apply below_alloc | apply pw_below_drewN | apply below_drew1) | exact HB.out))) : w.heap.size ≤ gb288)); clear HB; have HB := n0_; have BK288 := n1_; have GW288 := n2_; have GE288 := n3_; clear n0_ n1_ n2_ n3_; clear hb hbox hg))
  (try simp only [Act.put, List.setIfInBounds_toArray, List.set_cons_zero, List.set_cons_succ])
  go_cut [27] (fun v27 wc => ∃ (kq : Nat) (x27_3 : Bool), v27 = .bool x27_3 ∧ Aside0 (estoverslaw21_GrantFifo.j0 kq l0 l1 x27_3 a2_0 a2_1 = some r) ∧ Aside0 (kq ≤ k) ∧ Aside0 (wc.heap[gb288]? = some (.cells #[.int .i64 a2_0, .int .i64 a2_1] 41 (0, 0))) ∧ Aside0 (Below w.heap.size w wc))
  case first =>
    have H := HC4.out
    clear HC4
    replace H := Option.bind_eq_some_iff.mp H
    obtain ⟨t289, A60, H⟩ := H
    replace H : (if t289 = true then ((estoverslaw21_few.f l0 l1).bind fun t290 => (if t290 = true then ((estoverslaw21_valid.f k l0 l1).bind fun t291 => (estoverslaw21_GrantFifo.j0 k l0 l1 (!t291) a2_0 a2_1)) else (estoverslaw21_GrantFifo.j0 k l0 l1 true a2_0 a2_1))) else (estoverslaw21_GrantFifo.j0 k l0 l1 true a2_0 a2_1)) = some r := H
    have A6 := Aside0.mk A60
    clear A60
    by_cases c7 : t289 = true
    · subst c7
      have H1 : ((estoverslaw21_few.f l0 l1).bind fun t290 => (if t290 = true then ((estoverslaw21_valid.f k l0 l1).bind fun t291 => (estoverslaw21_GrantFifo.j0 k l0 l1 (!t291) a2_0 a2_1)) else (estoverslaw21_GrantFifo.j0 k l0 l1 true a2_0 a2_1))) = some r := by rw [if_pos rfl] at H; exact H
      clear H
      have H := H1
      clear H1
      replace H := Option.bind_eq_some_iff.mp H
      obtain ⟨t290, A80, H⟩ := H
      replace H : (if t290 = true then ((estoverslaw21_valid.f k l0 l1).bind fun t291 => (estoverslaw21_GrantFifo.j0 k l0 l1 (!t291) a2_0 a2_1)) else (estoverslaw21_GrantFifo.j0 k l0 l1 true a2_0 a2_1)) = some r := H
      have A8 := Aside0.mk A80
      clear A80
      by_cases c9 : t290 = true
      · subst c9
        have H1 : ((estoverslaw21_valid.f k l0 l1).bind fun t291 => (estoverslaw21_GrantFifo.j0 k l0 l1 (!t291) a2_0 a2_1)) = some r := by rw [if_pos rfl] at H; exact H
        clear H
        have H := H1
        clear H1
        replace H := Option.bind_eq_some_iff.mp H
        obtain ⟨t291, A100, H⟩ := H
        replace H : (estoverslaw21_GrantFifo.j0 k l0 l1 (!t291) a2_0 a2_1) = some r := H
        have A10 := Aside0.mk A100
        clear A100
        have H' := Aside0.mk H
        clear H
        go_wp2_with (first | ((with_reducible refine gate_callee (f := 15) rfl ?_); refine goesL_ (some 14) rfl rfl Try.func15 (by kernel_rfl) rfl #[] rfl (by (try simp only [List.map_toArray, List.map_cons, List.map_nil]); first | done | rfl | (simp only [List.length_drop, List.length_take]; rfl)) ?_; (with_reducible refine (estoverslaw21_awake.calls k  true _ A6.out).mono ?_); rintro e w11 ⟨rfl, hb⟩; refine ⟨_, rfl, ?_⟩; have n0_ := Aside0.mk (blk_below (g := gb288) (o := .cells #[.int .i64 a2_0, .int .i64 a2_1] 41 (0, 0)) (by (with_reducible repeat (first | refine blk_drewN ?_ _ | refine blk_drew ?_ | refine blk_alloc ?_ _)); exact BK288.out) hb); have n1_ := Aside0.mk (below_step (by repeat (first | (with_reducible first | exact HB.out | apply below_alloc | apply pw_below_drewN | apply below_drew1 | refine below_set ?_ GE288.out) | exact HB.out)) hb); clear BK288; clear HB; have BK288 := n0_; have HB := n1_; clear n0_ n1_; (try clear hb); (try clear hb2); (try clear hk); (try clear hi)) | (go_at_call 19; (with_reducible refine (estoverslaw21_few.calls _ _ l0 _ _ l1 true _ ?side1 ?side2 ?side3 ?side4 A8.out).mono ?_); (case side1 => repeat (first | exact (Kd.C_below HR0.out HB.out) | (with_reducible refine Kd.C_alloc ?_ _) | (with_reducible refine Kd.C_drewN ?_ _) | (with_reducible refine Kd.C_drew ?_))); (case side2 => exact HC0.out); (case side3 => repeat (first | exact (Kd.C_below HR1.out HB.out) | (with_reducible refine Kd.C_alloc ?_ _) | (with_reducible refine Kd.C_drewN ?_ _) | (with_reducible refine Kd.C_drew ?_))); (case side4 => exact HC1.out); rintro e w' ⟨rfl, ⟨nd, rfl⟩⟩) | (go_at_call 23; (with_reducible refine (estoverslaw21_valid.calls k _ _ l0 _ _ l1 t291 _ ?side1 ?side2 ?side3 ?side4 A10.out).mono ?_); (case side1 => repeat (first | exact (Kd.C_below HR0.out (by repeat (first | (with_reducible first | exact HB.out | apply below_alloc | apply pw_below_drewN | apply below_drew1 | refine below_set ?_ GE288.out) | exact HB.out))) | (with_reducible refine Kd.C_alloc ?_ _) | (with_reducible refine Kd.C_drewN ?_ _) | (with_reducible refine Kd.C_drew ?_))); (case side2 => exact HC0.out); (case side3 => repeat (first | exact (Kd.C_below HR1.out (by repeat (first | (with_reducible first | exact HB.out | apply below_alloc | apply pw_below_drewN | apply below_drew1 | refine below_set ?_ GE288.out) | exact HB.out))) | (with_reducible refine Kd.C_alloc ?_ _) | (with_reducible refine Kd.C_drewN ?_ _) | (with_reducible refine Kd.C_drew ?_))); (case side4 => exact HC1.out); rintro e w12 ⟨rfl, hb⟩; have n0_ := Aside0.mk (blk_below (g := gb288) (o := .cells #[.int .i64 a2_0, .int .i64 a2_1] 41 (0, 0)) (by (with_reducible repeat (first | refine blk_drewN ?_ _ | refine blk_drew ?_ | refine blk_alloc ?_ _)); exact BK288.out) hb); have n1_ := Aside0.mk (below_step (by repeat (first | (with_reducible first | exact HB.out | apply below_alloc | apply pw_below_drewN | apply below_drew1 | refine below_set ?_ GE288.out) | exact HB.out)) hb); clear BK288; clear HB; have BK288 := n0_; have HB := n1_; clear n0_ n1_; (try clear hb); (try clear hb2); (try clear hk); (try clear hi)))
        go_meet
        case rel => exact ⟨_, (!t291), (by first | rfl | (simp; done) | (simp [*]; done)), H', ⟨by first | omega | exact Nat.le_refl _⟩, ⟨by (with_reducible repeat (first | refine blk_drewN ?_ _ | refine blk_drew ?_ | refine blk_alloc ?_ _)); exact BK288.out⟩, ⟨by repeat (first | (with_reducible first | exact HB.out | apply below_alloc | apply pw_below_drewN | apply below_drew1 | refine below_set ?_ GE288.out) | exact HB.out)⟩⟩
      · replace c9 := Bool.eq_false_iff.mpr c9
        subst c9
        have H1 : (estoverslaw21_GrantFifo.j0 k l0 l1 true a2_0 a2_1) = some r := by rw [if_neg (show ¬ (false = true) by decide)] at H; exact H
        clear H
        have H := H1
        clear H1
        have H' := Aside0.mk H
        clear H
        go_wp2_with (first | ((with_reducible refine gate_callee (f := 15) rfl ?_); refine goesL_ (some 14) rfl rfl Try.func15 (by kernel_rfl) rfl #[] rfl (by (try simp only [List.map_toArray, List.map_cons, List.map_nil]); first | done | rfl | (simp only [List.length_drop, List.length_take]; rfl)) ?_; (with_reducible refine (estoverslaw21_awake.calls k  true _ A6.out).mono ?_); rintro e w13 ⟨rfl, hb⟩; refine ⟨_, rfl, ?_⟩; have n0_ := Aside0.mk (blk_below (g := gb288) (o := .cells #[.int .i64 a2_0, .int .i64 a2_1] 41 (0, 0)) (by (with_reducible repeat (first | refine blk_drewN ?_ _ | refine blk_drew ?_ | refine blk_alloc ?_ _)); exact BK288.out) hb); have n1_ := Aside0.mk (below_step (by repeat (first | (with_reducible first | exact HB.out | apply below_alloc | apply pw_below_drewN | apply below_drew1 | refine below_set ?_ GE288.out) | exact HB.out)) hb); clear BK288; clear HB; have BK288 := n0_; have HB := n1_; clear n0_ n1_; (try clear hb); (try clear hb2); (try clear hk); (try clear hi)) | (go_at_call 19; (with_reducible refine (estoverslaw21_few.calls _ _ l0 _ _ l1 false _ ?side1 ?side2 ?side3 ?side4 A8.out).mono ?_); (case side1 => repeat (first | exact (Kd.C_below HR0.out HB.out) | (with_reducible refine Kd.C_alloc ?_ _) | (with_reducible refine Kd.C_drewN ?_ _) | (with_reducible refine Kd.C_drew ?_))); (case side2 => exact HC0.out); (case side3 => repeat (first | exact (Kd.C_below HR1.out HB.out) | (with_reducible refine Kd.C_alloc ?_ _) | (with_reducible refine Kd.C_drewN ?_ _) | (with_reducible refine Kd.C_drew ?_))); (case side4 => exact HC1.out); rintro e w' ⟨rfl, ⟨nd, rfl⟩⟩))
        go_meet
        case rel => exact ⟨_, (true), (by first | rfl | (simp; done) | (simp [*]; done)), H', ⟨by first | omega | exact Nat.le_refl _⟩, ⟨by (with_reducible repeat (first | refine blk_drewN ?_ _ | refine blk_drew ?_ | refine blk_alloc ?_ _)); exact BK288.out⟩, ⟨by repeat (first | (with_reducible first | exact HB.out | apply below_alloc | apply pw_below_drewN | apply below_drew1 | refine below_set ?_ GE288.out) | exact HB.out)⟩⟩
    · replace c7 := Bool.eq_false_iff.mpr c7
      subst c7
      have H1 : (estoverslaw21_GrantFifo.j0 k l0 l1 true a2_0 a2_1) = some r := by rw [if_neg (show ¬ (false = true) by decide)] at H; exact H
      clear H
      have H := H1
      clear H1
      have H' := Aside0.mk H
      clear H
      go_wp2_with (first | ((with_reducible refine gate_callee (f := 15) rfl ?_); refine goesL_ (some 14) rfl rfl Try.func15 (by kernel_rfl) rfl #[] rfl (by (try simp only [List.map_toArray, List.map_cons, List.map_nil]); first | done | rfl | (simp only [List.length_drop, List.length_take]; rfl)) ?_; (with_reducible refine (estoverslaw21_awake.calls k  false _ A6.out).mono ?_); rintro e w14 ⟨rfl, hb⟩; refine ⟨_, rfl, ?_⟩; have n0_ := Aside0.mk (blk_below (g := gb288) (o := .cells #[.int .i64 a2_0, .int .i64 a2_1] 41 (0, 0)) (by (with_reducible repeat (first | refine blk_drewN ?_ _ | refine blk_drew ?_ | refine blk_alloc ?_ _)); exact BK288.out) hb); have n1_ := Aside0.mk (below_step (by repeat (first | (with_reducible first | exact HB.out | apply below_alloc | apply pw_below_drewN | apply below_drew1 | refine below_set ?_ GE288.out) | exact HB.out)) hb); clear BK288; clear HB; have BK288 := n0_; have HB := n1_; clear n0_ n1_; (try clear hb); (try clear hb2); (try clear hk); (try clear hi)))
      go_meet
      case rel => exact ⟨_, (true), (by first | rfl | (simp; done) | (simp [*]; done)), H', ⟨by first | omega | exact Nat.le_refl _⟩, ⟨by (with_reducible repeat (first | refine blk_drewN ?_ _ | refine blk_drew ?_ | refine blk_alloc ?_ _)); exact BK288.out⟩, ⟨by repeat (first | (with_reducible first | exact HB.out | apply below_alloc | apply pw_below_drewN | apply below_drew1 | refine below_set ?_ GE288.out) | exact HB.out)⟩⟩
  case rest =>
    clear HC4
    try clear c1
    try clear p2
    try clear c7
    try clear c9
    obtain ⟨kq, x27_3, rfl, HA, HJ3, BK288, HB⟩ := hcut
    cases kq with
    | zero => exact absurd HA.out (by simp [estoverslaw21_GrantFifo.j0])
    | succ kj3 =>
      have H := HA.out
      clear HA
      simp only [estoverslaw21_GrantFifo.j0] at H
      by_cases c15 : x27_3 = true
      · subst c15
        have H1 : ((estoverslaw21_awake.f kj3).bind fun t292 => (some t292)) = some r := by rw [if_pos rfl] at H; exact H
        clear H
        have H := H1
        clear H1
        replace H := Option.bind_eq_some_iff.mp H
        obtain ⟨t292, A160, H⟩ := H
        replace H : (some t292) = some r := H
        have A16 := Aside0.mk A160
        clear A160
        obtain rfl := Option.some.inj H
        go_wp2_with (first | ((with_reducible refine gate_callee (f := 15) rfl ?_); refine goesL_ (some 28) rfl rfl Try.func15 (by kernel_rfl) rfl #[] rfl (by (try simp only [List.map_toArray, List.map_cons, List.map_nil]); first | done | rfl | (simp only [List.length_drop, List.length_take]; rfl)) ?_; (with_reducible refine (estoverslaw21_awake.calls kj3  t292 _ A16.out).mono ?_); rintro e w17 ⟨rfl, hb⟩; refine ⟨_, rfl, ?_⟩; have n0_ := Aside0.mk (blk_below (g := gb288) (o := .cells #[.int .i64 a2_0, .int .i64 a2_1] 41 (0, 0)) (by (with_reducible repeat (first | refine blk_drewN ?_ _ | refine blk_drew ?_ | refine blk_alloc ?_ _)); exact BK288.out) hb); have n1_ := Aside0.mk (below_step (by repeat (first | (with_reducible first | exact HB.out | apply below_alloc | apply pw_below_drewN | apply below_drew1 | refine below_set ?_ GE288.out) | exact HB.out)) hb); clear BK288; clear HB; have BK288 := n0_; have HB := n1_; clear n0_ n1_; (try clear hb); (try clear hb2); (try clear hk); (try clear hi)))
        go_ret
        exact ⟨by first | rfl | (simp [errW_none, errW_some] <;> rfl) | (simp [*, errW_none, errW_some] <;> rfl), by repeat (first | (with_reducible first | exact HB.out | apply below_alloc | apply pw_below_drewN | apply below_drew1 | refine below_set ?_ GE288.out) | exact HB.out)⟩
      · replace c15 := Bool.eq_false_iff.mpr c15
        subst c15
        have H1 : ((estoverslaw21_served.f kj3 l0 l1 a2_0 a2_1).bind fun bt293 => (if bt293.2.2.2.2 = true then ((accounts_Check.f kj3 bt293.2.2.2.1).bind fun t300 => (if t300 = 0 then ((accounts_Total.f kj3 bt293.2.2.2.1).bind fun t301 => ((accounts_Total.f kj3 l1).bind fun t302 => (estoverslaw21_GrantFifo.j1 kj3 l0 l1 bt293.1 bt293.2.1 bt293.2.2.1 bt293.2.2.2.1 (t301 != (wrap64 (t302 + bt293.2.2.1))) a2_0 a2_1))) else (estoverslaw21_GrantFifo.j1 kj3 l0 l1 bt293.1 bt293.2.1 bt293.2.2.1 bt293.2.2.2.1 true a2_0 a2_1))) else (estoverslaw21_GrantFifo.j1 kj3 l0 l1 bt293.1 bt293.2.1 bt293.2.2.1 bt293.2.2.2.1 true a2_0 a2_1))) = some r := by rw [if_neg (show ¬ (false = true) by decide)] at H; exact H
        clear H
        have H := H1
        clear H1
        replace H := Option.bind_eq_some_iff.mp H
        obtain ⟨⟨t293, t294, t295, t296, t297⟩, A180, H⟩ := H
        replace H : (if t297 = true then ((accounts_Check.f kj3 t296).bind fun t300 => (if t300 = 0 then ((accounts_Total.f kj3 t296).bind fun t301 => ((accounts_Total.f kj3 l1).bind fun t302 => (estoverslaw21_GrantFifo.j1 kj3 l0 l1 t293 t294 t295 t296 (t301 != (wrap64 (t302 + t295))) a2_0 a2_1))) else (estoverslaw21_GrantFifo.j1 kj3 l0 l1 t293 t294 t295 t296 true a2_0 a2_1))) else (estoverslaw21_GrantFifo.j1 kj3 l0 l1 t293 t294 t295 t296 true a2_0 a2_1)) = some r := H
        have A18 := Aside0.mk A180
        clear A180
        have HC19 := Aside0.mk H
        clear H
        have hcz20_0 : wc.cell? ⟨gb288, 0, none⟩ = some (.int .i64 a2_0) := (blk_cell BK288.out 0).trans rfl
        have hcz20_1 : wc.cell? ⟨gb288, 1, none⟩ = some (.int .i64 a2_1) := (blk_cell BK288.out 1).trans rfl
        have hfz20_0 := blk_frozen BK288.out 0
        have hfz20_1 := blk_frozen BK288.out 1
        go_upto_region 4 with (first | ((with_reducible refine gate_callee (f := 24) rfl ?_); refine goesL_ (some 36) rfl rfl Try.func24 (by kernel_rfl) rfl #[.slice A0 l0.length c0, .slice A1 l1.length c1, .int .i64 a2_0, .int .i64 a2_1] rfl (by (try simp only [List.map_toArray, List.map_cons, List.map_nil]); first | done | rfl | (simp only [List.length_drop, List.length_take]; rfl)) ?_; (with_reducible refine (estoverslaw21_served.calls kj3 _ _ l0 _ _ l1 a2_0 a2_1 t293 t294 t295 t296 t297 _ ?side1 ?side2 ?side3 ?side4 A18.out).mono ?_); (case side1 => repeat (first | exact (Kd.C_below HR0.out HB.out) | (with_reducible refine Kd.C_alloc ?_ _) | (with_reducible refine Kd.C_drewN ?_ _) | (with_reducible refine Kd.C_drew ?_))); (case side2 => exact HC0.out); (case side3 => repeat (first | exact (Kd.C_below HR1.out HB.out) | (with_reducible refine Kd.C_alloc ?_ _) | (with_reducible refine Kd.C_drewN ?_ _) | (with_reducible refine Kd.C_drew ?_))); (case side4 => exact HC1.out); rintro e w21 ⟨v298, rfl, ho0, hb⟩; refine ⟨_, rfl, ?_⟩; have n0_ := Aside0.mk (Kd.R_lower ho0 (below_size (by repeat (first | (with_reducible first | exact HB.out | apply below_alloc | apply pw_below_drewN | apply below_drew1 | refine below_set ?_ GE288.out) | exact HB.out)))); have n1_ := Aside0.mk (blk_below (g := gb288) (o := .cells #[.int .i64 a2_0, .int .i64 a2_1] 41 (0, 0)) (by (with_reducible repeat (first | refine blk_drewN ?_ _ | refine blk_drew ?_ | refine blk_alloc ?_ _)); exact BK288.out) hb); have n2_ := Aside0.mk (below_step (by repeat (first | (with_reducible first | exact HB.out | apply below_alloc | apply pw_below_drewN | apply below_drew1 | refine below_set ?_ GE288.out) | exact HB.out)) hb); clear BK288; clear HB; have HO299 := n0_; have BK288 := n1_; have HB := n2_; clear n0_ n1_ n2_; (try clear hb); (try clear hb2); (try clear hk); (try clear hi); (try clear ho0)))
        (try simp only [Act.put, List.setIfInBounds_toArray, List.set_cons_zero, List.set_cons_succ])
        go_cut [57] (fun v57 wc => ∃ (kq : Nat) (x57_18 : Bool), v57 = .bool x57_18 ∧ Aside0 (estoverslaw21_GrantFifo.j1 kq l0 l1 t293 t294 t295 t296 x57_18 a2_0 a2_1 = some r) ∧ Aside0 (kq ≤ kj3) ∧ Aside0 (Kd.R k59 59 wc w.heap.size (fun _ => True) v298 t296) ∧ Aside0 (wc.heap[gb288]? = some (.cells #[.int .i64 a2_0, .int .i64 a2_1] 41 (0, 0))) ∧ Aside0 (Below w.heap.size w wc))
        case first =>
          have H := HC19.out
          clear HC19
          by_cases c22 : t297 = true
          · subst c22
            have H1 : ((accounts_Check.f kj3 t296).bind fun t300 => (if t300 = 0 then ((accounts_Total.f kj3 t296).bind fun t301 => ((accounts_Total.f kj3 l1).bind fun t302 => (estoverslaw21_GrantFifo.j1 kj3 l0 l1 t293 t294 t295 t296 (t301 != (wrap64 (t302 + t295))) a2_0 a2_1))) else (estoverslaw21_GrantFifo.j1 kj3 l0 l1 t293 t294 t295 t296 true a2_0 a2_1))) = some r := by rw [if_pos rfl] at H; exact H
            clear H
            have H := H1
            clear H1
            replace H := Option.bind_eq_some_iff.mp H
            obtain ⟨t300, A230, H⟩ := H
            replace H : (if t300 = 0 then ((accounts_Total.f kj3 t296).bind fun t301 => ((accounts_Total.f kj3 l1).bind fun t302 => (estoverslaw21_GrantFifo.j1 kj3 l0 l1 t293 t294 t295 t296 (t301 != (wrap64 (t302 + t295))) a2_0 a2_1))) else (estoverslaw21_GrantFifo.j1 kj3 l0 l1 t293 t294 t295 t296 true a2_0 a2_1)) = some r := H
            have A23 := Aside0.mk A230
            clear A230
            by_cases c24 : t300 = 0
            · rw [if_pos c24] at H
              have c24b0 : (t300 == 0) = true := beq_iff_eq.mpr c24
              have c24b1 : (t300 != 0) = false := bne_eq_false_iff_eq.mpr c24
              clear c24
              (first | rw [c24b0] | (simp only [i64_w, i32_w]; rw [c24b0]) | skip)
              replace H := Option.bind_eq_some_iff.mp H
              obtain ⟨t301, A250, H⟩ := H
              replace H : ((accounts_Total.f kj3 l1).bind fun t302 => (estoverslaw21_GrantFifo.j1 kj3 l0 l1 t293 t294 t295 t296 (t301 != (wrap64 (t302 + t295))) a2_0 a2_1)) = some r := H
              have A25 := Aside0.mk A250
              clear A250
              replace H := Option.bind_eq_some_iff.mp H
              obtain ⟨t302, A260, H⟩ := H
              replace H : (estoverslaw21_GrantFifo.j1 kj3 l0 l1 t293 t294 t295 t296 (t301 != (wrap64 (t302 + t295))) a2_0 a2_1) = some r := H
              have A26 := Aside0.mk A260
              clear A260
              have H' := Aside0.mk H
              clear H
              obtain ⟨Ao27, co27, eo27⟩ := Kd.R_slice HO299.out
              subst eo27
              go_wp2_with (first | (go_at_call 25; (with_reducible refine (accounts_Check.calls kj3 _ _ t296 t300 _ ?side1 ?side2 A23.out).mono ?_); (case side1 => repeat (first | exact (Kd.R_reads' HO299.out).2.2 | (with_reducible refine Kd.C_alloc ?_ _) | (with_reducible refine Kd.C_drewN ?_ _) | (with_reducible refine Kd.C_drew ?_))); (case side2 => exact (Kd.R_reads' HO299.out).2.1); rintro e w28 ⟨rfl, hb⟩; have n0_ := Aside0.mk (Kd.R_below (by (with_reducible repeat (first | apply Kd.R_alloc | apply Kd.R_drewN | apply Kd.R_drew)); exact HO299.out) hb); have n1_ := Aside0.mk (blk_below (g := gb288) (o := .cells #[.int .i64 a2_0, .int .i64 a2_1] 41 (0, 0)) (by (with_reducible repeat (first | refine blk_drewN ?_ _ | refine blk_drew ?_ | refine blk_alloc ?_ _)); exact BK288.out) hb); have n2_ := Aside0.mk (below_step (by repeat (first | (with_reducible first | exact HB.out | apply below_alloc | apply pw_below_drewN | apply below_drew1 | refine below_set ?_ GE288.out) | exact HB.out)) hb); clear HO299; clear BK288; clear HB; have HO299 := n0_; have BK288 := n1_; have HB := n2_; clear n0_ n1_ n2_; (try clear hb); (try clear hb2); (try clear hk); (try clear hi)) | (go_at_call 26; (with_reducible refine (accounts_Total.calls kj3 _ _ t296 t301 _ ?side1 ?side2 A25.out).mono ?_); (case side1 => repeat (first | exact (Kd.R_reads' HO299.out).2.2 | (with_reducible refine Kd.C_alloc ?_ _) | (with_reducible refine Kd.C_drewN ?_ _) | (with_reducible refine Kd.C_drew ?_))); (case side2 => exact (Kd.R_reads' HO299.out).2.1); rintro e w29 ⟨rfl, hb⟩; have n0_ := Aside0.mk (Kd.R_below (by (with_reducible repeat (first | apply Kd.R_alloc | apply Kd.R_drewN | apply Kd.R_drew)); exact HO299.out) hb); have n1_ := Aside0.mk (blk_below (g := gb288) (o := .cells #[.int .i64 a2_0, .int .i64 a2_1] 41 (0, 0)) (by (with_reducible repeat (first | refine blk_drewN ?_ _ | refine blk_drew ?_ | refine blk_alloc ?_ _)); exact BK288.out) hb); have n2_ := Aside0.mk (below_step (by repeat (first | (with_reducible first | exact HB.out | apply below_alloc | apply pw_below_drewN | apply below_drew1 | refine below_set ?_ GE288.out) | exact HB.out)) hb); clear HO299; clear BK288; clear HB; have HO299 := n0_; have BK288 := n1_; have HB := n2_; clear n0_ n1_ n2_; (try clear hb); (try clear hb2); (try clear hk); (try clear hi)) | (go_at_call 26; (with_reducible refine (accounts_Total.calls kj3 _ _ l1 t302 _ ?side1 ?side2 A26.out).mono ?_); (case side1 => repeat (first | exact (Kd.C_below HR1.out HB.out) | (with_reducible refine Kd.C_alloc ?_ _) | (with_reducible refine Kd.C_drewN ?_ _) | (with_reducible refine Kd.C_drew ?_))); (case side2 => exact HC1.out); rintro e w30 ⟨rfl, hb⟩; have n0_ := Aside0.mk (Kd.R_below (by (with_reducible repeat (first | apply Kd.R_alloc | apply Kd.R_drewN | apply Kd.R_drew)); exact HO299.out) hb); have n1_ := Aside0.mk (blk_below (g := gb288) (o := .cells #[.int .i64 a2_0, .int .i64 a2_1] 41 (0, 0)) (by (with_reducible repeat (first | refine blk_drewN ?_ _ | refine blk_drew ?_ | refine blk_alloc ?_ _)); exact BK288.out) hb); have n2_ := Aside0.mk (below_step (by repeat (first | (with_reducible first | exact HB.out | apply below_alloc | apply pw_below_drewN | apply below_drew1 | refine below_set ?_ GE288.out) | exact HB.out)) hb); clear HO299; clear BK288; clear HB; have HO299 := n0_; have BK288 := n1_; have HB := n2_; clear n0_ n1_ n2_; (try clear hb); (try clear hb2); (try clear hk); (try clear hi)))
              go_meet
              case rel => exact ⟨_, ((t301 != (wrap64 (t302 + t295)))), (by first | rfl | (simp; done) | (simp [*]; done)), H', ⟨by have := HJ3.out; first | omega | exact Nat.le_refl _⟩, ⟨by (with_reducible repeat (first | apply Kd.R_alloc | apply Kd.R_drewN | apply Kd.R_drew)); exact HO299.out⟩, ⟨by (with_reducible repeat (first | refine blk_drewN ?_ _ | refine blk_drew ?_ | refine blk_alloc ?_ _)); exact BK288.out⟩, ⟨by repeat (first | (with_reducible first | exact HB.out | apply below_alloc | apply pw_below_drewN | apply below_drew1 | refine below_set ?_ GE288.out) | exact HB.out)⟩⟩
            · rw [if_neg c24] at H
              have c24b0 : (t300 == 0) = false := beq_eq_false_iff_ne.mpr c24
              have c24b1 : (t300 != 0) = true := bne_iff_ne.mpr c24
              (first | rw [c24b0] | (simp only [i64_w, i32_w]; rw [c24b0]) | skip)
              have H' := Aside0.mk H
              clear H
              obtain ⟨Ao31, co31, eo31⟩ := Kd.R_slice HO299.out
              subst eo31
              go_wp2_with (first | (go_at_call 25; (with_reducible refine (accounts_Check.calls kj3 _ _ t296 t300 _ ?side1 ?side2 A23.out).mono ?_); (case side1 => repeat (first | exact (Kd.R_reads' HO299.out).2.2 | (with_reducible refine Kd.C_alloc ?_ _) | (with_reducible refine Kd.C_drewN ?_ _) | (with_reducible refine Kd.C_drew ?_))); (case side2 => exact (Kd.R_reads' HO299.out).2.1); rintro e w32 ⟨rfl, hb⟩; have n0_ := Aside0.mk (Kd.R_below (by (with_reducible repeat (first | apply Kd.R_alloc | apply Kd.R_drewN | apply Kd.R_drew)); exact HO299.out) hb); have n1_ := Aside0.mk (blk_below (g := gb288) (o := .cells #[.int .i64 a2_0, .int .i64 a2_1] 41 (0, 0)) (by (with_reducible repeat (first | refine blk_drewN ?_ _ | refine blk_drew ?_ | refine blk_alloc ?_ _)); exact BK288.out) hb); have n2_ := Aside0.mk (below_step (by repeat (first | (with_reducible first | exact HB.out | apply below_alloc | apply pw_below_drewN | apply below_drew1 | refine below_set ?_ GE288.out) | exact HB.out)) hb); clear HO299; clear BK288; clear HB; have HO299 := n0_; have BK288 := n1_; have HB := n2_; clear n0_ n1_ n2_; (try clear hb); (try clear hb2); (try clear hk); (try clear hi)))
              go_meet
              case rel => exact ⟨_, (true), (by first | rfl | (simp; done) | (simp [*]; done)), H', ⟨by have := HJ3.out; first | omega | exact Nat.le_refl _⟩, ⟨by (with_reducible repeat (first | apply Kd.R_alloc | apply Kd.R_drewN | apply Kd.R_drew)); exact HO299.out⟩, ⟨by (with_reducible repeat (first | refine blk_drewN ?_ _ | refine blk_drew ?_ | refine blk_alloc ?_ _)); exact BK288.out⟩, ⟨by repeat (first | (with_reducible first | exact HB.out | apply below_alloc | apply pw_below_drewN | apply below_drew1 | refine below_set ?_ GE288.out) | exact HB.out)⟩⟩
          · replace c22 := Bool.eq_false_iff.mpr c22
            subst c22
            have H1 : (estoverslaw21_GrantFifo.j1 kj3 l0 l1 t293 t294 t295 t296 true a2_0 a2_1) = some r := by rw [if_neg (show ¬ (false = true) by decide)] at H; exact H
            clear H
            have H := H1
            clear H1
            have H' := Aside0.mk H
            clear H
            go_wp2
            go_meet
            case rel => exact ⟨_, (true), (by first | rfl | (simp; done) | (simp [*]; done)), H', ⟨by have := HJ3.out; first | omega | exact Nat.le_refl _⟩, ⟨by (with_reducible repeat (first | apply Kd.R_alloc | apply Kd.R_drewN | apply Kd.R_drew)); exact HO299.out⟩, ⟨by (with_reducible repeat (first | refine blk_drewN ?_ _ | refine blk_drew ?_ | refine blk_alloc ?_ _)); exact BK288.out⟩, ⟨by repeat (first | (with_reducible first | exact HB.out | apply below_alloc | apply pw_below_drewN | apply below_drew1 | refine below_set ?_ GE288.out) | exact HB.out)⟩⟩
        case rest =>
          clear HC19
          try clear c1
          try clear c2
          try clear p2
          try clear p6
          try clear c7
          try clear c9
          try clear c15
          try clear c22
          try clear c24
          try clear c24b0
          try clear c24b1
          try clear hcz20_0
          try clear hcz20_1
          try clear hfz20_0
          try clear hfz20_1
          try clear p2
          obtain ⟨kq, x57_18, rfl, HA, HJ18, HO_10, BK288, HB⟩ := hcut
          cases kq with
          | zero => exact absurd HA.out (by simp [estoverslaw21_GrantFifo.j1])
          | succ kj18 =>
            have H := HA.out
            clear HA
            simp only [estoverslaw21_GrantFifo.j1] at H
            by_cases c33 : x57_18 = true
            · subst c33
              have H1 : (none) = some r := by rw [if_pos rfl] at H; exact H
              clear H
              have H := H1
              clear H1
              exact absurd H (by simp)
            · replace c33 := Bool.eq_false_iff.mpr c33
              subst c33
              have H1 : (if t293 > 0 then (if t294 > a2_0 then (estoverslaw21_GrantFifo.j2 kj18 l0 l1 t293 t294 t295 t296 true a2_0 a2_1) else (estoverslaw21_GrantFifo.j2 kj18 l0 l1 t293 t294 t295 t296 (decide (t295 > a2_1)) a2_0 a2_1)) else (estoverslaw21_GrantFifo.j2 kj18 l0 l1 t293 t294 t295 t296 false a2_0 a2_1)) = some r := by rw [if_neg (show ¬ (false = true) by decide)] at H; exact H
              clear H
              have H := H1
              clear H1
              have HC34 := Aside0.mk H
              clear H
              go_upto_region 6 with (fail)
              go_cut [71] (fun v71 wc => ∃ (kq : Nat) (x71_33 : Bool), v71 = .bool x71_33 ∧ Aside0 (estoverslaw21_GrantFifo.j2 kq l0 l1 t293 t294 t295 t296 x71_33 a2_0 a2_1 = some r) ∧ Aside0 (kq ≤ kj18) ∧ Aside0 (Kd.R k59 59 wc w.heap.size (fun _ => True) v298 t296) ∧ Aside0 (wc.heap[gb288]? = some (.cells #[.int .i64 a2_0, .int .i64 a2_1] 41 (0, 0))) ∧ Aside0 (Below w.heap.size w wc))
              case first =>
                have H := HC34.out
                clear HC34
                by_cases c35 : t293 > 0
                · rw [if_pos c35] at H
                  have c35b0 : decide (0 < t293) = true := decide_eq_true c35
                  clear c35
                  (first | rw [c35b0] | (simp only [i64_w, i32_w]; rw [c35b0]) | skip)
                  by_cases c36 : t294 > a2_0
                  · rw [if_pos c36] at H
                    have c36b0 : decide (a2_0 < t294) = true := decide_eq_true c36
                    clear c36
                    have H' := Aside0.mk H
                    clear H
                    have hcz37_0 : wc.cell? ⟨gb288, 0, none⟩ = some (.int .i64 a2_0) := (blk_cell BK288.out 0).trans rfl
                    have hcz37_1 : wc.cell? ⟨gb288, 1, none⟩ = some (.int .i64 a2_1) := (blk_cell BK288.out 1).trans rfl
                    have hfz37_0 := blk_frozen BK288.out 0
                    have hfz37_1 := blk_frozen BK288.out 1
                    go_wp2
                    go_meet
                    case rel => exact ⟨_, (true), (by first | rfl | (simp; done) | (simp [*]; done)), H', ⟨by have := HJ3.out; have := HJ18.out; first | omega | exact Nat.le_refl _⟩, ⟨by (with_reducible repeat (first | apply Kd.R_alloc | apply Kd.R_drewN | apply Kd.R_drew)); exact HO_10.out⟩, ⟨by (with_reducible repeat (first | refine blk_drewN ?_ _ | refine blk_drew ?_ | refine blk_alloc ?_ _)); exact BK288.out⟩, ⟨by repeat (first | (with_reducible first | exact HB.out | apply below_alloc | apply pw_below_drewN | apply below_drew1 | refine below_set ?_ GE288.out) | exact HB.out)⟩⟩
                  · rw [if_neg c36] at H
                    have c36b0 : decide (a2_0 < t294) = false := decide_eq_false c36
                    clear c36
                    have H' := Aside0.mk H
                    clear H
                    have hcz38_0 : wc.cell? ⟨gb288, 0, none⟩ = some (.int .i64 a2_0) := (blk_cell BK288.out 0).trans rfl
                    have hcz38_1 : wc.cell? ⟨gb288, 1, none⟩ = some (.int .i64 a2_1) := (blk_cell BK288.out 1).trans rfl
                    have hfz38_0 := blk_frozen BK288.out 0
                    have hfz38_1 := blk_frozen BK288.out 1
                    go_wp2
                    go_meet
                    case rel => exact ⟨_, (decide (t295 > a2_1)), (by first | rfl | (simp; done) | (simp [*]; done)), H', ⟨by have := HJ3.out; have := HJ18.out; first | omega | exact Nat.le_refl _⟩, ⟨by (with_reducible repeat (first | apply Kd.R_alloc | apply Kd.R_drewN | apply Kd.R_drew)); exact HO_10.out⟩, ⟨by (with_reducible repeat (first | refine blk_drewN ?_ _ | refine blk_drew ?_ | refine blk_alloc ?_ _)); exact BK288.out⟩, ⟨by repeat (first | (with_reducible first | exact HB.out | apply below_alloc | apply pw_below_drewN | apply below_drew1 | refine below_set ?_ GE288.out) | exact HB.out)⟩⟩
                · rw [if_neg c35] at H
                  have c35b0 : decide (0 < t293) = false := decide_eq_false c35
                  clear c35
                  (first | rw [c35b0] | (simp only [i64_w, i32_w]; rw [c35b0]) | skip)
                  have H' := Aside0.mk H
                  clear H
                  go_wp2
                  go_meet
                  case rel => exact ⟨_, (false), (by first | rfl | (simp; done) | (simp [*]; done)), H', ⟨by have := HJ3.out; have := HJ18.out; first | omega | exact Nat.le_refl _⟩, ⟨by (with_reducible repeat (first | apply Kd.R_alloc | apply Kd.R_drewN | apply Kd.R_drew)); exact HO_10.out⟩, ⟨by (with_reducible repeat (first | refine blk_drewN ?_ _ | refine blk_drew ?_ | refine blk_alloc ?_ _)); exact BK288.out⟩, ⟨by repeat (first | (with_reducible first | exact HB.out | apply below_alloc | apply pw_below_drewN | apply below_drew1 | refine below_set ?_ GE288.out) | exact HB.out)⟩⟩
              case rest =>
                clear HC34
                try clear c1
                try clear c2
                try clear p2
                try clear c3
                try clear p6
                try clear c7
                try clear c9
                try clear c15
                try clear c22
                try clear c24
                try clear c24b0
                try clear c24b1
                try clear c33
                try clear c35
                try clear c35b0
                try clear c36
                try clear c36b0
                try clear hcz20_0
                try clear hcz20_1
                try clear hcz37_0
                try clear hcz37_1
                try clear hcz38_0
                try clear hcz38_1
                try clear hfz20_0
                try clear hfz20_1
                try clear hfz37_0
                try clear hfz37_1
                try clear hfz38_0
                try clear hfz38_1
                try clear p2
                try clear p6
                obtain ⟨kq, x71_33, rfl, HA, HJ33, HO_10, BK288, HB⟩ := hcut
                cases kq with
                | zero => exact absurd HA.out (by simp [estoverslaw21_GrantFifo.j2])
                | succ kj33 =>
                  have H := HA.out
                  clear HA
                  simp only [estoverslaw21_GrantFifo.j2] at H
                  by_cases c39 : x71_33 = true
                  · subst c39
                    have H1 : (none) = some r := by rw [if_pos rfl] at H; exact H
                    clear H
                    have H := H1
                    clear H1
                    exact absurd H (by simp)
                  · replace c39 := Bool.eq_false_iff.mpr c39
                    subst c39
                    have H1 : (if t293 = (l0.length : Int) then (some true) else (if 0 ≤ t293 then (if t293 < (l0.length : Int) then ((grant_Short.f kj33 ((rd_T37 l0 t293).f0) ((rd_T37 l0 t293).f1) ((rd_T37 l0 t293).f2) ((rd_T37 l0 t293).f3) t296 (wrap64 (a2_0 - t294)) (wrap64 (a2_1 - t295))).bind fun bt304 => (if a2_0 < 0 then (if 0 < (l0.length : Int) then ((grant_Short.f kj33 ((rd_T37 l0 0).f0) ((rd_T37 l0 0).f1) ((rd_T37 l0 0).f2) ((rd_T37 l0 0).f3) l1 a2_0 a2_1).bind fun bt310 => (if bt310.2.2.2 = 0 then (some (decide (bt310.1 > 0))) else (none))) else (none)) else (if a2_1 < 0 then (if 0 < (l0.length : Int) then ((grant_Short.f kj33 ((rd_T37 l0 0).f0) ((rd_T37 l0 0).f1) ((rd_T37 l0 0).f2) ((rd_T37 l0 0).f3) l1 a2_0 a2_1).bind fun bt315 => (if bt315.2.2.2 = 0 then (some (decide (bt315.1 > 0))) else (none))) else (none)) else (if bt304.2.2.2 = 0 then (some (decide (bt304.1 > 0))) else (none))))) else (none)) else (none))) = some r := by rw [if_neg (show ¬ (false = true) by decide)] at H; exact H
                    clear H
                    have H := H1
                    clear H1
                    by_cases c40 : t293 = (l0.length : Int)
                    · rw [if_pos c40] at H
                      have c40b0 : (t293 == (l0.length : Int)) = true := beq_iff_eq.mpr c40
                      have c40b1 : (t293 != (l0.length : Int)) = false := bne_eq_false_iff_eq.mpr c40
                      clear c40
                      obtain rfl := Option.some.inj H
                      go_wp2
                      go_ret
                      exact ⟨by first | rfl | (simp [errW_none, errW_some] <;> rfl) | (simp [*, errW_none, errW_some] <;> rfl), by repeat (first | (with_reducible first | exact HB.out | apply below_alloc | apply pw_below_drewN | apply below_drew1 | refine below_set ?_ GE288.out) | exact HB.out)⟩
                    · rw [if_neg c40] at H
                      have c40b0 : (t293 == (l0.length : Int)) = false := beq_eq_false_iff_ne.mpr c40
                      have c40b1 : (t293 != (l0.length : Int)) = true := bne_iff_ne.mpr c40
                      by_cases c41 : 0 ≤ t293
                      · rw [if_pos c41] at H
                        have c41b0 : decide (0 ≤ t293) = true := decide_eq_true c41
                        clear c41
                        by_cases c42 : t293 < (l0.length : Int)
                        · rw [if_pos c42] at H
                          have c42b0 : decide (t293 < (l0.length : Int)) = true := decide_eq_true c42
                          clear c42
                          replace H := Option.bind_eq_some_iff.mp H
                          obtain ⟨⟨t304, t305, t306, t307⟩, A430, H⟩ := H
                          replace H : (if a2_0 < 0 then (if 0 < (l0.length : Int) then ((grant_Short.f kj33 ((rd_T37 l0 0).f0) ((rd_T37 l0 0).f1) ((rd_T37 l0 0).f2) ((rd_T37 l0 0).f3) l1 a2_0 a2_1).bind fun bt310 => (if bt310.2.2.2 = 0 then (some (decide (bt310.1 > 0))) else (none))) else (none)) else (if a2_1 < 0 then (if 0 < (l0.length : Int) then ((grant_Short.f kj33 ((rd_T37 l0 0).f0) ((rd_T37 l0 0).f1) ((rd_T37 l0 0).f2) ((rd_T37 l0 0).f3) l1 a2_0 a2_1).bind fun bt315 => (if bt315.2.2.2 = 0 then (some (decide (bt315.1 > 0))) else (none))) else (none)) else (if t307 = 0 then (some (decide (t304 > 0))) else (none)))) = some r := H
                          have A43 := Aside0.mk A430
                          clear A430
                          by_cases c44 : a2_0 < 0
                          · rw [if_pos c44] at H
                            have c44b0 : decide (a2_0 < 0) = true := decide_eq_true c44
                            clear c44
                            by_cases c45 : 0 < (l0.length : Int)
                            · rw [if_pos c45] at H
                              have c45b0 : decide (0 < (l0.length : Int)) = true := decide_eq_true c45
                              have c45b1 : decide (0 < l0.length) = true := decide_eq_true (by omega)
                              clear c45
                              replace H := Option.bind_eq_some_iff.mp H
                              obtain ⟨⟨t310, t311, t312, t313⟩, A460, H⟩ := H
                              replace H : (if t313 = 0 then (some (decide (t310 > 0))) else (none)) = some r := H
                              have A46 := Aside0.mk A460
                              clear A460
                              by_cases c47 : t313 = 0
                              · rw [if_pos c47] at H
                                have c47b0 : (t313 == 0) = true := beq_iff_eq.mpr c47
                                have c47b1 : (t313 != 0) = false := bne_eq_false_iff_eq.mpr c47
                                clear c47
                                obtain rfl := Option.some.inj H
                                obtain ⟨Ao48, co48, eo48⟩ := Kd.R_slice HO_10.out
                                subst eo48
                                try go_wp2
                                have n0_ := Aside0.mk (Kd.R_drew HO_10.out)
                                have n1_ := Aside0.mk (blk_drew BK288.out)
                                have n2_ := Aside0.mk (below_drew1 HB.out)
                                clear HO_10
                                clear BK288
                                clear HB
                                have HO_10 := n0_
                                have BK288 := n1_
                                have HB := n2_
                                clear n0_ n1_ n2_
                                have p303 : 0 ≤ (t293 : Int) := of_decide_eq_true (by first | (with_reducible assumption) | assumption)
                                have q303 : t293 < (l0.length : Int) := of_decide_eq_true (by first | (with_reducible assumption) | assumption)
                                obtain ⟨ad303, e303, hx303_0, hx303_1, hx303_2, hx303_3⟩ := at_T37 HR0.out t293 p303 q303
                                have hw303_3 := hx303_3
                                have hw303_2 := hx303_2
                                have hw303_1 := hx303_1
                                have hw303_0 := hx303_0
                                cases e303
                                replace hx303_0 := (HB.out.cell (World.block_lt_of_cell? w _ hx303_0)).trans hx303_0
                                replace hx303_1 := (HB.out.cell (World.block_lt_of_cell? w _ hx303_1)).trans hx303_1
                                replace hx303_2 := (HB.out.cell (World.block_lt_of_cell? w _ hx303_2)).trans hx303_2
                                replace hx303_3 := (HB.out.cell (World.block_lt_of_cell? w _ hx303_3)).trans hx303_3
                                replace p303 := eq_true p303
                                replace q303 := eq_true q303
                                refine start_ (n := 20) (S := fun w' => w'.cell? ⟨gb288, 0, none⟩ = some (.int .i64 a2_0) ∧ w'.cell? ⟨gb288, 1, none⟩ = some (.int .i64 a2_1) ∧ w'.cell? (ad303.add ((t293).toNat * 4)) = some (.int .i64 ((rd_T37 l0 t293).f0)) ∧ w'.cell? ⟨(ad303.add ((t293).toNat * 4)).block, (ad303.add ((t293).toNat * 4)).off + 1, none⟩ = some (.int .i64 ((rd_T37 l0 t293).f1)) ∧ w'.cell? ⟨(ad303.add ((t293).toNat * 4)).block, (ad303.add ((t293).toNat * 4)).off + 2, none⟩ = some (.int .i64 ((rd_T37 l0 t293).f2)) ∧ w'.cell? ⟨(ad303.add ((t293).toNat * 4)).block, (ad303.add ((t293).toNat * 4)).off + 3, none⟩ = some (.int .i64 ((rd_T37 l0 t293).f3))) (ds := []) #[false, false, false, false, false, false, false, false, false, false, false, false, false, false, false, false, false, false, false, false] (by kernel_rfl) rfl rfl ⟨(blk_cell BK288.out 0).trans rfl, (blk_cell BK288.out 1).trans rfl, ((HB.out.cell (World.block_lt_of_cell? w _ hw303_0)).trans hw303_0), ((HB.out.cell (World.block_lt_of_cell? w _ hw303_1)).trans hw303_1), ((HB.out.cell (World.block_lt_of_cell? w _ hw303_2)).trans hw303_2), ((HB.out.cell (World.block_lt_of_cell? w _ hw303_3)).trans hw303_3)⟩ (fun hHeld => ?_); refine with_tabW estoverslaw21_GrantFifo.tab10 estoverslaw21_GrantFifo.bits10 (fun HT_ HW_ => ?_)
                                generalize wc.drew = w49 at HO_10 BK288 HB hx303_0 hx303_1 hx303_2 hx303_3 hHeld ⊢
                                refine pure_ (i := 0) (N := some 77) (v := ?_) (a' := ?_) #[true, false, false, false, false, false, false, false, false, false, false, false, false, false, false, false, false, false, false, false] rfl rfl (any_of HT_.out (by kernel_rfl)) (fun _ _ _ h => h) (Or.inl ⟨by rfl, ?_⟩) ?_ ?_
                                rotate_left
                                · intro w'
                                  go_simp
                                  with_reducible rfl
                                rotate_left
                                · simp only [Act.put, List.setIfInBounds_toArray, List.set_cons_zero, List.set_cons_succ, i64_w, i32_w]
                                  rfl
                                refine pure_ (i := 1) (N := some 78) (v := ?_) (a' := ?_) #[true, true, false, false, false, false, false, false, false, false, false, false, false, false, false, false, false, false, false, false] rfl rfl (any_of HT_.out (by kernel_rfl)) (fun _ _ _ h => h) (Or.inl ⟨by rfl, ?_⟩) ?_ ?_
                                rotate_left
                                · intro w'
                                  go_simp
                                  with_reducible rfl
                                rotate_left
                                · simp only [Act.put, List.setIfInBounds_toArray, List.set_cons_zero, List.set_cons_succ, i64_w, i32_w]
                                  rfl
                                refine pure_ (i := 2) (N := some 79) (v := ?_) (a' := ?_) #[true, true, true, false, false, false, false, false, false, false, false, false, false, false, false, false, false, false, false, false] rfl rfl (any_of HT_.out (by kernel_rfl)) (fun _ _ _ h => h) (Or.inl ⟨by rfl, ?_⟩) ?_ ?_
                                rotate_left
                                · intro w'
                                  go_simp
                                  with_reducible rfl
                                rotate_left
                                · simp only [Act.put, List.setIfInBounds_toArray, List.set_cons_zero, List.set_cons_succ, i64_w, i32_w]
                                  rfl
                                refine pure_ (i := 4) (N := some 81) (v := ?_) (a' := ?_) #[true, true, true, false, true, false, false, false, false, false, false, false, false, false, false, false, false, false, false, false] rfl rfl (any_of HT_.out (by kernel_rfl)) (fun _ _ _ h => h) (Or.inl ⟨by rfl, ?_⟩) ?_ ?_
                                rotate_left
                                · intro w'
                                  go_simp
                                  with_reducible rfl
                                rotate_left
                                · simp only [Act.put, List.setIfInBounds_toArray, List.set_cons_zero, List.set_cons_succ, i64_w, i32_w]
                                  rfl
                                refine pure_ (i := 5) (N := some 82) (v := ?_) (a' := ?_) #[true, true, true, false, true, true, false, false, false, false, false, false, false, false, false, false, false, false, false, false] rfl rfl (any_of HT_.out (by kernel_rfl)) (fun _ _ _ h => h) (Or.inl ⟨by rfl, ?_⟩) ?_ ?_
                                rotate_left
                                · intro w'
                                  go_simp
                                  with_reducible rfl
                                rotate_left
                                · simp only [Act.put, List.setIfInBounds_toArray, List.set_cons_zero, List.set_cons_succ, i64_w, i32_w]
                                  rfl
                                refine pure_ (i := 7) (N := some 84) (v := ?_) (a' := ?_) #[true, true, true, false, true, true, false, true, false, false, false, false, false, false, false, false, false, false, false, false] rfl rfl (any_of HT_.out (by kernel_rfl)) (fun _ _ _ h => h) (Or.inl ⟨by rfl, ?_⟩) ?_ ?_
                                rotate_left
                                · intro w'
                                  go_simp
                                  with_reducible rfl
                                rotate_left
                                · simp only [Act.put, List.setIfInBounds_toArray, List.set_cons_zero, List.set_cons_succ, i64_w, i32_w]
                                  rfl
                                refine pure_ (i := 9) (N := some 86) (v := ?_) (a' := ?_) #[true, true, true, false, true, true, false, true, false, true, false, false, false, false, false, false, false, false, false, false] rfl rfl (any_of HT_.out (by kernel_rfl)) (fun _ _ _ h => h) (Or.inl ⟨by rfl, ?_⟩) ?_ ?_
                                rotate_left
                                · intro w'
                                  go_simp
                                  with_reducible rfl
                                rotate_left
                                · simp only [Act.put, List.setIfInBounds_toArray, List.set_cons_zero, List.set_cons_succ, i64_w, i32_w]
                                  rfl
                                refine pure_ (i := 11) (N := some 88) (v := ?_) (a' := ?_) #[true, true, true, false, true, true, false, true, false, true, false, true, false, false, false, false, false, false, false, false] rfl rfl (any_of HT_.out (by kernel_rfl)) (fun _ _ _ h => h) (Or.inl ⟨by rfl, ?_⟩) ?_ ?_
                                rotate_left
                                · intro w'
                                  go_simp
                                  with_reducible rfl
                                rotate_left
                                · simp only [Act.put, List.setIfInBounds_toArray, List.set_cons_zero, List.set_cons_succ, i64_w, i32_w]
                                  rfl
                                refine take_ (i := 3) (N := some 80) (v := ?_) (a' := ?_) #[true, true, true, true, true, true, false, true, false, true, false, true, false, false, false, false, false, false, false, false] rfl rfl (take_ofW HT_.out HW_.out (by kernel_rfl)) (fun _ _ _ h => h) (Or.inl ⟨by rfl, ?_⟩) hHeld ?_ ?_
                                rotate_left
                                · rintro w' ⟨s0, s1, s2, s3, s4, s5⟩
                                  go_simp
                                  with_reducible rfl
                                rotate_left
                                · simp only [Act.put, List.setIfInBounds_toArray, List.set_cons_zero, List.set_cons_succ, i64_w, i32_w]
                                  rfl
                                refine take_ (i := 6) (N := some 83) (v := ?_) (a' := ?_) #[true, true, true, true, true, true, true, true, false, true, false, true, false, false, false, false, false, false, false, false] rfl rfl (take_ofW HT_.out HW_.out (by kernel_rfl)) (fun _ _ _ h => h) (Or.inl ⟨by rfl, ?_⟩) hHeld ?_ ?_
                                rotate_left
                                · rintro w' ⟨s0, s1, s2, s3, s4, s5⟩
                                  go_simp
                                  with_reducible rfl
                                rotate_left
                                · simp only [Act.put, List.setIfInBounds_toArray, List.set_cons_zero, List.set_cons_succ, i64_w, i32_w]
                                  rfl
                                refine pure_ (i := 8) (N := some 85) (v := ?_) (a' := ?_) #[true, true, true, true, true, true, true, true, true, true, false, true, false, false, false, false, false, false, false, false] rfl rfl (any_of HT_.out (by kernel_rfl)) (fun _ _ _ h => h) (Or.inl ⟨by rfl, ?_⟩) ?_ ?_
                                rotate_left
                                · intro w'
                                  go_simp
                                  with_reducible rfl
                                rotate_left
                                · simp only [Act.put, List.setIfInBounds_toArray, List.set_cons_zero, List.set_cons_succ, i64_w, i32_w]
                                  rfl
                                refine take_ (i := 10) (N := some 87) (v := ?_) (a' := ?_) #[true, true, true, true, true, true, true, true, true, true, true, true, false, false, false, false, false, false, false, false] rfl rfl (take_ofW HT_.out HW_.out (by kernel_rfl)) (fun _ _ _ h => h) (Or.inl ⟨by rfl, ?_⟩) hHeld ?_ ?_
                                rotate_left
                                · rintro w' ⟨s0, s1, s2, s3, s4, s5⟩
                                  go_simp
                                  with_reducible rfl
                                rotate_left
                                · simp only [Act.put, List.setIfInBounds_toArray, List.set_cons_zero, List.set_cons_succ, i64_w, i32_w]
                                  rfl
                                refine pure_ (i := 12) (N := some 89) (v := ?_) (a' := ?_) #[true, true, true, true, true, true, true, true, true, true, true, true, true, false, false, false, false, false, false, false] rfl rfl (any_of HT_.out (by kernel_rfl)) (fun _ _ _ h => h) (Or.inl ⟨by rfl, ?_⟩) ?_ ?_
                                rotate_left
                                · intro w'
                                  go_simp
                                  with_reducible rfl
                                rotate_left
                                · simp only [Act.put, List.setIfInBounds_toArray, List.set_cons_zero, List.set_cons_succ, i64_w, i32_w]
                                  rfl
                                refine join_ (σ := Nat) 2 #[true, true, true, true, true, true, true, true, true, true, true, true, true, true, true, true, true, true, false, false] (fun s_ => [(90, .tuple #[.agg #[.int .i64 t304, .int .i64 t305, .bool t306], .int .i64 t307]), (12, .pointer (some ⟨s_, 0, none⟩)), (76, .tuple #[.agg #[.int .i64 t304, .int .i64 t305, .bool t306], .int .i64 t307]), (91, .agg #[.int .i64 t304, .int .i64 t305, .bool t306]), (92, .int .i64 t307)]) (fun s_ w' => (w'.cell? ⟨gb288, 0, none⟩ = some (.int .i64 a2_0) ∧ w'.cell? ⟨gb288, 1, none⟩ = some (.int .i64 a2_1) ∧ w'.cell? (ad303.add ((t293).toNat * 4)) = some (.int .i64 ((rd_T37 l0 t293).f0)) ∧ w'.cell? ⟨(ad303.add ((t293).toNat * 4)).block, (ad303.add ((t293).toNat * 4)).off + 1, none⟩ = some (.int .i64 ((rd_T37 l0 t293).f1)) ∧ w'.cell? ⟨(ad303.add ((t293).toNat * 4)).block, (ad303.add ((t293).toNat * 4)).off + 2, none⟩ = some (.int .i64 ((rd_T37 l0 t293).f2)) ∧ w'.cell? ⟨(ad303.add ((t293).toNat * 4)).block, (ad303.add ((t293).toNat * 4)).off + 3, none⟩ = some (.int .i64 ((rd_T37 l0 t293).f3))) ∧ (Kd.R k59 59 w' w.heap.size (fun _ => True) (.slice Ao48 t296.length co48) t296) ∧ (w'.heap[gb288]? = some (.cells #[.int .i64 a2_0, .int .i64 a2_1] 41 (0, 0))) ∧ (w'.heap[s_]? = some (.cells #[.int .i64 0, .int .i64 0, .bool false] 43 (0, 0))) ∧ (w.heap.size ≤ s_) ∧ (w.heap.size ≤ s_) ∧ (gb288 ≠ s_) ∧ (s_ ≠ gb288) ∧ (Below w.heap.size w w')) ?_ ?_
                                rotate_left
                                · intro hCont
                                  refine two_ (i := 13) (j := 17) (Ni := some 90) (Nj := some 12) #[true, true, true, true, true, true, true, true, true, true, true, true, true, true, false, false, false, false, false, false] #[true, true, true, true, true, true, true, true, true, true, true, true, true, false, false, false, false, true, false, false] rfl rfl rfl rfl (two_of HT_.out (by kernel_rfl)) (by decide) (by decide) (fun K hK => ?_) (fun K hK => ?_)
                                  · skip
                                    refine goes_ Try.func16 (by kernel_rfl) rfl #[.agg #[.int .i64 ((rd_T37 l0 t293).f0), .int .i64 ((rd_T37 l0 t293).f1), .int .i64 ((rd_T37 l0 t293).f2), .int .i64 ((rd_T37 l0 t293).f3)], .slice Ao48 t296.length co48, .int .i64 (wrap64 (a2_0 - t294)), .int .i64 (wrap64 (a2_1 - t295))] (by rfl) rfl rfl (by (try simp only [List.map_toArray, List.map_cons, List.map_nil]); first | done | rfl | (simp only [List.length_drop, List.length_take]; rfl)) ?_
                                    with_reducible refine (grant_Short.calls kj33 ((rd_T37 l0 t293).f0) ((rd_T37 l0 t293).f1) ((rd_T37 l0 t293).f2) ((rd_T37 l0 t293).f3) _ _ t296 (wrap64 (a2_0 - t294)) (wrap64 (a2_1 - t295)) t304 t305 t306 t307 _ ?side1 ?side2 A43.out).mono ?_
                                    (case side1 => repeat (first | exact (Kd.R_reads' HO_10.out).2.2 | (with_reducible refine Kd.C_alloc ?_ _) | (with_reducible refine Kd.C_drewN ?_ _) | (with_reducible refine Kd.C_drew ?_)))
                                    (case side2 => exact (Kd.R_reads' HO_10.out).2.1)
                                    rintro e w50 ⟨rfl, hb⟩
                                    refine ⟨_, rfl, ?_⟩
                                    have n0_ := Aside0.mk (Kd.R_below (by (with_reducible repeat (first | apply Kd.R_alloc | apply Kd.R_drewN | apply Kd.R_drew)); exact HO_10.out) hb)
                                    have n1_ := Aside0.mk (blk_below (g := gb288) (o := .cells #[.int .i64 a2_0, .int .i64 a2_1] 41 (0, 0)) (by (with_reducible repeat (first | refine blk_drewN ?_ _ | refine blk_drew ?_ | refine blk_alloc ?_ _)); exact BK288.out) hb)
                                    have n2_ := Aside0.mk (below_step (by repeat (first | (with_reducible first | exact HB.out | apply below_alloc | apply pw_below_drewN | apply below_drew1 | refine below_set ?_ GE288.out) | exact HB.out)) hb)
                                    clear HO_10
                                    clear BK288
                                    clear HB
                                    have HO_10 := n0_
                                    have BK288 := n1_
                                    have HB := n2_
                                    clear n0_ n1_ n2_
                                    (try clear hb)
                                    (try clear hb2)
                                    (try clear hk)
                                    (try clear hi)
                                    refine hK.out _ _ ⟨(blk_cell BK288.out 0).trans rfl, (blk_cell BK288.out 1).trans rfl, ((HB.out.cell (World.block_lt_of_cell? w _ hw303_0)).trans hw303_0), ((HB.out.cell (World.block_lt_of_cell? w _ hw303_1)).trans hw303_1), ((HB.out.cell (World.block_lt_of_cell? w _ hw303_2)).trans hw303_2), ((HB.out.cell (World.block_lt_of_cell? w _ hw303_3)).trans hw303_3)⟩ (fun hHeld => ?_)
                                    clear hK K
                                    refine norm_ (a' := ?_) ?_ ?_
                                    rotate_left
                                    · show Act.put _ (some 90) _ = _
                                      simp only [Act.put, List.setIfInBounds_toArray, List.set_cons_zero, List.set_cons_succ, i64_w, i32_w]
                                      rfl
                                    refine pure_ (i := 14) (N := some 76) (v := ?_) (a' := ?_) #[true, true, true, true, true, true, true, true, true, true, true, true, true, true, true, false, false, false, false, false] rfl rfl (any_of HT_.out (by kernel_rfl)) (fun _ _ _ h => h) (Or.inl ⟨by rfl, ?_⟩) ?_ ?_
                                    rotate_left
                                    · intro w'
                                      go_simp
                                      with_reducible rfl
                                    rotate_left
                                    · simp only [Act.put, List.setIfInBounds_toArray, List.set_cons_zero, List.set_cons_succ, i64_w, i32_w]
                                      rfl
                                    refine pure_ (i := 15) (N := some 91) (v := ?_) (a' := ?_) #[true, true, true, true, true, true, true, true, true, true, true, true, true, true, true, true, false, false, false, false] rfl rfl (any_of HT_.out (by kernel_rfl)) (fun _ _ _ h => h) (Or.inl ⟨by rfl, ?_⟩) ?_ ?_
                                    rotate_left
                                    · intro w'
                                      go_simp
                                      with_reducible rfl
                                    rotate_left
                                    · simp only [Act.put, List.setIfInBounds_toArray, List.set_cons_zero, List.set_cons_succ, i64_w, i32_w]
                                      rfl
                                    refine pure_ (i := 16) (N := some 92) (v := ?_) (a' := ?_) #[true, true, true, true, true, true, true, true, true, true, true, true, true, true, true, true, true, false, false, false] rfl rfl (any_of HT_.out (by kernel_rfl)) (fun _ _ _ h => h) (Or.inl ⟨by rfl, ?_⟩) ?_ ?_
                                    rotate_left
                                    · intro w'
                                      go_simp
                                      with_reducible rfl
                                    rotate_left
                                    · simp only [Act.put, List.setIfInBounds_toArray, List.set_cons_zero, List.set_cons_succ, i64_w, i32_w]
                                      rfl
                                    refine one_ (i := 17) (N := some 12) #[true, true, true, true, true, true, true, true, true, true, true, true, true, true, true, true, true, true, false, false] rfl rfl (one_of HT_.out (by kernel_rfl)) (by decide) (fun K hK => ?_)
                                    refine box_step ?hg (N := 12) ?hd (cs := #[.int .i64 0, .int .i64 0, .bool false]) (t := 43) ?hr ?_; (case hd => rfl); (case hg => rfl); (case hr => first | (go_simp; done) | (go_simp; rfl))
                                    intro gb308 hg w51 hbox hb
                                    have n0_ := Aside0.mk (Kd.R_below (by (with_reducible repeat (first | apply Kd.R_alloc | apply Kd.R_drewN | apply Kd.R_drew)); exact HO_10.out) hb)
                                    have n1_ := Aside0.mk (blk_below (g := gb288) (o := .cells #[.int .i64 a2_0, .int .i64 a2_1] 41 (0, 0)) (by (with_reducible repeat (first | refine blk_drewN ?_ _ | refine blk_drew ?_ | refine blk_alloc ?_ _)); exact BK288.out) hb)
                                    have n2_ := Aside0.mk (below_step (by repeat (first | (with_reducible first | exact HB.out | apply below_alloc | apply pw_below_drewN | apply below_drew1 | refine below_set ?_ GE288.out) | exact HB.out)) hb)
                                    have n3_ := Aside0.mk (hbox)
                                    have n4_ := Aside0.mk ((by rw [hg]; exact (below_size (by repeat (first | (with_reducible first | exact HB.out | apply below_alloc | apply pw_below_drewN | apply below_drew1 | refine below_set ?_ GE288.out) | exact HB.out))) : w.heap.size ≤ gb308))
                                    have n5_ := Aside0.mk ((by rw [hg]; exact (below_size (by repeat (first | (with_reducible first | exact HB.out | apply below_alloc | apply pw_below_drewN | apply below_drew1 | refine below_set ?_ GE288.out) | exact HB.out))) : w.heap.size ≤ gb308))
                                    have n6_ := Aside0.mk ((by rw [hg]; exact Nat.ne_of_lt (blk_lt (g := gb288) (o := .cells #[.int .i64 a2_0, .int .i64 a2_1] 41 (0, 0)) (by (with_reducible repeat (first | refine blk_drewN ?_ _ | refine blk_drew ?_ | refine blk_alloc ?_ _)); exact BK288.out)) : gb288 ≠ gb308))
                                    have n7_ := Aside0.mk ((by rw [hg]; exact Nat.ne_of_gt (blk_lt (g := gb288) (o := .cells #[.int .i64 a2_0, .int .i64 a2_1] 41 (0, 0)) (by (with_reducible repeat (first | refine blk_drewN ?_ _ | refine blk_drew ?_ | refine blk_alloc ?_ _)); exact BK288.out)) : gb308 ≠ gb288))
                                    clear HO_10
                                    clear BK288
                                    clear HB
                                    have HO_10 := n0_
                                    have BK288 := n1_
                                    have HB := n2_
                                    have BK308 := n3_
                                    have GW308 := n4_
                                    have GE308 := n5_
                                    have NB288_308 := n6_
                                    have NB308_288 := n7_
                                    clear n0_ n1_ n2_ n3_ n4_ n5_ n6_ n7_
                                    clear hb hbox hg
                                    refine hK.out _ _ ⟨(blk_cell BK288.out 0).trans rfl, (blk_cell BK288.out 1).trans rfl, ((HB.out.cell (World.block_lt_of_cell? w _ hw303_0)).trans hw303_0), ((HB.out.cell (World.block_lt_of_cell? w _ hw303_1)).trans hw303_1), ((HB.out.cell (World.block_lt_of_cell? w _ hw303_2)).trans hw303_2), ((HB.out.cell (World.block_lt_of_cell? w _ hw303_3)).trans hw303_3)⟩ (fun hHeld => ?_)
                                    clear hK K
                                    refine norm_ (a' := ?_) ?_ ?_
                                    rotate_left
                                    · show Act.put _ (some 12) _ = _
                                      simp only [Act.put, List.setIfInBounds_toArray, List.set_cons_zero, List.set_cons_succ, i64_w, i32_w]
                                      rfl
                                    exact norm_ (by simp only [putAll, Act.put, List.setIfInBounds_toArray, List.set_cons_zero, List.set_cons_succ]) (hCont (gb308) _ ⟨hHeld, (by (with_reducible repeat (first | apply Kd.R_alloc | apply Kd.R_drewN | apply Kd.R_drew)); exact HO_10.out), (by (with_reducible repeat (first | refine blk_drewN ?_ _ | refine blk_drew ?_ | refine blk_alloc ?_ _)); exact BK288.out), (by (with_reducible repeat (first | refine blk_drewN ?_ _ | refine blk_drew ?_ | refine blk_alloc ?_ _)); exact BK308.out), GW308.out, GE308.out, NB288_308.out, NB308_288.out, (by repeat (first | (with_reducible first | exact HB.out | apply below_alloc | apply pw_below_drewN | apply below_drew1 | refine below_set ?_ GE288.out | refine below_set ?_ GE308.out) | exact HB.out))⟩)
                                  · skip
                                    refine box_step ?hg (N := 12) ?hd (cs := #[.int .i64 0, .int .i64 0, .bool false]) (t := 43) ?hr ?_; (case hd => rfl); (case hg => rfl); (case hr => first | (go_simp; done) | (go_simp; rfl))
                                    intro gb308 hg w50 hbox hb
                                    have n0_ := Aside0.mk (Kd.R_below (by (with_reducible repeat (first | apply Kd.R_alloc | apply Kd.R_drewN | apply Kd.R_drew)); exact HO_10.out) hb)
                                    have n1_ := Aside0.mk (blk_below (g := gb288) (o := .cells #[.int .i64 a2_0, .int .i64 a2_1] 41 (0, 0)) (by (with_reducible repeat (first | refine blk_drewN ?_ _ | refine blk_drew ?_ | refine blk_alloc ?_ _)); exact BK288.out) hb)
                                    have n2_ := Aside0.mk (below_step (by repeat (first | (with_reducible first | exact HB.out | apply below_alloc | apply pw_below_drewN | apply below_drew1 | refine below_set ?_ GE288.out) | exact HB.out)) hb)
                                    have n3_ := Aside0.mk (hbox)
                                    have n4_ := Aside0.mk ((by rw [hg]; exact (below_size (by repeat (first | (with_reducible first | exact HB.out | apply below_alloc | apply pw_below_drewN | apply below_drew1 | refine below_set ?_ GE288.out) | exact HB.out))) : w.heap.size ≤ gb308))
                                    have n5_ := Aside0.mk ((by rw [hg]; exact (below_size (by repeat (first | (with_reducible first | exact HB.out | apply below_alloc | apply pw_below_drewN | apply below_drew1 | refine below_set ?_ GE288.out) | exact HB.out))) : w.heap.size ≤ gb308))
                                    have n6_ := Aside0.mk ((by rw [hg]; exact Nat.ne_of_lt (blk_lt (g := gb288) (o := .cells #[.int .i64 a2_0, .int .i64 a2_1] 41 (0, 0)) (by (with_reducible repeat (first | refine blk_drewN ?_ _ | refine blk_drew ?_ | refine blk_alloc ?_ _)); exact BK288.out)) : gb288 ≠ gb308))
                                    have n7_ := Aside0.mk ((by rw [hg]; exact Nat.ne_of_gt (blk_lt (g := gb288) (o := .cells #[.int .i64 a2_0, .int .i64 a2_1] 41 (0, 0)) (by (with_reducible repeat (first | refine blk_drewN ?_ _ | refine blk_drew ?_ | refine blk_alloc ?_ _)); exact BK288.out)) : gb308 ≠ gb288))
                                    clear HO_10
                                    clear BK288
                                    clear HB
                                    have HO_10 := n0_
                                    have BK288 := n1_
                                    have HB := n2_
                                    have BK308 := n3_
                                    have GW308 := n4_
                                    have GE308 := n5_
                                    have NB288_308 := n6_
                                    have NB308_288 := n7_
                                    clear n0_ n1_ n2_ n3_ n4_ n5_ n6_ n7_
                                    clear hb hbox hg
                                    refine hK.out _ _ ⟨(blk_cell BK288.out 0).trans rfl, (blk_cell BK288.out 1).trans rfl, ((HB.out.cell (World.block_lt_of_cell? w _ hw303_0)).trans hw303_0), ((HB.out.cell (World.block_lt_of_cell? w _ hw303_1)).trans hw303_1), ((HB.out.cell (World.block_lt_of_cell? w _ hw303_2)).trans hw303_2), ((HB.out.cell (World.block_lt_of_cell? w _ hw303_3)).trans hw303_3)⟩ (fun hHeld => ?_)
                                    clear hK K
                                    refine norm_ (a' := ?_) ?_ ?_
                                    rotate_left
                                    · show Act.put _ (some 12) _ = _
                                      simp only [Act.put, List.setIfInBounds_toArray, List.set_cons_zero, List.set_cons_succ, i64_w, i32_w]
                                      rfl
                                    refine one_ (i := 13) (N := some 90) #[true, true, true, true, true, true, true, true, true, true, true, true, true, true, false, false, false, true, false, false] rfl rfl (one_of HT_.out (by kernel_rfl)) (by decide) (fun K hK => ?_)
                                    refine goes_ Try.func16 (by kernel_rfl) rfl #[.agg #[.int .i64 ((rd_T37 l0 t293).f0), .int .i64 ((rd_T37 l0 t293).f1), .int .i64 ((rd_T37 l0 t293).f2), .int .i64 ((rd_T37 l0 t293).f3)], .slice Ao48 t296.length co48, .int .i64 (wrap64 (a2_0 - t294)), .int .i64 (wrap64 (a2_1 - t295))] (by rfl) rfl rfl (by (try simp only [List.map_toArray, List.map_cons, List.map_nil]); first | done | rfl | (simp only [List.length_drop, List.length_take]; rfl)) ?_
                                    with_reducible refine (grant_Short.calls kj33 ((rd_T37 l0 t293).f0) ((rd_T37 l0 t293).f1) ((rd_T37 l0 t293).f2) ((rd_T37 l0 t293).f3) _ _ t296 (wrap64 (a2_0 - t294)) (wrap64 (a2_1 - t295)) t304 t305 t306 t307 _ ?side1 ?side2 A43.out).mono ?_
                                    (case side1 => repeat (first | exact (Kd.R_reads' HO_10.out).2.2 | (with_reducible refine Kd.C_alloc ?_ _) | (with_reducible refine Kd.C_drewN ?_ _) | (with_reducible refine Kd.C_drew ?_)))
                                    (case side2 => exact (Kd.R_reads' HO_10.out).2.1)
                                    rintro e w51 ⟨rfl, hb⟩
                                    refine ⟨_, rfl, ?_⟩
                                    have n0_ := Aside0.mk (Kd.R_below (by (with_reducible repeat (first | apply Kd.R_alloc | apply Kd.R_drewN | apply Kd.R_drew)); exact HO_10.out) hb)
                                    have n1_ := Aside0.mk (blk_below (g := gb288) (o := .cells #[.int .i64 a2_0, .int .i64 a2_1] 41 (0, 0)) (by (with_reducible repeat (first | refine blk_drewN ?_ _ | refine blk_drew ?_ | refine blk_alloc ?_ _)); exact BK288.out) hb)
                                    have n2_ := Aside0.mk (blk_below (g := gb308) (o := .cells #[.int .i64 0, .int .i64 0, .bool false] 43 (0, 0)) (by (with_reducible repeat (first | refine blk_drewN ?_ _ | refine blk_drew ?_ | refine blk_alloc ?_ _)); exact BK308.out) hb)
                                    have n3_ := Aside0.mk (below_step (by repeat (first | (with_reducible first | exact HB.out | apply below_alloc | apply pw_below_drewN | apply below_drew1 | refine below_set ?_ GE288.out | refine below_set ?_ GE308.out) | exact HB.out)) hb)
                                    clear HO_10
                                    clear BK288
                                    clear BK308
                                    clear HB
                                    have HO_10 := n0_
                                    have BK288 := n1_
                                    have BK308 := n2_
                                    have HB := n3_
                                    clear n0_ n1_ n2_ n3_
                                    (try clear hb)
                                    (try clear hb2)
                                    (try clear hk)
                                    (try clear hi)
                                    refine hK.out _ _ ⟨(blk_cell BK288.out 0).trans rfl, (blk_cell BK288.out 1).trans rfl, ((HB.out.cell (World.block_lt_of_cell? w _ hw303_0)).trans hw303_0), ((HB.out.cell (World.block_lt_of_cell? w _ hw303_1)).trans hw303_1), ((HB.out.cell (World.block_lt_of_cell? w _ hw303_2)).trans hw303_2), ((HB.out.cell (World.block_lt_of_cell? w _ hw303_3)).trans hw303_3)⟩ (fun hHeld => ?_)
                                    clear hK K
                                    refine norm_ (a' := ?_) ?_ ?_
                                    rotate_left
                                    · show Act.put _ (some 90) _ = _
                                      simp only [Act.put, List.setIfInBounds_toArray, List.set_cons_zero, List.set_cons_succ, i64_w, i32_w]
                                      rfl
                                    refine pure_ (i := 14) (N := some 76) (v := ?_) (a' := ?_) #[true, true, true, true, true, true, true, true, true, true, true, true, true, true, true, false, false, true, false, false] rfl rfl (any_of HT_.out (by kernel_rfl)) (fun _ _ _ h => h) (Or.inl ⟨by rfl, ?_⟩) ?_ ?_
                                    rotate_left
                                    · intro w'
                                      go_simp
                                      with_reducible rfl
                                    rotate_left
                                    · simp only [Act.put, List.setIfInBounds_toArray, List.set_cons_zero, List.set_cons_succ, i64_w, i32_w]
                                      rfl
                                    refine pure_ (i := 15) (N := some 91) (v := ?_) (a' := ?_) #[true, true, true, true, true, true, true, true, true, true, true, true, true, true, true, true, false, true, false, false] rfl rfl (any_of HT_.out (by kernel_rfl)) (fun _ _ _ h => h) (Or.inl ⟨by rfl, ?_⟩) ?_ ?_
                                    rotate_left
                                    · intro w'
                                      go_simp
                                      with_reducible rfl
                                    rotate_left
                                    · simp only [Act.put, List.setIfInBounds_toArray, List.set_cons_zero, List.set_cons_succ, i64_w, i32_w]
                                      rfl
                                    refine pure_ (i := 16) (N := some 92) (v := ?_) (a' := ?_) #[true, true, true, true, true, true, true, true, true, true, true, true, true, true, true, true, true, true, false, false] rfl rfl (any_of HT_.out (by kernel_rfl)) (fun _ _ _ h => h) (Or.inl ⟨by rfl, ?_⟩) ?_ ?_
                                    rotate_left
                                    · intro w'
                                      go_simp
                                      with_reducible rfl
                                    rotate_left
                                    · simp only [Act.put, List.setIfInBounds_toArray, List.set_cons_zero, List.set_cons_succ, i64_w, i32_w]
                                      rfl
                                    exact norm_ (by simp only [putAll, Act.put, List.setIfInBounds_toArray, List.set_cons_zero, List.set_cons_succ]) (hCont (gb308) _ ⟨hHeld, (by (with_reducible repeat (first | apply Kd.R_alloc | apply Kd.R_drewN | apply Kd.R_drew)); exact HO_10.out), (by (with_reducible repeat (first | refine blk_drewN ?_ _ | refine blk_drew ?_ | refine blk_alloc ?_ _)); exact BK288.out), (by (with_reducible repeat (first | refine blk_drewN ?_ _ | refine blk_drew ?_ | refine blk_alloc ?_ _)); exact BK308.out), GW308.out, GE308.out, NB288_308.out, NB308_288.out, (by repeat (first | (with_reducible first | exact HB.out | apply below_alloc | apply pw_below_drewN | apply below_drew1 | refine below_set ?_ GE288.out | refine below_set ?_ GE308.out) | exact HB.out))⟩)
                                rintro gb308 w52 ⟨hS_, h0_, h1_, h2_, h3_, h4_, h5_, h6_, h7_⟩
                                have n0_ : Aside0 (Kd.R k59 59 w52 w.heap.size (fun _ => True) (.slice Ao48 t296.length co48) t296) := ⟨h0_⟩
                                have n1_ : Aside0 (w52.heap[gb288]? = some (.cells #[.int .i64 a2_0, .int .i64 a2_1] 41 (0, 0))) := ⟨h1_⟩
                                have n2_ : Aside0 (w52.heap[gb308]? = some (.cells #[.int .i64 0, .int .i64 0, .bool false] 43 (0, 0))) := ⟨h2_⟩
                                have n3_ : Aside0 (w.heap.size ≤ gb308) := ⟨h3_⟩
                                have n4_ : Aside0 (w.heap.size ≤ gb308) := ⟨h4_⟩
                                have n5_ : Aside0 (gb288 ≠ gb308) := ⟨h5_⟩
                                have n6_ : Aside0 (gb308 ≠ gb288) := ⟨h6_⟩
                                have n7_ : Aside0 (Below w.heap.size w w52) := ⟨h7_⟩
                                clear HO_10
                                clear BK288
                                clear HB
                                clear h0_ h1_ h2_ h3_ h4_ h5_ h6_ h7_
                                have HO_10 := n0_
                                have BK288 := n1_
                                have BK308 := n2_
                                have GW308 := n3_
                                have GE308 := n4_
                                have NB288_308 := n5_
                                have NB308_288 := n6_
                                have HB := n7_
                                clear n0_ n1_ n2_ n3_ n4_ n5_ n6_ n7_
                                have hHeld : w52.cell? ⟨gb288, 0, none⟩ = some (.int .i64 a2_0) ∧ w52.cell? ⟨gb288, 1, none⟩ = some (.int .i64 a2_1) ∧ w52.cell? (ad303.add ((t293).toNat * 4)) = some (.int .i64 ((rd_T37 l0 t293).f0)) ∧ w52.cell? ⟨(ad303.add ((t293).toNat * 4)).block, (ad303.add ((t293).toNat * 4)).off + 1, none⟩ = some (.int .i64 ((rd_T37 l0 t293).f1)) ∧ w52.cell? ⟨(ad303.add ((t293).toNat * 4)).block, (ad303.add ((t293).toNat * 4)).off + 2, none⟩ = some (.int .i64 ((rd_T37 l0 t293).f2)) ∧ w52.cell? ⟨(ad303.add ((t293).toNat * 4)).block, (ad303.add ((t293).toNat * 4)).off + 3, none⟩ = some (.int .i64 ((rd_T37 l0 t293).f3)) := hS_
                                refine norm_ (a' := ?_) ?_ ?_
                                rotate_left
                                · simp only [putAll, Act.put, List.setIfInBounds_toArray, List.set_cons_zero, List.set_cons_succ]
                                  rfl
                                refine one_ (i := 18) (N := none) #[true, true, true, true, true, true, true, true, true, true, true, true, true, true, true, true, true, true, true, false] rfl rfl (one_of HT_.out (by kernel_rfl)) (by decide) (fun K hK => ?_)
                                have hs53 : w52.cell? ⟨gb308, 0, none⟩ = some (.int .i64 0) := (blk_cell BK308.out 0).trans rfl
                                have hfs53 := blk_frozen BK308.out 0
                                have hns53_0 := NB288_308.out
                                have hms53_0 := NB308_288.out
                                have hs54 : w52.cell? ⟨gb308, 1, none⟩ = some (.int .i64 0) := (blk_cell BK308.out 1).trans rfl
                                have hfs54 := blk_frozen BK308.out 1
                                have hns54_0 := NB288_308.out
                                have hms54_0 := NB308_288.out
                                have hs55 : w52.cell? ⟨gb308, 2, none⟩ = some (.bool false) := (blk_cell BK308.out 2).trans rfl
                                have hfs55 := blk_frozen BK308.out 2
                                have hns55_0 := NB288_308.out
                                have hms55_0 := NB308_288.out
                                refine skip_ (w1 := ?_) (by rfl) rfl ?_ ?_
                                rotate_left
                                · go_simp
                                  rfl
                                refine hK.out _ _ ⟨((cell_far (p := ⟨gb308, _, none⟩) NB288_308.out _).trans (((cell_far (p := ⟨gb308, _, none⟩) NB288_308.out _).trans (((cell_far (p := ⟨gb308, _, none⟩) NB288_308.out _).trans (hHeld.1)))))), ((cell_far (p := ⟨gb308, _, none⟩) NB288_308.out _).trans (((cell_far (p := ⟨gb308, _, none⟩) NB288_308.out _).trans (((cell_far (p := ⟨gb308, _, none⟩) NB288_308.out _).trans (hHeld.2.1)))))), ((cell_far (p := ⟨gb308, _, none⟩) (by first | exact Nat.ne_of_lt (Nat.lt_of_lt_of_le (by have := World.block_lt_of_cell? _ _ hw303_0; first | rwa [add_block] at this | exact this) GW308.out) | (rw [add_block]; exact Nat.ne_of_lt (Nat.lt_of_lt_of_le (by have := World.block_lt_of_cell? _ _ hw303_0; first | rwa [add_block] at this | exact this) GW308.out)) | (show (Addr.add _ _).block ≠ _; rw [add_block]; exact Nat.ne_of_lt (Nat.lt_of_lt_of_le (by have := World.block_lt_of_cell? _ _ hw303_0; first | rwa [add_block] at this | exact this) GW308.out)) | (dsimp only; exact Nat.ne_of_lt (Nat.lt_of_lt_of_le (by have := World.block_lt_of_cell? _ _ hw303_0; first | rwa [add_block] at this | exact this) GW308.out))) _).trans (((cell_far (p := ⟨gb308, _, none⟩) (by first | exact Nat.ne_of_lt (Nat.lt_of_lt_of_le (by have := World.block_lt_of_cell? _ _ hw303_0; first | rwa [add_block] at this | exact this) GW308.out) | (rw [add_block]; exact Nat.ne_of_lt (Nat.lt_of_lt_of_le (by have := World.block_lt_of_cell? _ _ hw303_0; first | rwa [add_block] at this | exact this) GW308.out)) | (show (Addr.add _ _).block ≠ _; rw [add_block]; exact Nat.ne_of_lt (Nat.lt_of_lt_of_le (by have := World.block_lt_of_cell? _ _ hw303_0; first | rwa [add_block] at this | exact this) GW308.out)) | (dsimp only; exact Nat.ne_of_lt (Nat.lt_of_lt_of_le (by have := World.block_lt_of_cell? _ _ hw303_0; first | rwa [add_block] at this | exact this) GW308.out))) _).trans (((cell_far (p := ⟨gb308, _, none⟩) (by first | exact Nat.ne_of_lt (Nat.lt_of_lt_of_le (by have := World.block_lt_of_cell? _ _ hw303_0; first | rwa [add_block] at this | exact this) GW308.out) | (rw [add_block]; exact Nat.ne_of_lt (Nat.lt_of_lt_of_le (by have := World.block_lt_of_cell? _ _ hw303_0; first | rwa [add_block] at this | exact this) GW308.out)) | (show (Addr.add _ _).block ≠ _; rw [add_block]; exact Nat.ne_of_lt (Nat.lt_of_lt_of_le (by have := World.block_lt_of_cell? _ _ hw303_0; first | rwa [add_block] at this | exact this) GW308.out)) | (dsimp only; exact Nat.ne_of_lt (Nat.lt_of_lt_of_le (by have := World.block_lt_of_cell? _ _ hw303_0; first | rwa [add_block] at this | exact this) GW308.out))) _).trans (hHeld.2.2.1)))))), ((cell_far (p := ⟨gb308, _, none⟩) (by first | exact Nat.ne_of_lt (Nat.lt_of_lt_of_le (by have := World.block_lt_of_cell? _ _ hw303_1; first | rwa [add_block] at this | exact this) GW308.out) | (rw [add_block]; exact Nat.ne_of_lt (Nat.lt_of_lt_of_le (by have := World.block_lt_of_cell? _ _ hw303_1; first | rwa [add_block] at this | exact this) GW308.out)) | (show (Addr.add _ _).block ≠ _; rw [add_block]; exact Nat.ne_of_lt (Nat.lt_of_lt_of_le (by have := World.block_lt_of_cell? _ _ hw303_1; first | rwa [add_block] at this | exact this) GW308.out)) | (dsimp only; exact Nat.ne_of_lt (Nat.lt_of_lt_of_le (by have := World.block_lt_of_cell? _ _ hw303_1; first | rwa [add_block] at this | exact this) GW308.out))) _).trans (((cell_far (p := ⟨gb308, _, none⟩) (by first | exact Nat.ne_of_lt (Nat.lt_of_lt_of_le (by have := World.block_lt_of_cell? _ _ hw303_1; first | rwa [add_block] at this | exact this) GW308.out) | (rw [add_block]; exact Nat.ne_of_lt (Nat.lt_of_lt_of_le (by have := World.block_lt_of_cell? _ _ hw303_1; first | rwa [add_block] at this | exact this) GW308.out)) | (show (Addr.add _ _).block ≠ _; rw [add_block]; exact Nat.ne_of_lt (Nat.lt_of_lt_of_le (by have := World.block_lt_of_cell? _ _ hw303_1; first | rwa [add_block] at this | exact this) GW308.out)) | (dsimp only; exact Nat.ne_of_lt (Nat.lt_of_lt_of_le (by have := World.block_lt_of_cell? _ _ hw303_1; first | rwa [add_block] at this | exact this) GW308.out))) _).trans (((cell_far (p := ⟨gb308, _, none⟩) (by first | exact Nat.ne_of_lt (Nat.lt_of_lt_of_le (by have := World.block_lt_of_cell? _ _ hw303_1; first | rwa [add_block] at this | exact this) GW308.out) | (rw [add_block]; exact Nat.ne_of_lt (Nat.lt_of_lt_of_le (by have := World.block_lt_of_cell? _ _ hw303_1; first | rwa [add_block] at this | exact this) GW308.out)) | (show (Addr.add _ _).block ≠ _; rw [add_block]; exact Nat.ne_of_lt (Nat.lt_of_lt_of_le (by have := World.block_lt_of_cell? _ _ hw303_1; first | rwa [add_block] at this | exact this) GW308.out)) | (dsimp only; exact Nat.ne_of_lt (Nat.lt_of_lt_of_le (by have := World.block_lt_of_cell? _ _ hw303_1; first | rwa [add_block] at this | exact this) GW308.out))) _).trans (hHeld.2.2.2.1)))))), ((cell_far (p := ⟨gb308, _, none⟩) (by first | exact Nat.ne_of_lt (Nat.lt_of_lt_of_le (by have := World.block_lt_of_cell? _ _ hw303_2; first | rwa [add_block] at this | exact this) GW308.out) | (rw [add_block]; exact Nat.ne_of_lt (Nat.lt_of_lt_of_le (by have := World.block_lt_of_cell? _ _ hw303_2; first | rwa [add_block] at this | exact this) GW308.out)) | (show (Addr.add _ _).block ≠ _; rw [add_block]; exact Nat.ne_of_lt (Nat.lt_of_lt_of_le (by have := World.block_lt_of_cell? _ _ hw303_2; first | rwa [add_block] at this | exact this) GW308.out)) | (dsimp only; exact Nat.ne_of_lt (Nat.lt_of_lt_of_le (by have := World.block_lt_of_cell? _ _ hw303_2; first | rwa [add_block] at this | exact this) GW308.out))) _).trans (((cell_far (p := ⟨gb308, _, none⟩) (by first | exact Nat.ne_of_lt (Nat.lt_of_lt_of_le (by have := World.block_lt_of_cell? _ _ hw303_2; first | rwa [add_block] at this | exact this) GW308.out) | (rw [add_block]; exact Nat.ne_of_lt (Nat.lt_of_lt_of_le (by have := World.block_lt_of_cell? _ _ hw303_2; first | rwa [add_block] at this | exact this) GW308.out)) | (show (Addr.add _ _).block ≠ _; rw [add_block]; exact Nat.ne_of_lt (Nat.lt_of_lt_of_le (by have := World.block_lt_of_cell? _ _ hw303_2; first | rwa [add_block] at this | exact this) GW308.out)) | (dsimp only; exact Nat.ne_of_lt (Nat.lt_of_lt_of_le (by have := World.block_lt_of_cell? _ _ hw303_2; first | rwa [add_block] at this | exact this) GW308.out))) _).trans (((cell_far (p := ⟨gb308, _, none⟩) (by first | exact Nat.ne_of_lt (Nat.lt_of_lt_of_le (by have := World.block_lt_of_cell? _ _ hw303_2; first | rwa [add_block] at this | exact this) GW308.out) | (rw [add_block]; exact Nat.ne_of_lt (Nat.lt_of_lt_of_le (by have := World.block_lt_of_cell? _ _ hw303_2; first | rwa [add_block] at this | exact this) GW308.out)) | (show (Addr.add _ _).block ≠ _; rw [add_block]; exact Nat.ne_of_lt (Nat.lt_of_lt_of_le (by have := World.block_lt_of_cell? _ _ hw303_2; first | rwa [add_block] at this | exact this) GW308.out)) | (dsimp only; exact Nat.ne_of_lt (Nat.lt_of_lt_of_le (by have := World.block_lt_of_cell? _ _ hw303_2; first | rwa [add_block] at this | exact this) GW308.out))) _).trans (hHeld.2.2.2.2.1)))))), ((cell_far (p := ⟨gb308, _, none⟩) (by first | exact Nat.ne_of_lt (Nat.lt_of_lt_of_le (by have := World.block_lt_of_cell? _ _ hw303_3; first | rwa [add_block] at this | exact this) GW308.out) | (rw [add_block]; exact Nat.ne_of_lt (Nat.lt_of_lt_of_le (by have := World.block_lt_of_cell? _ _ hw303_3; first | rwa [add_block] at this | exact this) GW308.out)) | (show (Addr.add _ _).block ≠ _; rw [add_block]; exact Nat.ne_of_lt (Nat.lt_of_lt_of_le (by have := World.block_lt_of_cell? _ _ hw303_3; first | rwa [add_block] at this | exact this) GW308.out)) | (dsimp only; exact Nat.ne_of_lt (Nat.lt_of_lt_of_le (by have := World.block_lt_of_cell? _ _ hw303_3; first | rwa [add_block] at this | exact this) GW308.out))) _).trans (((cell_far (p := ⟨gb308, _, none⟩) (by first | exact Nat.ne_of_lt (Nat.lt_of_lt_of_le (by have := World.block_lt_of_cell? _ _ hw303_3; first | rwa [add_block] at this | exact this) GW308.out) | (rw [add_block]; exact Nat.ne_of_lt (Nat.lt_of_lt_of_le (by have := World.block_lt_of_cell? _ _ hw303_3; first | rwa [add_block] at this | exact this) GW308.out)) | (show (Addr.add _ _).block ≠ _; rw [add_block]; exact Nat.ne_of_lt (Nat.lt_of_lt_of_le (by have := World.block_lt_of_cell? _ _ hw303_3; first | rwa [add_block] at this | exact this) GW308.out)) | (dsimp only; exact Nat.ne_of_lt (Nat.lt_of_lt_of_le (by have := World.block_lt_of_cell? _ _ hw303_3; first | rwa [add_block] at this | exact this) GW308.out))) _).trans (((cell_far (p := ⟨gb308, _, none⟩) (by first | exact Nat.ne_of_lt (Nat.lt_of_lt_of_le (by have := World.block_lt_of_cell? _ _ hw303_3; first | rwa [add_block] at this | exact this) GW308.out) | (rw [add_block]; exact Nat.ne_of_lt (Nat.lt_of_lt_of_le (by have := World.block_lt_of_cell? _ _ hw303_3; first | rwa [add_block] at this | exact this) GW308.out)) | (show (Addr.add _ _).block ≠ _; rw [add_block]; exact Nat.ne_of_lt (Nat.lt_of_lt_of_le (by have := World.block_lt_of_cell? _ _ hw303_3; first | rwa [add_block] at this | exact this) GW308.out)) | (dsimp only; exact Nat.ne_of_lt (Nat.lt_of_lt_of_le (by have := World.block_lt_of_cell? _ _ hw303_3; first | rwa [add_block] at this | exact this) GW308.out))) _).trans (hHeld.2.2.2.2.2))))))⟩ (fun hHeld => ?_)
                                clear hK K
                                refine pure_ (i := 19) (N := some 13) (v := ?_) (a' := ?_) #[true, true, true, true, true, true, true, true, true, true, true, true, true, true, true, true, true, true, true, true] rfl rfl (any_of HT_.out (by kernel_rfl)) (fun _ _ _ h => h) (Or.inl ⟨by rfl, ?_⟩) ?_ ?_
                                rotate_left
                                · intro w'
                                  go_simp
                                  with_reducible rfl
                                rotate_left
                                · simp only [Act.put, List.setIfInBounds_toArray, List.set_cons_zero, List.set_cons_succ, i64_w, i32_w]
                                  rfl
                                refine done_ (done_of HT_.out (by kernel_rfl)) ?_
                                have hnb56 := NB288_308.out
                                have hnc56 := NB308_288.out
                                have hcz57_0 : w52.cell? ⟨gb288, 0, none⟩ = some (.int .i64 a2_0) := (blk_cell BK288.out 0).trans rfl
                                have hcz57_1 : w52.cell? ⟨gb288, 1, none⟩ = some (.int .i64 a2_1) := (blk_cell BK288.out 1).trans rfl
                                have hfz57_0 := blk_frozen BK288.out 0
                                have hfz57_1 := blk_frozen BK288.out 1
                                try go_wp2
                                have n0_ : Aside0 (Kd.R k59 59 (((w52.setCell ⟨gb308, 0, none⟩ (.int .i64 t304)).setCell ⟨gb308, 1, none⟩ (.int .i64 t305)).setCell ⟨gb308, 2, none⟩ (.bool t306)) w.heap.size (fun _ => True) (.slice Ao48 t296.length co48) t296) := ⟨by (with_reducible repeat (first | apply Kd.R_alloc | apply Kd.R_drewN | apply Kd.R_drew)); exact Kd.R_mono (Kd.R_far (p := ⟨gb308, 2, none⟩) (Kd.R_far (p := ⟨gb308, 1, none⟩) (Kd.R_far (p := ⟨gb308, 0, none⟩) (Kd.R_types HO_10.out BK308.out (by decide)) (fun _ hk => hk.2) (.int .i64 t304)) (fun _ hk => hk.2) (.int .i64 t305)) (fun _ hk => hk.2) (.bool t306)) (fun _ hk => trivial)⟩
                                have n1_ : Aside0 ((((w52.setCell ⟨gb308, 0, none⟩ (.int .i64 t304)).setCell ⟨gb308, 1, none⟩ (.int .i64 t305)).setCell ⟨gb308, 2, none⟩ (.bool t306)).heap[gb288]? = some (.cells #[.int .i64 a2_0, .int .i64 a2_1] 41 (0, 0))) := ⟨by (with_reducible repeat (first | refine blk_drewN ?_ _ | refine blk_drew ?_ | refine blk_alloc ?_ _)); refine blk_far ?_ NB288_308.out _; (with_reducible repeat (first | refine blk_drewN ?_ _ | refine blk_drew ?_ | refine blk_alloc ?_ _)); refine blk_far ?_ NB288_308.out _; (with_reducible repeat (first | refine blk_drewN ?_ _ | refine blk_drew ?_ | refine blk_alloc ?_ _)); refine blk_far ?_ NB288_308.out _; (with_reducible repeat (first | refine blk_drewN ?_ _ | refine blk_drew ?_ | refine blk_alloc ?_ _)); exact BK288.out⟩
                                have n2_ : Aside0 ((((w52.setCell ⟨gb308, 0, none⟩ (.int .i64 t304)).setCell ⟨gb308, 1, none⟩ (.int .i64 t305)).setCell ⟨gb308, 2, none⟩ (.bool t306)).heap[gb308]? = some (.cells #[.int .i64 t304, .int .i64 t305, .bool t306] 43 (0, 0))) := ⟨by (with_reducible repeat (first | refine blk_drewN ?_ _ | refine blk_drew ?_ | refine blk_alloc ?_ _)); refine blk_put (cs := #[.int .i64 t304, .int .i64 t305, .bool false]) ?_ 2 _ rfl; (with_reducible repeat (first | refine blk_drewN ?_ _ | refine blk_drew ?_ | refine blk_alloc ?_ _)); refine blk_put (cs := #[.int .i64 t304, .int .i64 0, .bool false]) ?_ 1 _ rfl; (with_reducible repeat (first | refine blk_drewN ?_ _ | refine blk_drew ?_ | refine blk_alloc ?_ _)); refine blk_put (cs := #[.int .i64 0, .int .i64 0, .bool false]) ?_ 0 _ rfl; (with_reducible repeat (first | refine blk_drewN ?_ _ | refine blk_drew ?_ | refine blk_alloc ?_ _)); exact BK308.out⟩
                                have n3_ : Aside0 (Below w.heap.size w (((w52.setCell ⟨gb308, 0, none⟩ (.int .i64 t304)).setCell ⟨gb308, 1, none⟩ (.int .i64 t305)).setCell ⟨gb308, 2, none⟩ (.bool t306))) := ⟨by repeat (first | (with_reducible first | exact HB.out | apply below_alloc | apply pw_below_drewN | apply below_drew1 | refine below_set ?_ GE288.out | refine below_set ?_ GE308.out) | exact HB.out)⟩
                                (try clear HO_10)
                                (try clear BK288)
                                (try clear BK308)
                                (try clear HB)
                                generalize (((w52.setCell ⟨gb308, 0, none⟩ (.int .i64 t304)).setCell ⟨gb308, 1, none⟩ (.int .i64 t305)).setCell ⟨gb308, 2, none⟩ (.bool t306)) = w58 at n0_ n1_ n2_ n3_ ⊢
                                have HO_10 := n0_
                                have BK288 := n1_
                                have BK308 := n2_
                                have HB := n3_
                                clear n0_ n1_ n2_ n3_
                                have n0_ := Aside0.mk (Kd.R_drew HO_10.out)
                                have n1_ := Aside0.mk (blk_drew BK288.out)
                                have n2_ := Aside0.mk (blk_drew BK308.out)
                                have n3_ := Aside0.mk (below_drew1 HB.out)
                                clear HO_10
                                clear BK288
                                clear BK308
                                clear HB
                                have HO_10 := n0_
                                have BK288 := n1_
                                have BK308 := n2_
                                have HB := n3_
                                clear n0_ n1_ n2_ n3_
                                have p309 : 0 ≤ (0 : Int) := (by omega)
                                have q309 : 0 < (l0.length : Int) := of_decide_eq_true (by first | (with_reducible assumption) | assumption)
                                obtain ⟨ad309, e309, hx309_0, hx309_1, hx309_2, hx309_3⟩ := at_T37 HR0.out 0 p309 q309
                                have hw309_3 := hx309_3
                                (try rw [show ((0 : Int)).toNat = 0 from rfl] at hw309_3)
                                (try rw [show 0 * 4 = 0 from rfl] at hw309_3)
                                (try rw [Addr.add_zero'] at hw309_3)
                                have hw309_2 := hx309_2
                                (try rw [show ((0 : Int)).toNat = 0 from rfl] at hw309_2)
                                (try rw [show 0 * 4 = 0 from rfl] at hw309_2)
                                (try rw [Addr.add_zero'] at hw309_2)
                                have hw309_1 := hx309_1
                                (try rw [show ((0 : Int)).toNat = 0 from rfl] at hw309_1)
                                (try rw [show 0 * 4 = 0 from rfl] at hw309_1)
                                (try rw [Addr.add_zero'] at hw309_1)
                                have hw309_0 := hx309_0
                                (try rw [show ((0 : Int)).toNat = 0 from rfl] at hw309_0)
                                (try rw [show 0 * 4 = 0 from rfl] at hw309_0)
                                (try rw [Addr.add_zero'] at hw309_0)
                                obtain rfl : ad303 = ad309 := (by injection e309)
                                have qi309 : (0 < l0.length) = True := eq_true (by omega)
                                (try rw [show ((0 : Int)).toNat = 0 from rfl] at hx309_0)
                                (try rw [show 0 * 4 = 0 from rfl] at hx309_0)
                                (try rw [Addr.add_zero'] at hx309_0)
                                (try rw [show ((0 : Int)).toNat = 0 from rfl] at hx309_1)
                                (try rw [show 0 * 4 = 0 from rfl] at hx309_1)
                                (try rw [Addr.add_zero'] at hx309_1)
                                (try rw [show ((0 : Int)).toNat = 0 from rfl] at hx309_2)
                                (try rw [show 0 * 4 = 0 from rfl] at hx309_2)
                                (try rw [Addr.add_zero'] at hx309_2)
                                (try rw [show ((0 : Int)).toNat = 0 from rfl] at hx309_3)
                                (try rw [show 0 * 4 = 0 from rfl] at hx309_3)
                                (try rw [Addr.add_zero'] at hx309_3)
                                replace hx309_0 := (HB.out.cell (World.block_lt_of_cell? w _ hx309_0)).trans hx309_0
                                replace hx309_1 := (HB.out.cell (World.block_lt_of_cell? w _ hx309_1)).trans hx309_1
                                replace hx309_2 := (HB.out.cell (World.block_lt_of_cell? w _ hx309_2)).trans hx309_2
                                replace hx309_3 := (HB.out.cell (World.block_lt_of_cell? w _ hx309_3)).trans hx309_3
                                replace p309 := eq_true p309
                                replace q309 := eq_true q309
                                refine start_ (n := 14) (S := fun w' => w'.cell? ⟨gb288, 0, none⟩ = some (.int .i64 a2_0) ∧ w'.cell? ⟨gb288, 1, none⟩ = some (.int .i64 a2_1) ∧ w'.cell? ad303 = some (.int .i64 ((rd_T37 l0 0).f0)) ∧ w'.cell? ⟨ad303.block, ad303.off + 1, none⟩ = some (.int .i64 ((rd_T37 l0 0).f1)) ∧ w'.cell? ⟨ad303.block, ad303.off + 2, none⟩ = some (.int .i64 ((rd_T37 l0 0).f2)) ∧ w'.cell? ⟨ad303.block, ad303.off + 3, none⟩ = some (.int .i64 ((rd_T37 l0 0).f3))) (ds := []) #[false, false, false, false, false, false, false, false, false, false, false, false, false, false] (by kernel_rfl) rfl rfl ⟨(blk_cell BK288.out 0).trans rfl, (blk_cell BK288.out 1).trans rfl, ((HB.out.cell (World.block_lt_of_cell? w _ hw309_0)).trans hw309_0), ((HB.out.cell (World.block_lt_of_cell? w _ hw309_1)).trans hw309_1), ((HB.out.cell (World.block_lt_of_cell? w _ hw309_2)).trans hw309_2), ((HB.out.cell (World.block_lt_of_cell? w _ hw309_3)).trans hw309_3)⟩ (fun hHeld => ?_); refine with_tabW estoverslaw21_GrantFifo.tab12 estoverslaw21_GrantFifo.bits12 (fun HT_ HW_ => ?_)
                                generalize w58.drew = w59 at HO_10 BK288 BK308 HB hx309_0 hx309_1 hx309_2 hx309_3 hHeld ⊢
                                refine pure_ (i := 0) (N := some 102) (v := ?_) (a' := ?_) #[true, false, false, false, false, false, false, false, false, false, false, false, false, false] rfl rfl (any_of HT_.out (by kernel_rfl)) (fun _ _ _ h => h) (Or.inl ⟨by rfl, ?_⟩) ?_ ?_
                                rotate_left
                                · intro w'
                                  go_simp
                                  with_reducible rfl
                                rotate_left
                                · simp only [Act.put, List.setIfInBounds_toArray, List.set_cons_zero, List.set_cons_succ, i64_w, i32_w]
                                  rfl
                                refine pure_ (i := 1) (N := some 103) (v := ?_) (a' := ?_) #[true, true, false, false, false, false, false, false, false, false, false, false, false, false] rfl rfl (any_of HT_.out (by kernel_rfl)) (fun _ _ _ h => h) (Or.inl ⟨by rfl, ?_⟩) ?_ ?_
                                rotate_left
                                · intro w'
                                  go_simp
                                  with_reducible rfl
                                rotate_left
                                · simp only [Act.put, List.setIfInBounds_toArray, List.set_cons_zero, List.set_cons_succ, i64_w, i32_w]
                                  rfl
                                refine pure_ (i := 3) (N := some 105) (v := ?_) (a' := ?_) #[true, true, false, true, false, false, false, false, false, false, false, false, false, false] rfl rfl (any_of HT_.out (by kernel_rfl)) (fun _ _ _ h => h) (Or.inl ⟨by rfl, ?_⟩) ?_ ?_
                                rotate_left
                                · intro w'
                                  go_simp
                                  with_reducible rfl
                                rotate_left
                                · simp only [Act.put, List.setIfInBounds_toArray, List.set_cons_zero, List.set_cons_succ, i64_w, i32_w]
                                  rfl
                                refine pure_ (i := 4) (N := some 106) (v := ?_) (a' := ?_) #[true, true, false, true, true, false, false, false, false, false, false, false, false, false] rfl rfl (any_of HT_.out (by kernel_rfl)) (fun _ _ _ h => h) (Or.inl ⟨by rfl, ?_⟩) ?_ ?_
                                rotate_left
                                · intro w'
                                  go_simp
                                  with_reducible rfl
                                rotate_left
                                · simp only [Act.put, List.setIfInBounds_toArray, List.set_cons_zero, List.set_cons_succ, i64_w, i32_w]
                                  rfl
                                refine pure_ (i := 6) (N := some 108) (v := ?_) (a' := ?_) #[true, true, false, true, true, false, true, false, false, false, false, false, false, false] rfl rfl (any_of HT_.out (by kernel_rfl)) (fun _ _ _ h => h) (Or.inl ⟨by rfl, ?_⟩) ?_ ?_
                                rotate_left
                                · intro w'
                                  go_simp
                                  with_reducible rfl
                                rotate_left
                                · simp only [Act.put, List.setIfInBounds_toArray, List.set_cons_zero, List.set_cons_succ, i64_w, i32_w]
                                  rfl
                                refine take_ (i := 2) (N := some 104) (v := ?_) (a' := ?_) #[true, true, true, true, true, false, true, false, false, false, false, false, false, false] rfl rfl (take_ofW HT_.out HW_.out (by kernel_rfl)) (fun _ _ _ h => h) (Or.inl ⟨by rfl, ?_⟩) hHeld ?_ ?_
                                rotate_left
                                · rintro w' ⟨s0, s1, s2, s3, s4, s5⟩
                                  go_simp
                                  with_reducible rfl
                                rotate_left
                                · simp only [Act.put, List.setIfInBounds_toArray, List.set_cons_zero, List.set_cons_succ, i64_w, i32_w]
                                  rfl
                                refine take_ (i := 5) (N := some 107) (v := ?_) (a' := ?_) #[true, true, true, true, true, true, true, false, false, false, false, false, false, false] rfl rfl (take_ofW HT_.out HW_.out (by kernel_rfl)) (fun _ _ _ h => h) (Or.inl ⟨by rfl, ?_⟩) hHeld ?_ ?_
                                rotate_left
                                · rintro w' ⟨s0, s1, s2, s3, s4, s5⟩
                                  go_simp
                                  with_reducible rfl
                                rotate_left
                                · simp only [Act.put, List.setIfInBounds_toArray, List.set_cons_zero, List.set_cons_succ, i64_w, i32_w]
                                  rfl
                                refine take_ (i := 7) (N := some 109) (v := ?_) (a' := ?_) #[true, true, true, true, true, true, true, true, false, false, false, false, false, false] rfl rfl (take_ofW HT_.out HW_.out (by kernel_rfl)) (fun _ _ _ h => h) (Or.inl ⟨by rfl, ?_⟩) hHeld ?_ ?_
                                rotate_left
                                · rintro w' ⟨s0, s1, s2, s3, s4, s5⟩
                                  go_simp
                                  with_reducible rfl
                                rotate_left
                                · simp only [Act.put, List.setIfInBounds_toArray, List.set_cons_zero, List.set_cons_succ, i64_w, i32_w]
                                  rfl
                                refine one_ (i := 8) (N := some 110) #[true, true, true, true, true, true, true, true, true, false, false, false, false, false] rfl rfl (one_of HT_.out (by kernel_rfl)) (by decide) (fun K hK => ?_)
                                refine goes_ Try.func16 (by kernel_rfl) rfl #[.agg #[.int .i64 ((rd_T37 l0 0).f0), .int .i64 ((rd_T37 l0 0).f1), .int .i64 ((rd_T37 l0 0).f2), .int .i64 ((rd_T37 l0 0).f3)], .slice A1 l1.length c1, .int .i64 a2_0, .int .i64 a2_1] (by rfl) rfl rfl (by (try simp only [List.map_toArray, List.map_cons, List.map_nil]); first | done | rfl | (simp only [List.length_drop, List.length_take]; rfl)) ?_
                                with_reducible refine (grant_Short.calls kj33 ((rd_T37 l0 0).f0) ((rd_T37 l0 0).f1) ((rd_T37 l0 0).f2) ((rd_T37 l0 0).f3) _ _ l1 a2_0 a2_1 t310 t311 t312 t313 _ ?side1 ?side2 A46.out).mono ?_
                                (case side1 => repeat (first | exact (Kd.C_below HR1.out HB.out) | (with_reducible refine Kd.C_alloc ?_ _) | (with_reducible refine Kd.C_drewN ?_ _) | (with_reducible refine Kd.C_drew ?_)))
                                (case side2 => exact HC1.out)
                                rintro e w60 ⟨rfl, hb⟩
                                refine ⟨_, rfl, ?_⟩
                                have n0_ := Aside0.mk (Kd.R_below (by (with_reducible repeat (first | apply Kd.R_alloc | apply Kd.R_drewN | apply Kd.R_drew)); exact HO_10.out) hb)
                                have n1_ := Aside0.mk (blk_below (g := gb288) (o := .cells #[.int .i64 a2_0, .int .i64 a2_1] 41 (0, 0)) (by (with_reducible repeat (first | refine blk_drewN ?_ _ | refine blk_drew ?_ | refine blk_alloc ?_ _)); exact BK288.out) hb)
                                have n2_ := Aside0.mk (blk_below (g := gb308) (o := .cells #[.int .i64 t304, .int .i64 t305, .bool t306] 43 (0, 0)) (by (with_reducible repeat (first | refine blk_drewN ?_ _ | refine blk_drew ?_ | refine blk_alloc ?_ _)); exact BK308.out) hb)
                                have n3_ := Aside0.mk (below_step (by repeat (first | (with_reducible first | exact HB.out | apply below_alloc | apply pw_below_drewN | apply below_drew1 | refine below_set ?_ GE288.out | refine below_set ?_ GE308.out) | exact HB.out)) hb)
                                clear HO_10
                                clear BK288
                                clear BK308
                                clear HB
                                have HO_10 := n0_
                                have BK288 := n1_
                                have BK308 := n2_
                                have HB := n3_
                                clear n0_ n1_ n2_ n3_
                                (try clear hb)
                                (try clear hb2)
                                (try clear hk)
                                (try clear hi)
                                refine hK.out _ _ ⟨(blk_cell BK288.out 0).trans rfl, (blk_cell BK288.out 1).trans rfl, ((HB.out.cell (World.block_lt_of_cell? w _ hw309_0)).trans hw309_0), ((HB.out.cell (World.block_lt_of_cell? w _ hw309_1)).trans hw309_1), ((HB.out.cell (World.block_lt_of_cell? w _ hw309_2)).trans hw309_2), ((HB.out.cell (World.block_lt_of_cell? w _ hw309_3)).trans hw309_3)⟩ (fun hHeld => ?_)
                                clear hK K
                                refine norm_ (a' := ?_) ?_ ?_
                                rotate_left
                                · show Act.put _ (some 110) _ = _
                                  simp only [Act.put, List.setIfInBounds_toArray, List.set_cons_zero, List.set_cons_succ, i64_w, i32_w]
                                  rfl
                                refine pure_ (i := 9) (N := some 101) (v := ?_) (a' := ?_) #[true, true, true, true, true, true, true, true, true, true, false, false, false, false] rfl rfl (any_of HT_.out (by kernel_rfl)) (fun _ _ _ h => h) (Or.inl ⟨by rfl, ?_⟩) ?_ ?_
                                rotate_left
                                · intro w'
                                  go_simp
                                  with_reducible rfl
                                rotate_left
                                · simp only [Act.put, List.setIfInBounds_toArray, List.set_cons_zero, List.set_cons_succ, i64_w, i32_w]
                                  rfl
                                refine pure_ (i := 10) (N := some 111) (v := ?_) (a' := ?_) #[true, true, true, true, true, true, true, true, true, true, true, false, false, false] rfl rfl (any_of HT_.out (by kernel_rfl)) (fun _ _ _ h => h) (Or.inl ⟨by rfl, ?_⟩) ?_ ?_
                                rotate_left
                                · intro w'
                                  go_simp
                                  with_reducible rfl
                                rotate_left
                                · simp only [Act.put, List.setIfInBounds_toArray, List.set_cons_zero, List.set_cons_succ, i64_w, i32_w]
                                  rfl
                                refine pure_ (i := 11) (N := some 112) (v := ?_) (a' := ?_) #[true, true, true, true, true, true, true, true, true, true, true, true, false, false] rfl rfl (any_of HT_.out (by kernel_rfl)) (fun _ _ _ h => h) (Or.inl ⟨by rfl, ?_⟩) ?_ ?_
                                rotate_left
                                · intro w'
                                  go_simp
                                  with_reducible rfl
                                rotate_left
                                · simp only [Act.put, List.setIfInBounds_toArray, List.set_cons_zero, List.set_cons_succ, i64_w, i32_w]
                                  rfl
                                refine one_ (i := 12) (N := none) #[true, true, true, true, true, true, true, true, true, true, true, true, true, false] rfl rfl (one_of HT_.out (by kernel_rfl)) (by decide) (fun K hK => ?_)
                                have hs61 : w60.cell? ⟨gb308, 0, none⟩ = some (.int .i64 t304) := (blk_cell BK308.out 0).trans rfl
                                have hfs61 := blk_frozen BK308.out 0
                                have hns61_0 := NB288_308.out
                                have hms61_0 := NB308_288.out
                                have hs62 : w60.cell? ⟨gb308, 1, none⟩ = some (.int .i64 t305) := (blk_cell BK308.out 1).trans rfl
                                have hfs62 := blk_frozen BK308.out 1
                                have hns62_0 := NB288_308.out
                                have hms62_0 := NB308_288.out
                                have hs63 : w60.cell? ⟨gb308, 2, none⟩ = some (.bool t306) := (blk_cell BK308.out 2).trans rfl
                                have hfs63 := blk_frozen BK308.out 2
                                have hns63_0 := NB288_308.out
                                have hms63_0 := NB308_288.out
                                refine skip_ (w1 := ?_) (by rfl) rfl ?_ ?_
                                rotate_left
                                · go_simp
                                  rfl
                                refine hK.out _ _ ⟨((cell_far (p := ⟨gb308, _, none⟩) NB288_308.out _).trans (((cell_far (p := ⟨gb308, _, none⟩) NB288_308.out _).trans (((cell_far (p := ⟨gb308, _, none⟩) NB288_308.out _).trans (hHeld.1)))))), ((cell_far (p := ⟨gb308, _, none⟩) NB288_308.out _).trans (((cell_far (p := ⟨gb308, _, none⟩) NB288_308.out _).trans (((cell_far (p := ⟨gb308, _, none⟩) NB288_308.out _).trans (hHeld.2.1)))))), ((cell_far (p := ⟨gb308, _, none⟩) (by first | exact Nat.ne_of_lt (Nat.lt_of_lt_of_le (by have := World.block_lt_of_cell? _ _ hw309_0; first | rwa [add_block] at this | exact this) GW308.out) | (rw [add_block]; exact Nat.ne_of_lt (Nat.lt_of_lt_of_le (by have := World.block_lt_of_cell? _ _ hw309_0; first | rwa [add_block] at this | exact this) GW308.out)) | (show (Addr.add _ _).block ≠ _; rw [add_block]; exact Nat.ne_of_lt (Nat.lt_of_lt_of_le (by have := World.block_lt_of_cell? _ _ hw309_0; first | rwa [add_block] at this | exact this) GW308.out)) | (dsimp only; exact Nat.ne_of_lt (Nat.lt_of_lt_of_le (by have := World.block_lt_of_cell? _ _ hw309_0; first | rwa [add_block] at this | exact this) GW308.out))) _).trans (((cell_far (p := ⟨gb308, _, none⟩) (by first | exact Nat.ne_of_lt (Nat.lt_of_lt_of_le (by have := World.block_lt_of_cell? _ _ hw309_0; first | rwa [add_block] at this | exact this) GW308.out) | (rw [add_block]; exact Nat.ne_of_lt (Nat.lt_of_lt_of_le (by have := World.block_lt_of_cell? _ _ hw309_0; first | rwa [add_block] at this | exact this) GW308.out)) | (show (Addr.add _ _).block ≠ _; rw [add_block]; exact Nat.ne_of_lt (Nat.lt_of_lt_of_le (by have := World.block_lt_of_cell? _ _ hw309_0; first | rwa [add_block] at this | exact this) GW308.out)) | (dsimp only; exact Nat.ne_of_lt (Nat.lt_of_lt_of_le (by have := World.block_lt_of_cell? _ _ hw309_0; first | rwa [add_block] at this | exact this) GW308.out))) _).trans (((cell_far (p := ⟨gb308, _, none⟩) (by first | exact Nat.ne_of_lt (Nat.lt_of_lt_of_le (by have := World.block_lt_of_cell? _ _ hw309_0; first | rwa [add_block] at this | exact this) GW308.out) | (rw [add_block]; exact Nat.ne_of_lt (Nat.lt_of_lt_of_le (by have := World.block_lt_of_cell? _ _ hw309_0; first | rwa [add_block] at this | exact this) GW308.out)) | (show (Addr.add _ _).block ≠ _; rw [add_block]; exact Nat.ne_of_lt (Nat.lt_of_lt_of_le (by have := World.block_lt_of_cell? _ _ hw309_0; first | rwa [add_block] at this | exact this) GW308.out)) | (dsimp only; exact Nat.ne_of_lt (Nat.lt_of_lt_of_le (by have := World.block_lt_of_cell? _ _ hw309_0; first | rwa [add_block] at this | exact this) GW308.out))) _).trans (hHeld.2.2.1)))))), ((cell_far (p := ⟨gb308, _, none⟩) (by first | exact Nat.ne_of_lt (Nat.lt_of_lt_of_le (by have := World.block_lt_of_cell? _ _ hw309_1; first | rwa [add_block] at this | exact this) GW308.out) | (rw [add_block]; exact Nat.ne_of_lt (Nat.lt_of_lt_of_le (by have := World.block_lt_of_cell? _ _ hw309_1; first | rwa [add_block] at this | exact this) GW308.out)) | (show (Addr.add _ _).block ≠ _; rw [add_block]; exact Nat.ne_of_lt (Nat.lt_of_lt_of_le (by have := World.block_lt_of_cell? _ _ hw309_1; first | rwa [add_block] at this | exact this) GW308.out)) | (dsimp only; exact Nat.ne_of_lt (Nat.lt_of_lt_of_le (by have := World.block_lt_of_cell? _ _ hw309_1; first | rwa [add_block] at this | exact this) GW308.out))) _).trans (((cell_far (p := ⟨gb308, _, none⟩) (by first | exact Nat.ne_of_lt (Nat.lt_of_lt_of_le (by have := World.block_lt_of_cell? _ _ hw309_1; first | rwa [add_block] at this | exact this) GW308.out) | (rw [add_block]; exact Nat.ne_of_lt (Nat.lt_of_lt_of_le (by have := World.block_lt_of_cell? _ _ hw309_1; first | rwa [add_block] at this | exact this) GW308.out)) | (show (Addr.add _ _).block ≠ _; rw [add_block]; exact Nat.ne_of_lt (Nat.lt_of_lt_of_le (by have := World.block_lt_of_cell? _ _ hw309_1; first | rwa [add_block] at this | exact this) GW308.out)) | (dsimp only; exact Nat.ne_of_lt (Nat.lt_of_lt_of_le (by have := World.block_lt_of_cell? _ _ hw309_1; first | rwa [add_block] at this | exact this) GW308.out))) _).trans (((cell_far (p := ⟨gb308, _, none⟩) (by first | exact Nat.ne_of_lt (Nat.lt_of_lt_of_le (by have := World.block_lt_of_cell? _ _ hw309_1; first | rwa [add_block] at this | exact this) GW308.out) | (rw [add_block]; exact Nat.ne_of_lt (Nat.lt_of_lt_of_le (by have := World.block_lt_of_cell? _ _ hw309_1; first | rwa [add_block] at this | exact this) GW308.out)) | (show (Addr.add _ _).block ≠ _; rw [add_block]; exact Nat.ne_of_lt (Nat.lt_of_lt_of_le (by have := World.block_lt_of_cell? _ _ hw309_1; first | rwa [add_block] at this | exact this) GW308.out)) | (dsimp only; exact Nat.ne_of_lt (Nat.lt_of_lt_of_le (by have := World.block_lt_of_cell? _ _ hw309_1; first | rwa [add_block] at this | exact this) GW308.out))) _).trans (hHeld.2.2.2.1)))))), ((cell_far (p := ⟨gb308, _, none⟩) (by first | exact Nat.ne_of_lt (Nat.lt_of_lt_of_le (by have := World.block_lt_of_cell? _ _ hw309_2; first | rwa [add_block] at this | exact this) GW308.out) | (rw [add_block]; exact Nat.ne_of_lt (Nat.lt_of_lt_of_le (by have := World.block_lt_of_cell? _ _ hw309_2; first | rwa [add_block] at this | exact this) GW308.out)) | (show (Addr.add _ _).block ≠ _; rw [add_block]; exact Nat.ne_of_lt (Nat.lt_of_lt_of_le (by have := World.block_lt_of_cell? _ _ hw309_2; first | rwa [add_block] at this | exact this) GW308.out)) | (dsimp only; exact Nat.ne_of_lt (Nat.lt_of_lt_of_le (by have := World.block_lt_of_cell? _ _ hw309_2; first | rwa [add_block] at this | exact this) GW308.out))) _).trans (((cell_far (p := ⟨gb308, _, none⟩) (by first | exact Nat.ne_of_lt (Nat.lt_of_lt_of_le (by have := World.block_lt_of_cell? _ _ hw309_2; first | rwa [add_block] at this | exact this) GW308.out) | (rw [add_block]; exact Nat.ne_of_lt (Nat.lt_of_lt_of_le (by have := World.block_lt_of_cell? _ _ hw309_2; first | rwa [add_block] at this | exact this) GW308.out)) | (show (Addr.add _ _).block ≠ _; rw [add_block]; exact Nat.ne_of_lt (Nat.lt_of_lt_of_le (by have := World.block_lt_of_cell? _ _ hw309_2; first | rwa [add_block] at this | exact this) GW308.out)) | (dsimp only; exact Nat.ne_of_lt (Nat.lt_of_lt_of_le (by have := World.block_lt_of_cell? _ _ hw309_2; first | rwa [add_block] at this | exact this) GW308.out))) _).trans (((cell_far (p := ⟨gb308, _, none⟩) (by first | exact Nat.ne_of_lt (Nat.lt_of_lt_of_le (by have := World.block_lt_of_cell? _ _ hw309_2; first | rwa [add_block] at this | exact this) GW308.out) | (rw [add_block]; exact Nat.ne_of_lt (Nat.lt_of_lt_of_le (by have := World.block_lt_of_cell? _ _ hw309_2; first | rwa [add_block] at this | exact this) GW308.out)) | (show (Addr.add _ _).block ≠ _; rw [add_block]; exact Nat.ne_of_lt (Nat.lt_of_lt_of_le (by have := World.block_lt_of_cell? _ _ hw309_2; first | rwa [add_block] at this | exact this) GW308.out)) | (dsimp only; exact Nat.ne_of_lt (Nat.lt_of_lt_of_le (by have := World.block_lt_of_cell? _ _ hw309_2; first | rwa [add_block] at this | exact this) GW308.out))) _).trans (hHeld.2.2.2.2.1)))))), ((cell_far (p := ⟨gb308, _, none⟩) (by first | exact Nat.ne_of_lt (Nat.lt_of_lt_of_le (by have := World.block_lt_of_cell? _ _ hw309_3; first | rwa [add_block] at this | exact this) GW308.out) | (rw [add_block]; exact Nat.ne_of_lt (Nat.lt_of_lt_of_le (by have := World.block_lt_of_cell? _ _ hw309_3; first | rwa [add_block] at this | exact this) GW308.out)) | (show (Addr.add _ _).block ≠ _; rw [add_block]; exact Nat.ne_of_lt (Nat.lt_of_lt_of_le (by have := World.block_lt_of_cell? _ _ hw309_3; first | rwa [add_block] at this | exact this) GW308.out)) | (dsimp only; exact Nat.ne_of_lt (Nat.lt_of_lt_of_le (by have := World.block_lt_of_cell? _ _ hw309_3; first | rwa [add_block] at this | exact this) GW308.out))) _).trans (((cell_far (p := ⟨gb308, _, none⟩) (by first | exact Nat.ne_of_lt (Nat.lt_of_lt_of_le (by have := World.block_lt_of_cell? _ _ hw309_3; first | rwa [add_block] at this | exact this) GW308.out) | (rw [add_block]; exact Nat.ne_of_lt (Nat.lt_of_lt_of_le (by have := World.block_lt_of_cell? _ _ hw309_3; first | rwa [add_block] at this | exact this) GW308.out)) | (show (Addr.add _ _).block ≠ _; rw [add_block]; exact Nat.ne_of_lt (Nat.lt_of_lt_of_le (by have := World.block_lt_of_cell? _ _ hw309_3; first | rwa [add_block] at this | exact this) GW308.out)) | (dsimp only; exact Nat.ne_of_lt (Nat.lt_of_lt_of_le (by have := World.block_lt_of_cell? _ _ hw309_3; first | rwa [add_block] at this | exact this) GW308.out))) _).trans (((cell_far (p := ⟨gb308, _, none⟩) (by first | exact Nat.ne_of_lt (Nat.lt_of_lt_of_le (by have := World.block_lt_of_cell? _ _ hw309_3; first | rwa [add_block] at this | exact this) GW308.out) | (rw [add_block]; exact Nat.ne_of_lt (Nat.lt_of_lt_of_le (by have := World.block_lt_of_cell? _ _ hw309_3; first | rwa [add_block] at this | exact this) GW308.out)) | (show (Addr.add _ _).block ≠ _; rw [add_block]; exact Nat.ne_of_lt (Nat.lt_of_lt_of_le (by have := World.block_lt_of_cell? _ _ hw309_3; first | rwa [add_block] at this | exact this) GW308.out)) | (dsimp only; exact Nat.ne_of_lt (Nat.lt_of_lt_of_le (by have := World.block_lt_of_cell? _ _ hw309_3; first | rwa [add_block] at this | exact this) GW308.out))) _).trans (hHeld.2.2.2.2.2))))))⟩ (fun hHeld => ?_)
                                clear hK K
                                refine pure_ (i := 13) (N := some 13) (v := ?_) (a' := ?_) #[true, true, true, true, true, true, true, true, true, true, true, true, true, true] rfl rfl (any_of HT_.out (by kernel_rfl)) (fun _ _ _ h => h) (Or.inl ⟨by rfl, ?_⟩) ?_ ?_
                                rotate_left
                                · intro w'
                                  go_simp
                                  with_reducible rfl
                                rotate_left
                                · simp only [Act.put, List.setIfInBounds_toArray, List.set_cons_zero, List.set_cons_succ, i64_w, i32_w]
                                  rfl
                                refine done_ (done_of HT_.out (by kernel_rfl)) ?_
                                have hcz64_0 : w60.cell? ⟨gb308, 0, none⟩ = some (.int .i64 t304) := (blk_cell BK308.out 0).trans rfl
                                have hcz64_1 : w60.cell? ⟨gb308, 1, none⟩ = some (.int .i64 t305) := (blk_cell BK308.out 1).trans rfl
                                have hcz64_2 : w60.cell? ⟨gb308, 2, none⟩ = some (.bool t306) := (blk_cell BK308.out 2).trans rfl
                                have hfz64_0 := blk_frozen BK308.out 0
                                have hfz64_1 := blk_frozen BK308.out 1
                                have hfz64_2 := blk_frozen BK308.out 2
                                try go_wp2
                                go_ret
                                exact ⟨by first | rfl | (simp [errW_none, errW_some] <;> rfl) | (simp [*, errW_none, errW_some] <;> rfl), by repeat (first | (with_reducible first | exact HB.out | apply below_alloc | apply pw_below_drewN | apply below_drew1 | refine below_set ?_ GE288.out | refine below_set ?_ GE308.out) | exact HB.out)⟩
                              · rw [if_neg c47] at H
                                exact absurd H (by simp)
                            · rw [if_neg c45] at H
                              exact absurd H (by simp)
                          · rw [if_neg c44] at H
                            have c44b0 : decide (a2_0 < 0) = false := decide_eq_false c44
                            clear c44
                            by_cases c65 : a2_1 < 0
                            · rw [if_pos c65] at H
                              have c65b0 : decide (a2_1 < 0) = true := decide_eq_true c65
                              clear c65
                              by_cases c66 : 0 < (l0.length : Int)
                              · rw [if_pos c66] at H
                                have c66b0 : decide (0 < (l0.length : Int)) = true := decide_eq_true c66
                                have c66b1 : decide (0 < l0.length) = true := decide_eq_true (by omega)
                                clear c66
                                replace H := Option.bind_eq_some_iff.mp H
                                obtain ⟨⟨t315, t316, t317, t318⟩, A670, H⟩ := H
                                replace H : (if t318 = 0 then (some (decide (t315 > 0))) else (none)) = some r := H
                                have A67 := Aside0.mk A670
                                clear A670
                                by_cases c68 : t318 = 0
                                · rw [if_pos c68] at H
                                  have c68b0 : (t318 == 0) = true := beq_iff_eq.mpr c68
                                  have c68b1 : (t318 != 0) = false := bne_eq_false_iff_eq.mpr c68
                                  clear c68
                                  obtain rfl := Option.some.inj H
                                  obtain ⟨Ao69, co69, eo69⟩ := Kd.R_slice HO_10.out
                                  subst eo69
                                  try go_wp2
                                  have n0_ := Aside0.mk (Kd.R_drew HO_10.out)
                                  have n1_ := Aside0.mk (blk_drew BK288.out)
                                  have n2_ := Aside0.mk (below_drew1 HB.out)
                                  clear HO_10
                                  clear BK288
                                  clear HB
                                  have HO_10 := n0_
                                  have BK288 := n1_
                                  have HB := n2_
                                  clear n0_ n1_ n2_
                                  have p303 : 0 ≤ (t293 : Int) := of_decide_eq_true (by first | (with_reducible assumption) | assumption)
                                  have q303 : t293 < (l0.length : Int) := of_decide_eq_true (by first | (with_reducible assumption) | assumption)
                                  obtain ⟨ad303, e303, hx303_0, hx303_1, hx303_2, hx303_3⟩ := at_T37 HR0.out t293 p303 q303
                                  have hw303_3 := hx303_3
                                  have hw303_2 := hx303_2
                                  have hw303_1 := hx303_1
                                  have hw303_0 := hx303_0
                                  cases e303
                                  replace hx303_0 := (HB.out.cell (World.block_lt_of_cell? w _ hx303_0)).trans hx303_0
                                  replace hx303_1 := (HB.out.cell (World.block_lt_of_cell? w _ hx303_1)).trans hx303_1
                                  replace hx303_2 := (HB.out.cell (World.block_lt_of_cell? w _ hx303_2)).trans hx303_2
                                  replace hx303_3 := (HB.out.cell (World.block_lt_of_cell? w _ hx303_3)).trans hx303_3
                                  replace p303 := eq_true p303
                                  replace q303 := eq_true q303
                                  refine start_ (n := 20) (S := fun w' => w'.cell? ⟨gb288, 0, none⟩ = some (.int .i64 a2_0) ∧ w'.cell? ⟨gb288, 1, none⟩ = some (.int .i64 a2_1) ∧ w'.cell? (ad303.add ((t293).toNat * 4)) = some (.int .i64 ((rd_T37 l0 t293).f0)) ∧ w'.cell? ⟨(ad303.add ((t293).toNat * 4)).block, (ad303.add ((t293).toNat * 4)).off + 1, none⟩ = some (.int .i64 ((rd_T37 l0 t293).f1)) ∧ w'.cell? ⟨(ad303.add ((t293).toNat * 4)).block, (ad303.add ((t293).toNat * 4)).off + 2, none⟩ = some (.int .i64 ((rd_T37 l0 t293).f2)) ∧ w'.cell? ⟨(ad303.add ((t293).toNat * 4)).block, (ad303.add ((t293).toNat * 4)).off + 3, none⟩ = some (.int .i64 ((rd_T37 l0 t293).f3))) (ds := []) #[false, false, false, false, false, false, false, false, false, false, false, false, false, false, false, false, false, false, false, false] (by kernel_rfl) rfl rfl ⟨(blk_cell BK288.out 0).trans rfl, (blk_cell BK288.out 1).trans rfl, ((HB.out.cell (World.block_lt_of_cell? w _ hw303_0)).trans hw303_0), ((HB.out.cell (World.block_lt_of_cell? w _ hw303_1)).trans hw303_1), ((HB.out.cell (World.block_lt_of_cell? w _ hw303_2)).trans hw303_2), ((HB.out.cell (World.block_lt_of_cell? w _ hw303_3)).trans hw303_3)⟩ (fun hHeld => ?_); refine with_tabW estoverslaw21_GrantFifo.tab10 estoverslaw21_GrantFifo.bits10 (fun HT_ HW_ => ?_)
                                  generalize wc.drew = w70 at HO_10 BK288 HB hx303_0 hx303_1 hx303_2 hx303_3 hHeld ⊢
                                  refine pure_ (i := 0) (N := some 77) (v := ?_) (a' := ?_) #[true, false, false, false, false, false, false, false, false, false, false, false, false, false, false, false, false, false, false, false] rfl rfl (any_of HT_.out (by kernel_rfl)) (fun _ _ _ h => h) (Or.inl ⟨by rfl, ?_⟩) ?_ ?_
                                  rotate_left
                                  · intro w'
                                    go_simp
                                    with_reducible rfl
                                  rotate_left
                                  · simp only [Act.put, List.setIfInBounds_toArray, List.set_cons_zero, List.set_cons_succ, i64_w, i32_w]
                                    rfl
                                  refine pure_ (i := 1) (N := some 78) (v := ?_) (a' := ?_) #[true, true, false, false, false, false, false, false, false, false, false, false, false, false, false, false, false, false, false, false] rfl rfl (any_of HT_.out (by kernel_rfl)) (fun _ _ _ h => h) (Or.inl ⟨by rfl, ?_⟩) ?_ ?_
                                  rotate_left
                                  · intro w'
                                    go_simp
                                    with_reducible rfl
                                  rotate_left
                                  · simp only [Act.put, List.setIfInBounds_toArray, List.set_cons_zero, List.set_cons_succ, i64_w, i32_w]
                                    rfl
                                  refine pure_ (i := 2) (N := some 79) (v := ?_) (a' := ?_) #[true, true, true, false, false, false, false, false, false, false, false, false, false, false, false, false, false, false, false, false] rfl rfl (any_of HT_.out (by kernel_rfl)) (fun _ _ _ h => h) (Or.inl ⟨by rfl, ?_⟩) ?_ ?_
                                  rotate_left
                                  · intro w'
                                    go_simp
                                    with_reducible rfl
                                  rotate_left
                                  · simp only [Act.put, List.setIfInBounds_toArray, List.set_cons_zero, List.set_cons_succ, i64_w, i32_w]
                                    rfl
                                  refine pure_ (i := 4) (N := some 81) (v := ?_) (a' := ?_) #[true, true, true, false, true, false, false, false, false, false, false, false, false, false, false, false, false, false, false, false] rfl rfl (any_of HT_.out (by kernel_rfl)) (fun _ _ _ h => h) (Or.inl ⟨by rfl, ?_⟩) ?_ ?_
                                  rotate_left
                                  · intro w'
                                    go_simp
                                    with_reducible rfl
                                  rotate_left
                                  · simp only [Act.put, List.setIfInBounds_toArray, List.set_cons_zero, List.set_cons_succ, i64_w, i32_w]
                                    rfl
                                  refine pure_ (i := 5) (N := some 82) (v := ?_) (a' := ?_) #[true, true, true, false, true, true, false, false, false, false, false, false, false, false, false, false, false, false, false, false] rfl rfl (any_of HT_.out (by kernel_rfl)) (fun _ _ _ h => h) (Or.inl ⟨by rfl, ?_⟩) ?_ ?_
                                  rotate_left
                                  · intro w'
                                    go_simp
                                    with_reducible rfl
                                  rotate_left
                                  · simp only [Act.put, List.setIfInBounds_toArray, List.set_cons_zero, List.set_cons_succ, i64_w, i32_w]
                                    rfl
                                  refine pure_ (i := 7) (N := some 84) (v := ?_) (a' := ?_) #[true, true, true, false, true, true, false, true, false, false, false, false, false, false, false, false, false, false, false, false] rfl rfl (any_of HT_.out (by kernel_rfl)) (fun _ _ _ h => h) (Or.inl ⟨by rfl, ?_⟩) ?_ ?_
                                  rotate_left
                                  · intro w'
                                    go_simp
                                    with_reducible rfl
                                  rotate_left
                                  · simp only [Act.put, List.setIfInBounds_toArray, List.set_cons_zero, List.set_cons_succ, i64_w, i32_w]
                                    rfl
                                  refine pure_ (i := 9) (N := some 86) (v := ?_) (a' := ?_) #[true, true, true, false, true, true, false, true, false, true, false, false, false, false, false, false, false, false, false, false] rfl rfl (any_of HT_.out (by kernel_rfl)) (fun _ _ _ h => h) (Or.inl ⟨by rfl, ?_⟩) ?_ ?_
                                  rotate_left
                                  · intro w'
                                    go_simp
                                    with_reducible rfl
                                  rotate_left
                                  · simp only [Act.put, List.setIfInBounds_toArray, List.set_cons_zero, List.set_cons_succ, i64_w, i32_w]
                                    rfl
                                  refine pure_ (i := 11) (N := some 88) (v := ?_) (a' := ?_) #[true, true, true, false, true, true, false, true, false, true, false, true, false, false, false, false, false, false, false, false] rfl rfl (any_of HT_.out (by kernel_rfl)) (fun _ _ _ h => h) (Or.inl ⟨by rfl, ?_⟩) ?_ ?_
                                  rotate_left
                                  · intro w'
                                    go_simp
                                    with_reducible rfl
                                  rotate_left
                                  · simp only [Act.put, List.setIfInBounds_toArray, List.set_cons_zero, List.set_cons_succ, i64_w, i32_w]
                                    rfl
                                  refine take_ (i := 3) (N := some 80) (v := ?_) (a' := ?_) #[true, true, true, true, true, true, false, true, false, true, false, true, false, false, false, false, false, false, false, false] rfl rfl (take_ofW HT_.out HW_.out (by kernel_rfl)) (fun _ _ _ h => h) (Or.inl ⟨by rfl, ?_⟩) hHeld ?_ ?_
                                  rotate_left
                                  · rintro w' ⟨s0, s1, s2, s3, s4, s5⟩
                                    go_simp
                                    with_reducible rfl
                                  rotate_left
                                  · simp only [Act.put, List.setIfInBounds_toArray, List.set_cons_zero, List.set_cons_succ, i64_w, i32_w]
                                    rfl
                                  refine take_ (i := 6) (N := some 83) (v := ?_) (a' := ?_) #[true, true, true, true, true, true, true, true, false, true, false, true, false, false, false, false, false, false, false, false] rfl rfl (take_ofW HT_.out HW_.out (by kernel_rfl)) (fun _ _ _ h => h) (Or.inl ⟨by rfl, ?_⟩) hHeld ?_ ?_
                                  rotate_left
                                  · rintro w' ⟨s0, s1, s2, s3, s4, s5⟩
                                    go_simp
                                    with_reducible rfl
                                  rotate_left
                                  · simp only [Act.put, List.setIfInBounds_toArray, List.set_cons_zero, List.set_cons_succ, i64_w, i32_w]
                                    rfl
                                  refine pure_ (i := 8) (N := some 85) (v := ?_) (a' := ?_) #[true, true, true, true, true, true, true, true, true, true, false, true, false, false, false, false, false, false, false, false] rfl rfl (any_of HT_.out (by kernel_rfl)) (fun _ _ _ h => h) (Or.inl ⟨by rfl, ?_⟩) ?_ ?_
                                  rotate_left
                                  · intro w'
                                    go_simp
                                    with_reducible rfl
                                  rotate_left
                                  · simp only [Act.put, List.setIfInBounds_toArray, List.set_cons_zero, List.set_cons_succ, i64_w, i32_w]
                                    rfl
                                  refine take_ (i := 10) (N := some 87) (v := ?_) (a' := ?_) #[true, true, true, true, true, true, true, true, true, true, true, true, false, false, false, false, false, false, false, false] rfl rfl (take_ofW HT_.out HW_.out (by kernel_rfl)) (fun _ _ _ h => h) (Or.inl ⟨by rfl, ?_⟩) hHeld ?_ ?_
                                  rotate_left
                                  · rintro w' ⟨s0, s1, s2, s3, s4, s5⟩
                                    go_simp
                                    with_reducible rfl
                                  rotate_left
                                  · simp only [Act.put, List.setIfInBounds_toArray, List.set_cons_zero, List.set_cons_succ, i64_w, i32_w]
                                    rfl
                                  refine pure_ (i := 12) (N := some 89) (v := ?_) (a' := ?_) #[true, true, true, true, true, true, true, true, true, true, true, true, true, false, false, false, false, false, false, false] rfl rfl (any_of HT_.out (by kernel_rfl)) (fun _ _ _ h => h) (Or.inl ⟨by rfl, ?_⟩) ?_ ?_
                                  rotate_left
                                  · intro w'
                                    go_simp
                                    with_reducible rfl
                                  rotate_left
                                  · simp only [Act.put, List.setIfInBounds_toArray, List.set_cons_zero, List.set_cons_succ, i64_w, i32_w]
                                    rfl
                                  refine join_ (σ := Nat) 2 #[true, true, true, true, true, true, true, true, true, true, true, true, true, true, true, true, true, true, false, false] (fun s_ => [(90, .tuple #[.agg #[.int .i64 t304, .int .i64 t305, .bool t306], .int .i64 t307]), (12, .pointer (some ⟨s_, 0, none⟩)), (76, .tuple #[.agg #[.int .i64 t304, .int .i64 t305, .bool t306], .int .i64 t307]), (91, .agg #[.int .i64 t304, .int .i64 t305, .bool t306]), (92, .int .i64 t307)]) (fun s_ w' => (w'.cell? ⟨gb288, 0, none⟩ = some (.int .i64 a2_0) ∧ w'.cell? ⟨gb288, 1, none⟩ = some (.int .i64 a2_1) ∧ w'.cell? (ad303.add ((t293).toNat * 4)) = some (.int .i64 ((rd_T37 l0 t293).f0)) ∧ w'.cell? ⟨(ad303.add ((t293).toNat * 4)).block, (ad303.add ((t293).toNat * 4)).off + 1, none⟩ = some (.int .i64 ((rd_T37 l0 t293).f1)) ∧ w'.cell? ⟨(ad303.add ((t293).toNat * 4)).block, (ad303.add ((t293).toNat * 4)).off + 2, none⟩ = some (.int .i64 ((rd_T37 l0 t293).f2)) ∧ w'.cell? ⟨(ad303.add ((t293).toNat * 4)).block, (ad303.add ((t293).toNat * 4)).off + 3, none⟩ = some (.int .i64 ((rd_T37 l0 t293).f3))) ∧ (Kd.R k59 59 w' w.heap.size (fun _ => True) (.slice Ao69 t296.length co69) t296) ∧ (w'.heap[gb288]? = some (.cells #[.int .i64 a2_0, .int .i64 a2_1] 41 (0, 0))) ∧ (w'.heap[s_]? = some (.cells #[.int .i64 0, .int .i64 0, .bool false] 43 (0, 0))) ∧ (w.heap.size ≤ s_) ∧ (w.heap.size ≤ s_) ∧ (gb288 ≠ s_) ∧ (s_ ≠ gb288) ∧ (Below w.heap.size w w')) ?_ ?_
                                  rotate_left
                                  · intro hCont
                                    refine two_ (i := 13) (j := 17) (Ni := some 90) (Nj := some 12) #[true, true, true, true, true, true, true, true, true, true, true, true, true, true, false, false, false, false, false, false] #[true, true, true, true, true, true, true, true, true, true, true, true, true, false, false, false, false, true, false, false] rfl rfl rfl rfl (two_of HT_.out (by kernel_rfl)) (by decide) (by decide) (fun K hK => ?_) (fun K hK => ?_)
                                    · skip
                                      refine goes_ Try.func16 (by kernel_rfl) rfl #[.agg #[.int .i64 ((rd_T37 l0 t293).f0), .int .i64 ((rd_T37 l0 t293).f1), .int .i64 ((rd_T37 l0 t293).f2), .int .i64 ((rd_T37 l0 t293).f3)], .slice Ao69 t296.length co69, .int .i64 (wrap64 (a2_0 - t294)), .int .i64 (wrap64 (a2_1 - t295))] (by rfl) rfl rfl (by (try simp only [List.map_toArray, List.map_cons, List.map_nil]); first | done | rfl | (simp only [List.length_drop, List.length_take]; rfl)) ?_
                                      with_reducible refine (grant_Short.calls kj33 ((rd_T37 l0 t293).f0) ((rd_T37 l0 t293).f1) ((rd_T37 l0 t293).f2) ((rd_T37 l0 t293).f3) _ _ t296 (wrap64 (a2_0 - t294)) (wrap64 (a2_1 - t295)) t304 t305 t306 t307 _ ?side1 ?side2 A43.out).mono ?_
                                      (case side1 => repeat (first | exact (Kd.R_reads' HO_10.out).2.2 | (with_reducible refine Kd.C_alloc ?_ _) | (with_reducible refine Kd.C_drewN ?_ _) | (with_reducible refine Kd.C_drew ?_)))
                                      (case side2 => exact (Kd.R_reads' HO_10.out).2.1)
                                      rintro e w71 ⟨rfl, hb⟩
                                      refine ⟨_, rfl, ?_⟩
                                      have n0_ := Aside0.mk (Kd.R_below (by (with_reducible repeat (first | apply Kd.R_alloc | apply Kd.R_drewN | apply Kd.R_drew)); exact HO_10.out) hb)
                                      have n1_ := Aside0.mk (blk_below (g := gb288) (o := .cells #[.int .i64 a2_0, .int .i64 a2_1] 41 (0, 0)) (by (with_reducible repeat (first | refine blk_drewN ?_ _ | refine blk_drew ?_ | refine blk_alloc ?_ _)); exact BK288.out) hb)
                                      have n2_ := Aside0.mk (below_step (by repeat (first | (with_reducible first | exact HB.out | apply below_alloc | apply pw_below_drewN | apply below_drew1 | refine below_set ?_ GE288.out) | exact HB.out)) hb)
                                      clear HO_10
                                      clear BK288
                                      clear HB
                                      have HO_10 := n0_
                                      have BK288 := n1_
                                      have HB := n2_
                                      clear n0_ n1_ n2_
                                      (try clear hb)
                                      (try clear hb2)
                                      (try clear hk)
                                      (try clear hi)
                                      refine hK.out _ _ ⟨(blk_cell BK288.out 0).trans rfl, (blk_cell BK288.out 1).trans rfl, ((HB.out.cell (World.block_lt_of_cell? w _ hw303_0)).trans hw303_0), ((HB.out.cell (World.block_lt_of_cell? w _ hw303_1)).trans hw303_1), ((HB.out.cell (World.block_lt_of_cell? w _ hw303_2)).trans hw303_2), ((HB.out.cell (World.block_lt_of_cell? w _ hw303_3)).trans hw303_3)⟩ (fun hHeld => ?_)
                                      clear hK K
                                      refine norm_ (a' := ?_) ?_ ?_
                                      rotate_left
                                      · show Act.put _ (some 90) _ = _
                                        simp only [Act.put, List.setIfInBounds_toArray, List.set_cons_zero, List.set_cons_succ, i64_w, i32_w]
                                        rfl
                                      refine pure_ (i := 14) (N := some 76) (v := ?_) (a' := ?_) #[true, true, true, true, true, true, true, true, true, true, true, true, true, true, true, false, false, false, false, false] rfl rfl (any_of HT_.out (by kernel_rfl)) (fun _ _ _ h => h) (Or.inl ⟨by rfl, ?_⟩) ?_ ?_
                                      rotate_left
                                      · intro w'
                                        go_simp
                                        with_reducible rfl
                                      rotate_left
                                      · simp only [Act.put, List.setIfInBounds_toArray, List.set_cons_zero, List.set_cons_succ, i64_w, i32_w]
                                        rfl
                                      refine pure_ (i := 15) (N := some 91) (v := ?_) (a' := ?_) #[true, true, true, true, true, true, true, true, true, true, true, true, true, true, true, true, false, false, false, false] rfl rfl (any_of HT_.out (by kernel_rfl)) (fun _ _ _ h => h) (Or.inl ⟨by rfl, ?_⟩) ?_ ?_
                                      rotate_left
                                      · intro w'
                                        go_simp
                                        with_reducible rfl
                                      rotate_left
                                      · simp only [Act.put, List.setIfInBounds_toArray, List.set_cons_zero, List.set_cons_succ, i64_w, i32_w]
                                        rfl
                                      refine pure_ (i := 16) (N := some 92) (v := ?_) (a' := ?_) #[true, true, true, true, true, true, true, true, true, true, true, true, true, true, true, true, true, false, false, false] rfl rfl (any_of HT_.out (by kernel_rfl)) (fun _ _ _ h => h) (Or.inl ⟨by rfl, ?_⟩) ?_ ?_
                                      rotate_left
                                      · intro w'
                                        go_simp
                                        with_reducible rfl
                                      rotate_left
                                      · simp only [Act.put, List.setIfInBounds_toArray, List.set_cons_zero, List.set_cons_succ, i64_w, i32_w]
                                        rfl
                                      refine one_ (i := 17) (N := some 12) #[true, true, true, true, true, true, true, true, true, true, true, true, true, true, true, true, true, true, false, false] rfl rfl (one_of HT_.out (by kernel_rfl)) (by decide) (fun K hK => ?_)
                                      refine box_step ?hg (N := 12) ?hd (cs := #[.int .i64 0, .int .i64 0, .bool false]) (t := 43) ?hr ?_; (case hd => rfl); (case hg => rfl); (case hr => first | (go_simp; done) | (go_simp; rfl))
                                      intro gb308 hg w72 hbox hb
                                      have n0_ := Aside0.mk (Kd.R_below (by (with_reducible repeat (first | apply Kd.R_alloc | apply Kd.R_drewN | apply Kd.R_drew)); exact HO_10.out) hb)
                                      have n1_ := Aside0.mk (blk_below (g := gb288) (o := .cells #[.int .i64 a2_0, .int .i64 a2_1] 41 (0, 0)) (by (with_reducible repeat (first | refine blk_drewN ?_ _ | refine blk_drew ?_ | refine blk_alloc ?_ _)); exact BK288.out) hb)
                                      have n2_ := Aside0.mk (below_step (by repeat (first | (with_reducible first | exact HB.out | apply below_alloc | apply pw_below_drewN | apply below_drew1 | refine below_set ?_ GE288.out) | exact HB.out)) hb)
                                      have n3_ := Aside0.mk (hbox)
                                      have n4_ := Aside0.mk ((by rw [hg]; exact (below_size (by repeat (first | (with_reducible first | exact HB.out | apply below_alloc | apply pw_below_drewN | apply below_drew1 | refine below_set ?_ GE288.out) | exact HB.out))) : w.heap.size ≤ gb308))
                                      have n5_ := Aside0.mk ((by rw [hg]; exact (below_size (by repeat (first | (with_reducible first | exact HB.out | apply below_alloc | apply pw_below_drewN | apply below_drew1 | refine below_set ?_ GE288.out) | exact HB.out))) : w.heap.size ≤ gb308))
                                      have n6_ := Aside0.mk ((by rw [hg]; exact Nat.ne_of_lt (blk_lt (g := gb288) (o := .cells #[.int .i64 a2_0, .int .i64 a2_1] 41 (0, 0)) (by (with_reducible repeat (first | refine blk_drewN ?_ _ | refine blk_drew ?_ | refine blk_alloc ?_ _)); exact BK288.out)) : gb288 ≠ gb308))
                                      have n7_ := Aside0.mk ((by rw [hg]; exact Nat.ne_of_gt (blk_lt (g := gb288) (o := .cells #[.int .i64 a2_0, .int .i64 a2_1] 41 (0, 0)) (by (with_reducible repeat (first | refine blk_drewN ?_ _ | refine blk_drew ?_ | refine blk_alloc ?_ _)); exact BK288.out)) : gb308 ≠ gb288))
                                      clear HO_10
                                      clear BK288
                                      clear HB
                                      have HO_10 := n0_
                                      have BK288 := n1_
                                      have HB := n2_
                                      have BK308 := n3_
                                      have GW308 := n4_
                                      have GE308 := n5_
                                      have NB288_308 := n6_
                                      have NB308_288 := n7_
                                      clear n0_ n1_ n2_ n3_ n4_ n5_ n6_ n7_
                                      clear hb hbox hg
                                      refine hK.out _ _ ⟨(blk_cell BK288.out 0).trans rfl, (blk_cell BK288.out 1).trans rfl, ((HB.out.cell (World.block_lt_of_cell? w _ hw303_0)).trans hw303_0), ((HB.out.cell (World.block_lt_of_cell? w _ hw303_1)).trans hw303_1), ((HB.out.cell (World.block_lt_of_cell? w _ hw303_2)).trans hw303_2), ((HB.out.cell (World.block_lt_of_cell? w _ hw303_3)).trans hw303_3)⟩ (fun hHeld => ?_)
                                      clear hK K
                                      refine norm_ (a' := ?_) ?_ ?_
                                      rotate_left
                                      · show Act.put _ (some 12) _ = _
                                        simp only [Act.put, List.setIfInBounds_toArray, List.set_cons_zero, List.set_cons_succ, i64_w, i32_w]
                                        rfl
                                      exact norm_ (by simp only [putAll, Act.put, List.setIfInBounds_toArray, List.set_cons_zero, List.set_cons_succ]) (hCont (gb308) _ ⟨hHeld, (by (with_reducible repeat (first | apply Kd.R_alloc | apply Kd.R_drewN | apply Kd.R_drew)); exact HO_10.out), (by (with_reducible repeat (first | refine blk_drewN ?_ _ | refine blk_drew ?_ | refine blk_alloc ?_ _)); exact BK288.out), (by (with_reducible repeat (first | refine blk_drewN ?_ _ | refine blk_drew ?_ | refine blk_alloc ?_ _)); exact BK308.out), GW308.out, GE308.out, NB288_308.out, NB308_288.out, (by repeat (first | (with_reducible first | exact HB.out | apply below_alloc | apply pw_below_drewN | apply below_drew1 | refine below_set ?_ GE288.out | refine below_set ?_ GE308.out) | exact HB.out))⟩)
                                    · skip
                                      refine box_step ?hg (N := 12) ?hd (cs := #[.int .i64 0, .int .i64 0, .bool false]) (t := 43) ?hr ?_; (case hd => rfl); (case hg => rfl); (case hr => first | (go_simp; done) | (go_simp; rfl))
                                      intro gb308 hg w71 hbox hb
                                      have n0_ := Aside0.mk (Kd.R_below (by (with_reducible repeat (first | apply Kd.R_alloc | apply Kd.R_drewN | apply Kd.R_drew)); exact HO_10.out) hb)
                                      have n1_ := Aside0.mk (blk_below (g := gb288) (o := .cells #[.int .i64 a2_0, .int .i64 a2_1] 41 (0, 0)) (by (with_reducible repeat (first | refine blk_drewN ?_ _ | refine blk_drew ?_ | refine blk_alloc ?_ _)); exact BK288.out) hb)
                                      have n2_ := Aside0.mk (below_step (by repeat (first | (with_reducible first | exact HB.out | apply below_alloc | apply pw_below_drewN | apply below_drew1 | refine below_set ?_ GE288.out) | exact HB.out)) hb)
                                      have n3_ := Aside0.mk (hbox)
                                      have n4_ := Aside0.mk ((by rw [hg]; exact (below_size (by repeat (first | (with_reducible first | exact HB.out | apply below_alloc | apply pw_below_drewN | apply below_drew1 | refine below_set ?_ GE288.out) | exact HB.out))) : w.heap.size ≤ gb308))
                                      have n5_ := Aside0.mk ((by rw [hg]; exact (below_size (by repeat (first | (with_reducible first | exact HB.out | apply below_alloc | apply pw_below_drewN | apply below_drew1 | refine below_set ?_ GE288.out) | exact HB.out))) : w.heap.size ≤ gb308))
                                      have n6_ := Aside0.mk ((by rw [hg]; exact Nat.ne_of_lt (blk_lt (g := gb288) (o := .cells #[.int .i64 a2_0, .int .i64 a2_1] 41 (0, 0)) (by (with_reducible repeat (first | refine blk_drewN ?_ _ | refine blk_drew ?_ | refine blk_alloc ?_ _)); exact BK288.out)) : gb288 ≠ gb308))
                                      have n7_ := Aside0.mk ((by rw [hg]; exact Nat.ne_of_gt (blk_lt (g := gb288) (o := .cells #[.int .i64 a2_0, .int .i64 a2_1] 41 (0, 0)) (by (with_reducible repeat (first | refine blk_drewN ?_ _ | refine blk_drew ?_ | refine blk_alloc ?_ _)); exact BK288.out)) : gb308 ≠ gb288))
                                      clear HO_10
                                      clear BK288
                                      clear HB
                                      have HO_10 := n0_
                                      have BK288 := n1_
                                      have HB := n2_
                                      have BK308 := n3_
                                      have GW308 := n4_
                                      have GE308 := n5_
                                      have NB288_308 := n6_
                                      have NB308_288 := n7_
                                      clear n0_ n1_ n2_ n3_ n4_ n5_ n6_ n7_
                                      clear hb hbox hg
                                      refine hK.out _ _ ⟨(blk_cell BK288.out 0).trans rfl, (blk_cell BK288.out 1).trans rfl, ((HB.out.cell (World.block_lt_of_cell? w _ hw303_0)).trans hw303_0), ((HB.out.cell (World.block_lt_of_cell? w _ hw303_1)).trans hw303_1), ((HB.out.cell (World.block_lt_of_cell? w _ hw303_2)).trans hw303_2), ((HB.out.cell (World.block_lt_of_cell? w _ hw303_3)).trans hw303_3)⟩ (fun hHeld => ?_)
                                      clear hK K
                                      refine norm_ (a' := ?_) ?_ ?_
                                      rotate_left
                                      · show Act.put _ (some 12) _ = _
                                        simp only [Act.put, List.setIfInBounds_toArray, List.set_cons_zero, List.set_cons_succ, i64_w, i32_w]
                                        rfl
                                      refine one_ (i := 13) (N := some 90) #[true, true, true, true, true, true, true, true, true, true, true, true, true, true, false, false, false, true, false, false] rfl rfl (one_of HT_.out (by kernel_rfl)) (by decide) (fun K hK => ?_)
                                      refine goes_ Try.func16 (by kernel_rfl) rfl #[.agg #[.int .i64 ((rd_T37 l0 t293).f0), .int .i64 ((rd_T37 l0 t293).f1), .int .i64 ((rd_T37 l0 t293).f2), .int .i64 ((rd_T37 l0 t293).f3)], .slice Ao69 t296.length co69, .int .i64 (wrap64 (a2_0 - t294)), .int .i64 (wrap64 (a2_1 - t295))] (by rfl) rfl rfl (by (try simp only [List.map_toArray, List.map_cons, List.map_nil]); first | done | rfl | (simp only [List.length_drop, List.length_take]; rfl)) ?_
                                      with_reducible refine (grant_Short.calls kj33 ((rd_T37 l0 t293).f0) ((rd_T37 l0 t293).f1) ((rd_T37 l0 t293).f2) ((rd_T37 l0 t293).f3) _ _ t296 (wrap64 (a2_0 - t294)) (wrap64 (a2_1 - t295)) t304 t305 t306 t307 _ ?side1 ?side2 A43.out).mono ?_
                                      (case side1 => repeat (first | exact (Kd.R_reads' HO_10.out).2.2 | (with_reducible refine Kd.C_alloc ?_ _) | (with_reducible refine Kd.C_drewN ?_ _) | (with_reducible refine Kd.C_drew ?_)))
                                      (case side2 => exact (Kd.R_reads' HO_10.out).2.1)
                                      rintro e w72 ⟨rfl, hb⟩
                                      refine ⟨_, rfl, ?_⟩
                                      have n0_ := Aside0.mk (Kd.R_below (by (with_reducible repeat (first | apply Kd.R_alloc | apply Kd.R_drewN | apply Kd.R_drew)); exact HO_10.out) hb)
                                      have n1_ := Aside0.mk (blk_below (g := gb288) (o := .cells #[.int .i64 a2_0, .int .i64 a2_1] 41 (0, 0)) (by (with_reducible repeat (first | refine blk_drewN ?_ _ | refine blk_drew ?_ | refine blk_alloc ?_ _)); exact BK288.out) hb)
                                      have n2_ := Aside0.mk (blk_below (g := gb308) (o := .cells #[.int .i64 0, .int .i64 0, .bool false] 43 (0, 0)) (by (with_reducible repeat (first | refine blk_drewN ?_ _ | refine blk_drew ?_ | refine blk_alloc ?_ _)); exact BK308.out) hb)
                                      have n3_ := Aside0.mk (below_step (by repeat (first | (with_reducible first | exact HB.out | apply below_alloc | apply pw_below_drewN | apply below_drew1 | refine below_set ?_ GE288.out | refine below_set ?_ GE308.out) | exact HB.out)) hb)
                                      clear HO_10
                                      clear BK288
                                      clear BK308
                                      clear HB
                                      have HO_10 := n0_
                                      have BK288 := n1_
                                      have BK308 := n2_
                                      have HB := n3_
                                      clear n0_ n1_ n2_ n3_
                                      (try clear hb)
                                      (try clear hb2)
                                      (try clear hk)
                                      (try clear hi)
                                      refine hK.out _ _ ⟨(blk_cell BK288.out 0).trans rfl, (blk_cell BK288.out 1).trans rfl, ((HB.out.cell (World.block_lt_of_cell? w _ hw303_0)).trans hw303_0), ((HB.out.cell (World.block_lt_of_cell? w _ hw303_1)).trans hw303_1), ((HB.out.cell (World.block_lt_of_cell? w _ hw303_2)).trans hw303_2), ((HB.out.cell (World.block_lt_of_cell? w _ hw303_3)).trans hw303_3)⟩ (fun hHeld => ?_)
                                      clear hK K
                                      refine norm_ (a' := ?_) ?_ ?_
                                      rotate_left
                                      · show Act.put _ (some 90) _ = _
                                        simp only [Act.put, List.setIfInBounds_toArray, List.set_cons_zero, List.set_cons_succ, i64_w, i32_w]
                                        rfl
                                      refine pure_ (i := 14) (N := some 76) (v := ?_) (a' := ?_) #[true, true, true, true, true, true, true, true, true, true, true, true, true, true, true, false, false, true, false, false] rfl rfl (any_of HT_.out (by kernel_rfl)) (fun _ _ _ h => h) (Or.inl ⟨by rfl, ?_⟩) ?_ ?_
                                      rotate_left
                                      · intro w'
                                        go_simp
                                        with_reducible rfl
                                      rotate_left
                                      · simp only [Act.put, List.setIfInBounds_toArray, List.set_cons_zero, List.set_cons_succ, i64_w, i32_w]
                                        rfl
                                      refine pure_ (i := 15) (N := some 91) (v := ?_) (a' := ?_) #[true, true, true, true, true, true, true, true, true, true, true, true, true, true, true, true, false, true, false, false] rfl rfl (any_of HT_.out (by kernel_rfl)) (fun _ _ _ h => h) (Or.inl ⟨by rfl, ?_⟩) ?_ ?_
                                      rotate_left
                                      · intro w'
                                        go_simp
                                        with_reducible rfl
                                      rotate_left
                                      · simp only [Act.put, List.setIfInBounds_toArray, List.set_cons_zero, List.set_cons_succ, i64_w, i32_w]
                                        rfl
                                      refine pure_ (i := 16) (N := some 92) (v := ?_) (a' := ?_) #[true, true, true, true, true, true, true, true, true, true, true, true, true, true, true, true, true, true, false, false] rfl rfl (any_of HT_.out (by kernel_rfl)) (fun _ _ _ h => h) (Or.inl ⟨by rfl, ?_⟩) ?_ ?_
                                      rotate_left
                                      · intro w'
                                        go_simp
                                        with_reducible rfl
                                      rotate_left
                                      · simp only [Act.put, List.setIfInBounds_toArray, List.set_cons_zero, List.set_cons_succ, i64_w, i32_w]
                                        rfl
                                      exact norm_ (by simp only [putAll, Act.put, List.setIfInBounds_toArray, List.set_cons_zero, List.set_cons_succ]) (hCont (gb308) _ ⟨hHeld, (by (with_reducible repeat (first | apply Kd.R_alloc | apply Kd.R_drewN | apply Kd.R_drew)); exact HO_10.out), (by (with_reducible repeat (first | refine blk_drewN ?_ _ | refine blk_drew ?_ | refine blk_alloc ?_ _)); exact BK288.out), (by (with_reducible repeat (first | refine blk_drewN ?_ _ | refine blk_drew ?_ | refine blk_alloc ?_ _)); exact BK308.out), GW308.out, GE308.out, NB288_308.out, NB308_288.out, (by repeat (first | (with_reducible first | exact HB.out | apply below_alloc | apply pw_below_drewN | apply below_drew1 | refine below_set ?_ GE288.out | refine below_set ?_ GE308.out) | exact HB.out))⟩)
                                  rintro gb308 w73 ⟨hS_, h0_, h1_, h2_, h3_, h4_, h5_, h6_, h7_⟩
                                  have n0_ : Aside0 (Kd.R k59 59 w73 w.heap.size (fun _ => True) (.slice Ao69 t296.length co69) t296) := ⟨h0_⟩
                                  have n1_ : Aside0 (w73.heap[gb288]? = some (.cells #[.int .i64 a2_0, .int .i64 a2_1] 41 (0, 0))) := ⟨h1_⟩
                                  have n2_ : Aside0 (w73.heap[gb308]? = some (.cells #[.int .i64 0, .int .i64 0, .bool false] 43 (0, 0))) := ⟨h2_⟩
                                  have n3_ : Aside0 (w.heap.size ≤ gb308) := ⟨h3_⟩
                                  have n4_ : Aside0 (w.heap.size ≤ gb308) := ⟨h4_⟩
                                  have n5_ : Aside0 (gb288 ≠ gb308) := ⟨h5_⟩
                                  have n6_ : Aside0 (gb308 ≠ gb288) := ⟨h6_⟩
                                  have n7_ : Aside0 (Below w.heap.size w w73) := ⟨h7_⟩
                                  clear HO_10
                                  clear BK288
                                  clear HB
                                  clear h0_ h1_ h2_ h3_ h4_ h5_ h6_ h7_
                                  have HO_10 := n0_
                                  have BK288 := n1_
                                  have BK308 := n2_
                                  have GW308 := n3_
                                  have GE308 := n4_
                                  have NB288_308 := n5_
                                  have NB308_288 := n6_
                                  have HB := n7_
                                  clear n0_ n1_ n2_ n3_ n4_ n5_ n6_ n7_
                                  have hHeld : w73.cell? ⟨gb288, 0, none⟩ = some (.int .i64 a2_0) ∧ w73.cell? ⟨gb288, 1, none⟩ = some (.int .i64 a2_1) ∧ w73.cell? (ad303.add ((t293).toNat * 4)) = some (.int .i64 ((rd_T37 l0 t293).f0)) ∧ w73.cell? ⟨(ad303.add ((t293).toNat * 4)).block, (ad303.add ((t293).toNat * 4)).off + 1, none⟩ = some (.int .i64 ((rd_T37 l0 t293).f1)) ∧ w73.cell? ⟨(ad303.add ((t293).toNat * 4)).block, (ad303.add ((t293).toNat * 4)).off + 2, none⟩ = some (.int .i64 ((rd_T37 l0 t293).f2)) ∧ w73.cell? ⟨(ad303.add ((t293).toNat * 4)).block, (ad303.add ((t293).toNat * 4)).off + 3, none⟩ = some (.int .i64 ((rd_T37 l0 t293).f3)) := hS_
                                  refine norm_ (a' := ?_) ?_ ?_
                                  rotate_left
                                  · simp only [putAll, Act.put, List.setIfInBounds_toArray, List.set_cons_zero, List.set_cons_succ]
                                    rfl
                                  refine one_ (i := 18) (N := none) #[true, true, true, true, true, true, true, true, true, true, true, true, true, true, true, true, true, true, true, false] rfl rfl (one_of HT_.out (by kernel_rfl)) (by decide) (fun K hK => ?_)
                                  have hs74 : w73.cell? ⟨gb308, 0, none⟩ = some (.int .i64 0) := (blk_cell BK308.out 0).trans rfl
                                  have hfs74 := blk_frozen BK308.out 0
                                  have hns74_0 := NB288_308.out
                                  have hms74_0 := NB308_288.out
                                  have hs75 : w73.cell? ⟨gb308, 1, none⟩ = some (.int .i64 0) := (blk_cell BK308.out 1).trans rfl
                                  have hfs75 := blk_frozen BK308.out 1
                                  have hns75_0 := NB288_308.out
                                  have hms75_0 := NB308_288.out
                                  have hs76 : w73.cell? ⟨gb308, 2, none⟩ = some (.bool false) := (blk_cell BK308.out 2).trans rfl
                                  have hfs76 := blk_frozen BK308.out 2
                                  have hns76_0 := NB288_308.out
                                  have hms76_0 := NB308_288.out
                                  refine skip_ (w1 := ?_) (by rfl) rfl ?_ ?_
                                  rotate_left
                                  · go_simp
                                    rfl
                                  refine hK.out _ _ ⟨((cell_far (p := ⟨gb308, _, none⟩) NB288_308.out _).trans (((cell_far (p := ⟨gb308, _, none⟩) NB288_308.out _).trans (((cell_far (p := ⟨gb308, _, none⟩) NB288_308.out _).trans (hHeld.1)))))), ((cell_far (p := ⟨gb308, _, none⟩) NB288_308.out _).trans (((cell_far (p := ⟨gb308, _, none⟩) NB288_308.out _).trans (((cell_far (p := ⟨gb308, _, none⟩) NB288_308.out _).trans (hHeld.2.1)))))), ((cell_far (p := ⟨gb308, _, none⟩) (by first | exact Nat.ne_of_lt (Nat.lt_of_lt_of_le (by have := World.block_lt_of_cell? _ _ hw303_0; first | rwa [add_block] at this | exact this) GW308.out) | (rw [add_block]; exact Nat.ne_of_lt (Nat.lt_of_lt_of_le (by have := World.block_lt_of_cell? _ _ hw303_0; first | rwa [add_block] at this | exact this) GW308.out)) | (show (Addr.add _ _).block ≠ _; rw [add_block]; exact Nat.ne_of_lt (Nat.lt_of_lt_of_le (by have := World.block_lt_of_cell? _ _ hw303_0; first | rwa [add_block] at this | exact this) GW308.out)) | (dsimp only; exact Nat.ne_of_lt (Nat.lt_of_lt_of_le (by have := World.block_lt_of_cell? _ _ hw303_0; first | rwa [add_block] at this | exact this) GW308.out))) _).trans (((cell_far (p := ⟨gb308, _, none⟩) (by first | exact Nat.ne_of_lt (Nat.lt_of_lt_of_le (by have := World.block_lt_of_cell? _ _ hw303_0; first | rwa [add_block] at this | exact this) GW308.out) | (rw [add_block]; exact Nat.ne_of_lt (Nat.lt_of_lt_of_le (by have := World.block_lt_of_cell? _ _ hw303_0; first | rwa [add_block] at this | exact this) GW308.out)) | (show (Addr.add _ _).block ≠ _; rw [add_block]; exact Nat.ne_of_lt (Nat.lt_of_lt_of_le (by have := World.block_lt_of_cell? _ _ hw303_0; first | rwa [add_block] at this | exact this) GW308.out)) | (dsimp only; exact Nat.ne_of_lt (Nat.lt_of_lt_of_le (by have := World.block_lt_of_cell? _ _ hw303_0; first | rwa [add_block] at this | exact this) GW308.out))) _).trans (((cell_far (p := ⟨gb308, _, none⟩) (by first | exact Nat.ne_of_lt (Nat.lt_of_lt_of_le (by have := World.block_lt_of_cell? _ _ hw303_0; first | rwa [add_block] at this | exact this) GW308.out) | (rw [add_block]; exact Nat.ne_of_lt (Nat.lt_of_lt_of_le (by have := World.block_lt_of_cell? _ _ hw303_0; first | rwa [add_block] at this | exact this) GW308.out)) | (show (Addr.add _ _).block ≠ _; rw [add_block]; exact Nat.ne_of_lt (Nat.lt_of_lt_of_le (by have := World.block_lt_of_cell? _ _ hw303_0; first | rwa [add_block] at this | exact this) GW308.out)) | (dsimp only; exact Nat.ne_of_lt (Nat.lt_of_lt_of_le (by have := World.block_lt_of_cell? _ _ hw303_0; first | rwa [add_block] at this | exact this) GW308.out))) _).trans (hHeld.2.2.1)))))), ((cell_far (p := ⟨gb308, _, none⟩) (by first | exact Nat.ne_of_lt (Nat.lt_of_lt_of_le (by have := World.block_lt_of_cell? _ _ hw303_1; first | rwa [add_block] at this | exact this) GW308.out) | (rw [add_block]; exact Nat.ne_of_lt (Nat.lt_of_lt_of_le (by have := World.block_lt_of_cell? _ _ hw303_1; first | rwa [add_block] at this | exact this) GW308.out)) | (show (Addr.add _ _).block ≠ _; rw [add_block]; exact Nat.ne_of_lt (Nat.lt_of_lt_of_le (by have := World.block_lt_of_cell? _ _ hw303_1; first | rwa [add_block] at this | exact this) GW308.out)) | (dsimp only; exact Nat.ne_of_lt (Nat.lt_of_lt_of_le (by have := World.block_lt_of_cell? _ _ hw303_1; first | rwa [add_block] at this | exact this) GW308.out))) _).trans (((cell_far (p := ⟨gb308, _, none⟩) (by first | exact Nat.ne_of_lt (Nat.lt_of_lt_of_le (by have := World.block_lt_of_cell? _ _ hw303_1; first | rwa [add_block] at this | exact this) GW308.out) | (rw [add_block]; exact Nat.ne_of_lt (Nat.lt_of_lt_of_le (by have := World.block_lt_of_cell? _ _ hw303_1; first | rwa [add_block] at this | exact this) GW308.out)) | (show (Addr.add _ _).block ≠ _; rw [add_block]; exact Nat.ne_of_lt (Nat.lt_of_lt_of_le (by have := World.block_lt_of_cell? _ _ hw303_1; first | rwa [add_block] at this | exact this) GW308.out)) | (dsimp only; exact Nat.ne_of_lt (Nat.lt_of_lt_of_le (by have := World.block_lt_of_cell? _ _ hw303_1; first | rwa [add_block] at this | exact this) GW308.out))) _).trans (((cell_far (p := ⟨gb308, _, none⟩) (by first | exact Nat.ne_of_lt (Nat.lt_of_lt_of_le (by have := World.block_lt_of_cell? _ _ hw303_1; first | rwa [add_block] at this | exact this) GW308.out) | (rw [add_block]; exact Nat.ne_of_lt (Nat.lt_of_lt_of_le (by have := World.block_lt_of_cell? _ _ hw303_1; first | rwa [add_block] at this | exact this) GW308.out)) | (show (Addr.add _ _).block ≠ _; rw [add_block]; exact Nat.ne_of_lt (Nat.lt_of_lt_of_le (by have := World.block_lt_of_cell? _ _ hw303_1; first | rwa [add_block] at this | exact this) GW308.out)) | (dsimp only; exact Nat.ne_of_lt (Nat.lt_of_lt_of_le (by have := World.block_lt_of_cell? _ _ hw303_1; first | rwa [add_block] at this | exact this) GW308.out))) _).trans (hHeld.2.2.2.1)))))), ((cell_far (p := ⟨gb308, _, none⟩) (by first | exact Nat.ne_of_lt (Nat.lt_of_lt_of_le (by have := World.block_lt_of_cell? _ _ hw303_2; first | rwa [add_block] at this | exact this) GW308.out) | (rw [add_block]; exact Nat.ne_of_lt (Nat.lt_of_lt_of_le (by have := World.block_lt_of_cell? _ _ hw303_2; first | rwa [add_block] at this | exact this) GW308.out)) | (show (Addr.add _ _).block ≠ _; rw [add_block]; exact Nat.ne_of_lt (Nat.lt_of_lt_of_le (by have := World.block_lt_of_cell? _ _ hw303_2; first | rwa [add_block] at this | exact this) GW308.out)) | (dsimp only; exact Nat.ne_of_lt (Nat.lt_of_lt_of_le (by have := World.block_lt_of_cell? _ _ hw303_2; first | rwa [add_block] at this | exact this) GW308.out))) _).trans (((cell_far (p := ⟨gb308, _, none⟩) (by first | exact Nat.ne_of_lt (Nat.lt_of_lt_of_le (by have := World.block_lt_of_cell? _ _ hw303_2; first | rwa [add_block] at this | exact this) GW308.out) | (rw [add_block]; exact Nat.ne_of_lt (Nat.lt_of_lt_of_le (by have := World.block_lt_of_cell? _ _ hw303_2; first | rwa [add_block] at this | exact this) GW308.out)) | (show (Addr.add _ _).block ≠ _; rw [add_block]; exact Nat.ne_of_lt (Nat.lt_of_lt_of_le (by have := World.block_lt_of_cell? _ _ hw303_2; first | rwa [add_block] at this | exact this) GW308.out)) | (dsimp only; exact Nat.ne_of_lt (Nat.lt_of_lt_of_le (by have := World.block_lt_of_cell? _ _ hw303_2; first | rwa [add_block] at this | exact this) GW308.out))) _).trans (((cell_far (p := ⟨gb308, _, none⟩) (by first | exact Nat.ne_of_lt (Nat.lt_of_lt_of_le (by have := World.block_lt_of_cell? _ _ hw303_2; first | rwa [add_block] at this | exact this) GW308.out) | (rw [add_block]; exact Nat.ne_of_lt (Nat.lt_of_lt_of_le (by have := World.block_lt_of_cell? _ _ hw303_2; first | rwa [add_block] at this | exact this) GW308.out)) | (show (Addr.add _ _).block ≠ _; rw [add_block]; exact Nat.ne_of_lt (Nat.lt_of_lt_of_le (by have := World.block_lt_of_cell? _ _ hw303_2; first | rwa [add_block] at this | exact this) GW308.out)) | (dsimp only; exact Nat.ne_of_lt (Nat.lt_of_lt_of_le (by have := World.block_lt_of_cell? _ _ hw303_2; first | rwa [add_block] at this | exact this) GW308.out))) _).trans (hHeld.2.2.2.2.1)))))), ((cell_far (p := ⟨gb308, _, none⟩) (by first | exact Nat.ne_of_lt (Nat.lt_of_lt_of_le (by have := World.block_lt_of_cell? _ _ hw303_3; first | rwa [add_block] at this | exact this) GW308.out) | (rw [add_block]; exact Nat.ne_of_lt (Nat.lt_of_lt_of_le (by have := World.block_lt_of_cell? _ _ hw303_3; first | rwa [add_block] at this | exact this) GW308.out)) | (show (Addr.add _ _).block ≠ _; rw [add_block]; exact Nat.ne_of_lt (Nat.lt_of_lt_of_le (by have := World.block_lt_of_cell? _ _ hw303_3; first | rwa [add_block] at this | exact this) GW308.out)) | (dsimp only; exact Nat.ne_of_lt (Nat.lt_of_lt_of_le (by have := World.block_lt_of_cell? _ _ hw303_3; first | rwa [add_block] at this | exact this) GW308.out))) _).trans (((cell_far (p := ⟨gb308, _, none⟩) (by first | exact Nat.ne_of_lt (Nat.lt_of_lt_of_le (by have := World.block_lt_of_cell? _ _ hw303_3; first | rwa [add_block] at this | exact this) GW308.out) | (rw [add_block]; exact Nat.ne_of_lt (Nat.lt_of_lt_of_le (by have := World.block_lt_of_cell? _ _ hw303_3; first | rwa [add_block] at this | exact this) GW308.out)) | (show (Addr.add _ _).block ≠ _; rw [add_block]; exact Nat.ne_of_lt (Nat.lt_of_lt_of_le (by have := World.block_lt_of_cell? _ _ hw303_3; first | rwa [add_block] at this | exact this) GW308.out)) | (dsimp only; exact Nat.ne_of_lt (Nat.lt_of_lt_of_le (by have := World.block_lt_of_cell? _ _ hw303_3; first | rwa [add_block] at this | exact this) GW308.out))) _).trans (((cell_far (p := ⟨gb308, _, none⟩) (by first | exact Nat.ne_of_lt (Nat.lt_of_lt_of_le (by have := World.block_lt_of_cell? _ _ hw303_3; first | rwa [add_block] at this | exact this) GW308.out) | (rw [add_block]; exact Nat.ne_of_lt (Nat.lt_of_lt_of_le (by have := World.block_lt_of_cell? _ _ hw303_3; first | rwa [add_block] at this | exact this) GW308.out)) | (show (Addr.add _ _).block ≠ _; rw [add_block]; exact Nat.ne_of_lt (Nat.lt_of_lt_of_le (by have := World.block_lt_of_cell? _ _ hw303_3; first | rwa [add_block] at this | exact this) GW308.out)) | (dsimp only; exact Nat.ne_of_lt (Nat.lt_of_lt_of_le (by have := World.block_lt_of_cell? _ _ hw303_3; first | rwa [add_block] at this | exact this) GW308.out))) _).trans (hHeld.2.2.2.2.2))))))⟩ (fun hHeld => ?_)
                                  clear hK K
                                  refine pure_ (i := 19) (N := some 13) (v := ?_) (a' := ?_) #[true, true, true, true, true, true, true, true, true, true, true, true, true, true, true, true, true, true, true, true] rfl rfl (any_of HT_.out (by kernel_rfl)) (fun _ _ _ h => h) (Or.inl ⟨by rfl, ?_⟩) ?_ ?_
                                  rotate_left
                                  · intro w'
                                    go_simp
                                    with_reducible rfl
                                  rotate_left
                                  · simp only [Act.put, List.setIfInBounds_toArray, List.set_cons_zero, List.set_cons_succ, i64_w, i32_w]
                                    rfl
                                  refine done_ (done_of HT_.out (by kernel_rfl)) ?_
                                  have hnb77 := NB288_308.out
                                  have hnc77 := NB308_288.out
                                  have hcz78_0 : w73.cell? ⟨gb288, 0, none⟩ = some (.int .i64 a2_0) := (blk_cell BK288.out 0).trans rfl
                                  have hcz78_1 : w73.cell? ⟨gb288, 1, none⟩ = some (.int .i64 a2_1) := (blk_cell BK288.out 1).trans rfl
                                  have hfz78_0 := blk_frozen BK288.out 0
                                  have hfz78_1 := blk_frozen BK288.out 1
                                  try go_wp2
                                  have n0_ : Aside0 (Kd.R k59 59 (((w73.setCell ⟨gb308, 0, none⟩ (.int .i64 t304)).setCell ⟨gb308, 1, none⟩ (.int .i64 t305)).setCell ⟨gb308, 2, none⟩ (.bool t306)) w.heap.size (fun _ => True) (.slice Ao69 t296.length co69) t296) := ⟨by (with_reducible repeat (first | apply Kd.R_alloc | apply Kd.R_drewN | apply Kd.R_drew)); exact Kd.R_mono (Kd.R_far (p := ⟨gb308, 2, none⟩) (Kd.R_far (p := ⟨gb308, 1, none⟩) (Kd.R_far (p := ⟨gb308, 0, none⟩) (Kd.R_types HO_10.out BK308.out (by decide)) (fun _ hk => hk.2) (.int .i64 t304)) (fun _ hk => hk.2) (.int .i64 t305)) (fun _ hk => hk.2) (.bool t306)) (fun _ hk => trivial)⟩
                                  have n1_ : Aside0 ((((w73.setCell ⟨gb308, 0, none⟩ (.int .i64 t304)).setCell ⟨gb308, 1, none⟩ (.int .i64 t305)).setCell ⟨gb308, 2, none⟩ (.bool t306)).heap[gb288]? = some (.cells #[.int .i64 a2_0, .int .i64 a2_1] 41 (0, 0))) := ⟨by (with_reducible repeat (first | refine blk_drewN ?_ _ | refine blk_drew ?_ | refine blk_alloc ?_ _)); refine blk_far ?_ NB288_308.out _; (with_reducible repeat (first | refine blk_drewN ?_ _ | refine blk_drew ?_ | refine blk_alloc ?_ _)); refine blk_far ?_ NB288_308.out _; (with_reducible repeat (first | refine blk_drewN ?_ _ | refine blk_drew ?_ | refine blk_alloc ?_ _)); refine blk_far ?_ NB288_308.out _; (with_reducible repeat (first | refine blk_drewN ?_ _ | refine blk_drew ?_ | refine blk_alloc ?_ _)); exact BK288.out⟩
                                  have n2_ : Aside0 ((((w73.setCell ⟨gb308, 0, none⟩ (.int .i64 t304)).setCell ⟨gb308, 1, none⟩ (.int .i64 t305)).setCell ⟨gb308, 2, none⟩ (.bool t306)).heap[gb308]? = some (.cells #[.int .i64 t304, .int .i64 t305, .bool t306] 43 (0, 0))) := ⟨by (with_reducible repeat (first | refine blk_drewN ?_ _ | refine blk_drew ?_ | refine blk_alloc ?_ _)); refine blk_put (cs := #[.int .i64 t304, .int .i64 t305, .bool false]) ?_ 2 _ rfl; (with_reducible repeat (first | refine blk_drewN ?_ _ | refine blk_drew ?_ | refine blk_alloc ?_ _)); refine blk_put (cs := #[.int .i64 t304, .int .i64 0, .bool false]) ?_ 1 _ rfl; (with_reducible repeat (first | refine blk_drewN ?_ _ | refine blk_drew ?_ | refine blk_alloc ?_ _)); refine blk_put (cs := #[.int .i64 0, .int .i64 0, .bool false]) ?_ 0 _ rfl; (with_reducible repeat (first | refine blk_drewN ?_ _ | refine blk_drew ?_ | refine blk_alloc ?_ _)); exact BK308.out⟩
                                  have n3_ : Aside0 (Below w.heap.size w (((w73.setCell ⟨gb308, 0, none⟩ (.int .i64 t304)).setCell ⟨gb308, 1, none⟩ (.int .i64 t305)).setCell ⟨gb308, 2, none⟩ (.bool t306))) := ⟨by repeat (first | (with_reducible first | exact HB.out | apply below_alloc | apply pw_below_drewN | apply below_drew1 | refine below_set ?_ GE288.out | refine below_set ?_ GE308.out) | exact HB.out)⟩
                                  (try clear HO_10)
                                  (try clear BK288)
                                  (try clear BK308)
                                  (try clear HB)
                                  generalize (((w73.setCell ⟨gb308, 0, none⟩ (.int .i64 t304)).setCell ⟨gb308, 1, none⟩ (.int .i64 t305)).setCell ⟨gb308, 2, none⟩ (.bool t306)) = w79 at n0_ n1_ n2_ n3_ ⊢
                                  have HO_10 := n0_
                                  have BK288 := n1_
                                  have BK308 := n2_
                                  have HB := n3_
                                  clear n0_ n1_ n2_ n3_
                                  have n0_ := Aside0.mk (Kd.R_drew HO_10.out)
                                  have n1_ := Aside0.mk (blk_drew BK288.out)
                                  have n2_ := Aside0.mk (blk_drew BK308.out)
                                  have n3_ := Aside0.mk (below_drew1 HB.out)
                                  clear HO_10
                                  clear BK288
                                  clear BK308
                                  clear HB
                                  have HO_10 := n0_
                                  have BK288 := n1_
                                  have BK308 := n2_
                                  have HB := n3_
                                  clear n0_ n1_ n2_ n3_
                                  have p314 : 0 ≤ (0 : Int) := (by omega)
                                  have q314 : 0 < (l0.length : Int) := of_decide_eq_true (by first | (with_reducible assumption) | assumption)
                                  obtain ⟨ad314, e314, hx314_0, hx314_1, hx314_2, hx314_3⟩ := at_T37 HR0.out 0 p314 q314
                                  have hw314_3 := hx314_3
                                  (try rw [show ((0 : Int)).toNat = 0 from rfl] at hw314_3)
                                  (try rw [show 0 * 4 = 0 from rfl] at hw314_3)
                                  (try rw [Addr.add_zero'] at hw314_3)
                                  have hw314_2 := hx314_2
                                  (try rw [show ((0 : Int)).toNat = 0 from rfl] at hw314_2)
                                  (try rw [show 0 * 4 = 0 from rfl] at hw314_2)
                                  (try rw [Addr.add_zero'] at hw314_2)
                                  have hw314_1 := hx314_1
                                  (try rw [show ((0 : Int)).toNat = 0 from rfl] at hw314_1)
                                  (try rw [show 0 * 4 = 0 from rfl] at hw314_1)
                                  (try rw [Addr.add_zero'] at hw314_1)
                                  have hw314_0 := hx314_0
                                  (try rw [show ((0 : Int)).toNat = 0 from rfl] at hw314_0)
                                  (try rw [show 0 * 4 = 0 from rfl] at hw314_0)
                                  (try rw [Addr.add_zero'] at hw314_0)
                                  obtain rfl : ad303 = ad314 := (by injection e314)
                                  have qi314 : (0 < l0.length) = True := eq_true (by omega)
                                  (try rw [show ((0 : Int)).toNat = 0 from rfl] at hx314_0)
                                  (try rw [show 0 * 4 = 0 from rfl] at hx314_0)
                                  (try rw [Addr.add_zero'] at hx314_0)
                                  (try rw [show ((0 : Int)).toNat = 0 from rfl] at hx314_1)
                                  (try rw [show 0 * 4 = 0 from rfl] at hx314_1)
                                  (try rw [Addr.add_zero'] at hx314_1)
                                  (try rw [show ((0 : Int)).toNat = 0 from rfl] at hx314_2)
                                  (try rw [show 0 * 4 = 0 from rfl] at hx314_2)
                                  (try rw [Addr.add_zero'] at hx314_2)
                                  (try rw [show ((0 : Int)).toNat = 0 from rfl] at hx314_3)
                                  (try rw [show 0 * 4 = 0 from rfl] at hx314_3)
                                  (try rw [Addr.add_zero'] at hx314_3)
                                  replace hx314_0 := (HB.out.cell (World.block_lt_of_cell? w _ hx314_0)).trans hx314_0
                                  replace hx314_1 := (HB.out.cell (World.block_lt_of_cell? w _ hx314_1)).trans hx314_1
                                  replace hx314_2 := (HB.out.cell (World.block_lt_of_cell? w _ hx314_2)).trans hx314_2
                                  replace hx314_3 := (HB.out.cell (World.block_lt_of_cell? w _ hx314_3)).trans hx314_3
                                  replace p314 := eq_true p314
                                  replace q314 := eq_true q314
                                  refine start_ (n := 14) (S := fun w' => w'.cell? ⟨gb288, 0, none⟩ = some (.int .i64 a2_0) ∧ w'.cell? ⟨gb288, 1, none⟩ = some (.int .i64 a2_1) ∧ w'.cell? ad303 = some (.int .i64 ((rd_T37 l0 0).f0)) ∧ w'.cell? ⟨ad303.block, ad303.off + 1, none⟩ = some (.int .i64 ((rd_T37 l0 0).f1)) ∧ w'.cell? ⟨ad303.block, ad303.off + 2, none⟩ = some (.int .i64 ((rd_T37 l0 0).f2)) ∧ w'.cell? ⟨ad303.block, ad303.off + 3, none⟩ = some (.int .i64 ((rd_T37 l0 0).f3))) (ds := []) #[false, false, false, false, false, false, false, false, false, false, false, false, false, false] (by kernel_rfl) rfl rfl ⟨(blk_cell BK288.out 0).trans rfl, (blk_cell BK288.out 1).trans rfl, ((HB.out.cell (World.block_lt_of_cell? w _ hw314_0)).trans hw314_0), ((HB.out.cell (World.block_lt_of_cell? w _ hw314_1)).trans hw314_1), ((HB.out.cell (World.block_lt_of_cell? w _ hw314_2)).trans hw314_2), ((HB.out.cell (World.block_lt_of_cell? w _ hw314_3)).trans hw314_3)⟩ (fun hHeld => ?_); refine with_tabW estoverslaw21_GrantFifo.tab12 estoverslaw21_GrantFifo.bits12 (fun HT_ HW_ => ?_)
                                  generalize w79.drew = w80 at HO_10 BK288 BK308 HB hx314_0 hx314_1 hx314_2 hx314_3 hHeld ⊢
                                  refine pure_ (i := 0) (N := some 102) (v := ?_) (a' := ?_) #[true, false, false, false, false, false, false, false, false, false, false, false, false, false] rfl rfl (any_of HT_.out (by kernel_rfl)) (fun _ _ _ h => h) (Or.inl ⟨by rfl, ?_⟩) ?_ ?_
                                  rotate_left
                                  · intro w'
                                    go_simp
                                    with_reducible rfl
                                  rotate_left
                                  · simp only [Act.put, List.setIfInBounds_toArray, List.set_cons_zero, List.set_cons_succ, i64_w, i32_w]
                                    rfl
                                  refine pure_ (i := 1) (N := some 103) (v := ?_) (a' := ?_) #[true, true, false, false, false, false, false, false, false, false, false, false, false, false] rfl rfl (any_of HT_.out (by kernel_rfl)) (fun _ _ _ h => h) (Or.inl ⟨by rfl, ?_⟩) ?_ ?_
                                  rotate_left
                                  · intro w'
                                    go_simp
                                    with_reducible rfl
                                  rotate_left
                                  · simp only [Act.put, List.setIfInBounds_toArray, List.set_cons_zero, List.set_cons_succ, i64_w, i32_w]
                                    rfl
                                  refine pure_ (i := 3) (N := some 105) (v := ?_) (a' := ?_) #[true, true, false, true, false, false, false, false, false, false, false, false, false, false] rfl rfl (any_of HT_.out (by kernel_rfl)) (fun _ _ _ h => h) (Or.inl ⟨by rfl, ?_⟩) ?_ ?_
                                  rotate_left
                                  · intro w'
                                    go_simp
                                    with_reducible rfl
                                  rotate_left
                                  · simp only [Act.put, List.setIfInBounds_toArray, List.set_cons_zero, List.set_cons_succ, i64_w, i32_w]
                                    rfl
                                  refine pure_ (i := 4) (N := some 106) (v := ?_) (a' := ?_) #[true, true, false, true, true, false, false, false, false, false, false, false, false, false] rfl rfl (any_of HT_.out (by kernel_rfl)) (fun _ _ _ h => h) (Or.inl ⟨by rfl, ?_⟩) ?_ ?_
                                  rotate_left
                                  · intro w'
                                    go_simp
                                    with_reducible rfl
                                  rotate_left
                                  · simp only [Act.put, List.setIfInBounds_toArray, List.set_cons_zero, List.set_cons_succ, i64_w, i32_w]
                                    rfl
                                  refine pure_ (i := 6) (N := some 108) (v := ?_) (a' := ?_) #[true, true, false, true, true, false, true, false, false, false, false, false, false, false] rfl rfl (any_of HT_.out (by kernel_rfl)) (fun _ _ _ h => h) (Or.inl ⟨by rfl, ?_⟩) ?_ ?_
                                  rotate_left
                                  · intro w'
                                    go_simp
                                    with_reducible rfl
                                  rotate_left
                                  · simp only [Act.put, List.setIfInBounds_toArray, List.set_cons_zero, List.set_cons_succ, i64_w, i32_w]
                                    rfl
                                  refine take_ (i := 2) (N := some 104) (v := ?_) (a' := ?_) #[true, true, true, true, true, false, true, false, false, false, false, false, false, false] rfl rfl (take_ofW HT_.out HW_.out (by kernel_rfl)) (fun _ _ _ h => h) (Or.inl ⟨by rfl, ?_⟩) hHeld ?_ ?_
                                  rotate_left
                                  · rintro w' ⟨s0, s1, s2, s3, s4, s5⟩
                                    go_simp
                                    with_reducible rfl
                                  rotate_left
                                  · simp only [Act.put, List.setIfInBounds_toArray, List.set_cons_zero, List.set_cons_succ, i64_w, i32_w]
                                    rfl
                                  refine take_ (i := 5) (N := some 107) (v := ?_) (a' := ?_) #[true, true, true, true, true, true, true, false, false, false, false, false, false, false] rfl rfl (take_ofW HT_.out HW_.out (by kernel_rfl)) (fun _ _ _ h => h) (Or.inl ⟨by rfl, ?_⟩) hHeld ?_ ?_
                                  rotate_left
                                  · rintro w' ⟨s0, s1, s2, s3, s4, s5⟩
                                    go_simp
                                    with_reducible rfl
                                  rotate_left
                                  · simp only [Act.put, List.setIfInBounds_toArray, List.set_cons_zero, List.set_cons_succ, i64_w, i32_w]
                                    rfl
                                  refine take_ (i := 7) (N := some 109) (v := ?_) (a' := ?_) #[true, true, true, true, true, true, true, true, false, false, false, false, false, false] rfl rfl (take_ofW HT_.out HW_.out (by kernel_rfl)) (fun _ _ _ h => h) (Or.inl ⟨by rfl, ?_⟩) hHeld ?_ ?_
                                  rotate_left
                                  · rintro w' ⟨s0, s1, s2, s3, s4, s5⟩
                                    go_simp
                                    with_reducible rfl
                                  rotate_left
                                  · simp only [Act.put, List.setIfInBounds_toArray, List.set_cons_zero, List.set_cons_succ, i64_w, i32_w]
                                    rfl
                                  refine one_ (i := 8) (N := some 110) #[true, true, true, true, true, true, true, true, true, false, false, false, false, false] rfl rfl (one_of HT_.out (by kernel_rfl)) (by decide) (fun K hK => ?_)
                                  refine goes_ Try.func16 (by kernel_rfl) rfl #[.agg #[.int .i64 ((rd_T37 l0 0).f0), .int .i64 ((rd_T37 l0 0).f1), .int .i64 ((rd_T37 l0 0).f2), .int .i64 ((rd_T37 l0 0).f3)], .slice A1 l1.length c1, .int .i64 a2_0, .int .i64 a2_1] (by rfl) rfl rfl (by (try simp only [List.map_toArray, List.map_cons, List.map_nil]); first | done | rfl | (simp only [List.length_drop, List.length_take]; rfl)) ?_
                                  with_reducible refine (grant_Short.calls kj33 ((rd_T37 l0 0).f0) ((rd_T37 l0 0).f1) ((rd_T37 l0 0).f2) ((rd_T37 l0 0).f3) _ _ l1 a2_0 a2_1 t315 t316 t317 t318 _ ?side1 ?side2 A67.out).mono ?_
                                  (case side1 => repeat (first | exact (Kd.C_below HR1.out HB.out) | (with_reducible refine Kd.C_alloc ?_ _) | (with_reducible refine Kd.C_drewN ?_ _) | (with_reducible refine Kd.C_drew ?_)))
                                  (case side2 => exact HC1.out)
                                  rintro e w81 ⟨rfl, hb⟩
                                  refine ⟨_, rfl, ?_⟩
                                  have n0_ := Aside0.mk (Kd.R_below (by (with_reducible repeat (first | apply Kd.R_alloc | apply Kd.R_drewN | apply Kd.R_drew)); exact HO_10.out) hb)
                                  have n1_ := Aside0.mk (blk_below (g := gb288) (o := .cells #[.int .i64 a2_0, .int .i64 a2_1] 41 (0, 0)) (by (with_reducible repeat (first | refine blk_drewN ?_ _ | refine blk_drew ?_ | refine blk_alloc ?_ _)); exact BK288.out) hb)
                                  have n2_ := Aside0.mk (blk_below (g := gb308) (o := .cells #[.int .i64 t304, .int .i64 t305, .bool t306] 43 (0, 0)) (by (with_reducible repeat (first | refine blk_drewN ?_ _ | refine blk_drew ?_ | refine blk_alloc ?_ _)); exact BK308.out) hb)
                                  have n3_ := Aside0.mk (below_step (by repeat (first | (with_reducible first | exact HB.out | apply below_alloc | apply pw_below_drewN | apply below_drew1 | refine below_set ?_ GE288.out | refine below_set ?_ GE308.out) | exact HB.out)) hb)
                                  clear HO_10
                                  clear BK288
                                  clear BK308
                                  clear HB
                                  have HO_10 := n0_
                                  have BK288 := n1_
                                  have BK308 := n2_
                                  have HB := n3_
                                  clear n0_ n1_ n2_ n3_
                                  (try clear hb)
                                  (try clear hb2)
                                  (try clear hk)
                                  (try clear hi)
                                  refine hK.out _ _ ⟨(blk_cell BK288.out 0).trans rfl, (blk_cell BK288.out 1).trans rfl, ((HB.out.cell (World.block_lt_of_cell? w _ hw314_0)).trans hw314_0), ((HB.out.cell (World.block_lt_of_cell? w _ hw314_1)).trans hw314_1), ((HB.out.cell (World.block_lt_of_cell? w _ hw314_2)).trans hw314_2), ((HB.out.cell (World.block_lt_of_cell? w _ hw314_3)).trans hw314_3)⟩ (fun hHeld => ?_)
                                  clear hK K
                                  refine norm_ (a' := ?_) ?_ ?_
                                  rotate_left
                                  · show Act.put _ (some 110) _ = _
                                    simp only [Act.put, List.setIfInBounds_toArray, List.set_cons_zero, List.set_cons_succ, i64_w, i32_w]
                                    rfl
                                  refine pure_ (i := 9) (N := some 101) (v := ?_) (a' := ?_) #[true, true, true, true, true, true, true, true, true, true, false, false, false, false] rfl rfl (any_of HT_.out (by kernel_rfl)) (fun _ _ _ h => h) (Or.inl ⟨by rfl, ?_⟩) ?_ ?_
                                  rotate_left
                                  · intro w'
                                    go_simp
                                    with_reducible rfl
                                  rotate_left
                                  · simp only [Act.put, List.setIfInBounds_toArray, List.set_cons_zero, List.set_cons_succ, i64_w, i32_w]
                                    rfl
                                  refine pure_ (i := 10) (N := some 111) (v := ?_) (a' := ?_) #[true, true, true, true, true, true, true, true, true, true, true, false, false, false] rfl rfl (any_of HT_.out (by kernel_rfl)) (fun _ _ _ h => h) (Or.inl ⟨by rfl, ?_⟩) ?_ ?_
                                  rotate_left
                                  · intro w'
                                    go_simp
                                    with_reducible rfl
                                  rotate_left
                                  · simp only [Act.put, List.setIfInBounds_toArray, List.set_cons_zero, List.set_cons_succ, i64_w, i32_w]
                                    rfl
                                  refine pure_ (i := 11) (N := some 112) (v := ?_) (a' := ?_) #[true, true, true, true, true, true, true, true, true, true, true, true, false, false] rfl rfl (any_of HT_.out (by kernel_rfl)) (fun _ _ _ h => h) (Or.inl ⟨by rfl, ?_⟩) ?_ ?_
                                  rotate_left
                                  · intro w'
                                    go_simp
                                    with_reducible rfl
                                  rotate_left
                                  · simp only [Act.put, List.setIfInBounds_toArray, List.set_cons_zero, List.set_cons_succ, i64_w, i32_w]
                                    rfl
                                  refine one_ (i := 12) (N := none) #[true, true, true, true, true, true, true, true, true, true, true, true, true, false] rfl rfl (one_of HT_.out (by kernel_rfl)) (by decide) (fun K hK => ?_)
                                  have hs82 : w81.cell? ⟨gb308, 0, none⟩ = some (.int .i64 t304) := (blk_cell BK308.out 0).trans rfl
                                  have hfs82 := blk_frozen BK308.out 0
                                  have hns82_0 := NB288_308.out
                                  have hms82_0 := NB308_288.out
                                  have hs83 : w81.cell? ⟨gb308, 1, none⟩ = some (.int .i64 t305) := (blk_cell BK308.out 1).trans rfl
                                  have hfs83 := blk_frozen BK308.out 1
                                  have hns83_0 := NB288_308.out
                                  have hms83_0 := NB308_288.out
                                  have hs84 : w81.cell? ⟨gb308, 2, none⟩ = some (.bool t306) := (blk_cell BK308.out 2).trans rfl
                                  have hfs84 := blk_frozen BK308.out 2
                                  have hns84_0 := NB288_308.out
                                  have hms84_0 := NB308_288.out
                                  refine skip_ (w1 := ?_) (by rfl) rfl ?_ ?_
                                  rotate_left
                                  · go_simp
                                    rfl
                                  refine hK.out _ _ ⟨((cell_far (p := ⟨gb308, _, none⟩) NB288_308.out _).trans (((cell_far (p := ⟨gb308, _, none⟩) NB288_308.out _).trans (((cell_far (p := ⟨gb308, _, none⟩) NB288_308.out _).trans (hHeld.1)))))), ((cell_far (p := ⟨gb308, _, none⟩) NB288_308.out _).trans (((cell_far (p := ⟨gb308, _, none⟩) NB288_308.out _).trans (((cell_far (p := ⟨gb308, _, none⟩) NB288_308.out _).trans (hHeld.2.1)))))), ((cell_far (p := ⟨gb308, _, none⟩) (by first | exact Nat.ne_of_lt (Nat.lt_of_lt_of_le (by have := World.block_lt_of_cell? _ _ hw314_0; first | rwa [add_block] at this | exact this) GW308.out) | (rw [add_block]; exact Nat.ne_of_lt (Nat.lt_of_lt_of_le (by have := World.block_lt_of_cell? _ _ hw314_0; first | rwa [add_block] at this | exact this) GW308.out)) | (show (Addr.add _ _).block ≠ _; rw [add_block]; exact Nat.ne_of_lt (Nat.lt_of_lt_of_le (by have := World.block_lt_of_cell? _ _ hw314_0; first | rwa [add_block] at this | exact this) GW308.out)) | (dsimp only; exact Nat.ne_of_lt (Nat.lt_of_lt_of_le (by have := World.block_lt_of_cell? _ _ hw314_0; first | rwa [add_block] at this | exact this) GW308.out))) _).trans (((cell_far (p := ⟨gb308, _, none⟩) (by first | exact Nat.ne_of_lt (Nat.lt_of_lt_of_le (by have := World.block_lt_of_cell? _ _ hw314_0; first | rwa [add_block] at this | exact this) GW308.out) | (rw [add_block]; exact Nat.ne_of_lt (Nat.lt_of_lt_of_le (by have := World.block_lt_of_cell? _ _ hw314_0; first | rwa [add_block] at this | exact this) GW308.out)) | (show (Addr.add _ _).block ≠ _; rw [add_block]; exact Nat.ne_of_lt (Nat.lt_of_lt_of_le (by have := World.block_lt_of_cell? _ _ hw314_0; first | rwa [add_block] at this | exact this) GW308.out)) | (dsimp only; exact Nat.ne_of_lt (Nat.lt_of_lt_of_le (by have := World.block_lt_of_cell? _ _ hw314_0; first | rwa [add_block] at this | exact this) GW308.out))) _).trans (((cell_far (p := ⟨gb308, _, none⟩) (by first | exact Nat.ne_of_lt (Nat.lt_of_lt_of_le (by have := World.block_lt_of_cell? _ _ hw314_0; first | rwa [add_block] at this | exact this) GW308.out) | (rw [add_block]; exact Nat.ne_of_lt (Nat.lt_of_lt_of_le (by have := World.block_lt_of_cell? _ _ hw314_0; first | rwa [add_block] at this | exact this) GW308.out)) | (show (Addr.add _ _).block ≠ _; rw [add_block]; exact Nat.ne_of_lt (Nat.lt_of_lt_of_le (by have := World.block_lt_of_cell? _ _ hw314_0; first | rwa [add_block] at this | exact this) GW308.out)) | (dsimp only; exact Nat.ne_of_lt (Nat.lt_of_lt_of_le (by have := World.block_lt_of_cell? _ _ hw314_0; first | rwa [add_block] at this | exact this) GW308.out))) _).trans (hHeld.2.2.1)))))), ((cell_far (p := ⟨gb308, _, none⟩) (by first | exact Nat.ne_of_lt (Nat.lt_of_lt_of_le (by have := World.block_lt_of_cell? _ _ hw314_1; first | rwa [add_block] at this | exact this) GW308.out) | (rw [add_block]; exact Nat.ne_of_lt (Nat.lt_of_lt_of_le (by have := World.block_lt_of_cell? _ _ hw314_1; first | rwa [add_block] at this | exact this) GW308.out)) | (show (Addr.add _ _).block ≠ _; rw [add_block]; exact Nat.ne_of_lt (Nat.lt_of_lt_of_le (by have := World.block_lt_of_cell? _ _ hw314_1; first | rwa [add_block] at this | exact this) GW308.out)) | (dsimp only; exact Nat.ne_of_lt (Nat.lt_of_lt_of_le (by have := World.block_lt_of_cell? _ _ hw314_1; first | rwa [add_block] at this | exact this) GW308.out))) _).trans (((cell_far (p := ⟨gb308, _, none⟩) (by first | exact Nat.ne_of_lt (Nat.lt_of_lt_of_le (by have := World.block_lt_of_cell? _ _ hw314_1; first | rwa [add_block] at this | exact this) GW308.out) | (rw [add_block]; exact Nat.ne_of_lt (Nat.lt_of_lt_of_le (by have := World.block_lt_of_cell? _ _ hw314_1; first | rwa [add_block] at this | exact this) GW308.out)) | (show (Addr.add _ _).block ≠ _; rw [add_block]; exact Nat.ne_of_lt (Nat.lt_of_lt_of_le (by have := World.block_lt_of_cell? _ _ hw314_1; first | rwa [add_block] at this | exact this) GW308.out)) | (dsimp only; exact Nat.ne_of_lt (Nat.lt_of_lt_of_le (by have := World.block_lt_of_cell? _ _ hw314_1; first | rwa [add_block] at this | exact this) GW308.out))) _).trans (((cell_far (p := ⟨gb308, _, none⟩) (by first | exact Nat.ne_of_lt (Nat.lt_of_lt_of_le (by have := World.block_lt_of_cell? _ _ hw314_1; first | rwa [add_block] at this | exact this) GW308.out) | (rw [add_block]; exact Nat.ne_of_lt (Nat.lt_of_lt_of_le (by have := World.block_lt_of_cell? _ _ hw314_1; first | rwa [add_block] at this | exact this) GW308.out)) | (show (Addr.add _ _).block ≠ _; rw [add_block]; exact Nat.ne_of_lt (Nat.lt_of_lt_of_le (by have := World.block_lt_of_cell? _ _ hw314_1; first | rwa [add_block] at this | exact this) GW308.out)) | (dsimp only; exact Nat.ne_of_lt (Nat.lt_of_lt_of_le (by have := World.block_lt_of_cell? _ _ hw314_1; first | rwa [add_block] at this | exact this) GW308.out))) _).trans (hHeld.2.2.2.1)))))), ((cell_far (p := ⟨gb308, _, none⟩) (by first | exact Nat.ne_of_lt (Nat.lt_of_lt_of_le (by have := World.block_lt_of_cell? _ _ hw314_2; first | rwa [add_block] at this | exact this) GW308.out) | (rw [add_block]; exact Nat.ne_of_lt (Nat.lt_of_lt_of_le (by have := World.block_lt_of_cell? _ _ hw314_2; first | rwa [add_block] at this | exact this) GW308.out)) | (show (Addr.add _ _).block ≠ _; rw [add_block]; exact Nat.ne_of_lt (Nat.lt_of_lt_of_le (by have := World.block_lt_of_cell? _ _ hw314_2; first | rwa [add_block] at this | exact this) GW308.out)) | (dsimp only; exact Nat.ne_of_lt (Nat.lt_of_lt_of_le (by have := World.block_lt_of_cell? _ _ hw314_2; first | rwa [add_block] at this | exact this) GW308.out))) _).trans (((cell_far (p := ⟨gb308, _, none⟩) (by first | exact Nat.ne_of_lt (Nat.lt_of_lt_of_le (by have := World.block_lt_of_cell? _ _ hw314_2; first | rwa [add_block] at this | exact this) GW308.out) | (rw [add_block]; exact Nat.ne_of_lt (Nat.lt_of_lt_of_le (by have := World.block_lt_of_cell? _ _ hw314_2; first | rwa [add_block] at this | exact this) GW308.out)) | (show (Addr.add _ _).block ≠ _; rw [add_block]; exact Nat.ne_of_lt (Nat.lt_of_lt_of_le (by have := World.block_lt_of_cell? _ _ hw314_2; first | rwa [add_block] at this | exact this) GW308.out)) | (dsimp only; exact Nat.ne_of_lt (Nat.lt_of_lt_of_le (by have := World.block_lt_of_cell? _ _ hw314_2; first | rwa [add_block] at this | exact this) GW308.out))) _).trans (((cell_far (p := ⟨gb308, _, none⟩) (by first | exact Nat.ne_of_lt (Nat.lt_of_lt_of_le (by have := World.block_lt_of_cell? _ _ hw314_2; first | rwa [add_block] at this | exact this) GW308.out) | (rw [add_block]; exact Nat.ne_of_lt (Nat.lt_of_lt_of_le (by have := World.block_lt_of_cell? _ _ hw314_2; first | rwa [add_block] at this | exact this) GW308.out)) | (show (Addr.add _ _).block ≠ _; rw [add_block]; exact Nat.ne_of_lt (Nat.lt_of_lt_of_le (by have := World.block_lt_of_cell? _ _ hw314_2; first | rwa [add_block] at this | exact this) GW308.out)) | (dsimp only; exact Nat.ne_of_lt (Nat.lt_of_lt_of_le (by have := World.block_lt_of_cell? _ _ hw314_2; first | rwa [add_block] at this | exact this) GW308.out))) _).trans (hHeld.2.2.2.2.1)))))), ((cell_far (p := ⟨gb308, _, none⟩) (by first | exact Nat.ne_of_lt (Nat.lt_of_lt_of_le (by have := World.block_lt_of_cell? _ _ hw314_3; first | rwa [add_block] at this | exact this) GW308.out) | (rw [add_block]; exact Nat.ne_of_lt (Nat.lt_of_lt_of_le (by have := World.block_lt_of_cell? _ _ hw314_3; first | rwa [add_block] at this | exact this) GW308.out)) | (show (Addr.add _ _).block ≠ _; rw [add_block]; exact Nat.ne_of_lt (Nat.lt_of_lt_of_le (by have := World.block_lt_of_cell? _ _ hw314_3; first | rwa [add_block] at this | exact this) GW308.out)) | (dsimp only; exact Nat.ne_of_lt (Nat.lt_of_lt_of_le (by have := World.block_lt_of_cell? _ _ hw314_3; first | rwa [add_block] at this | exact this) GW308.out))) _).trans (((cell_far (p := ⟨gb308, _, none⟩) (by first | exact Nat.ne_of_lt (Nat.lt_of_lt_of_le (by have := World.block_lt_of_cell? _ _ hw314_3; first | rwa [add_block] at this | exact this) GW308.out) | (rw [add_block]; exact Nat.ne_of_lt (Nat.lt_of_lt_of_le (by have := World.block_lt_of_cell? _ _ hw314_3; first | rwa [add_block] at this | exact this) GW308.out)) | (show (Addr.add _ _).block ≠ _; rw [add_block]; exact Nat.ne_of_lt (Nat.lt_of_lt_of_le (by have := World.block_lt_of_cell? _ _ hw314_3; first | rwa [add_block] at this | exact this) GW308.out)) | (dsimp only; exact Nat.ne_of_lt (Nat.lt_of_lt_of_le (by have := World.block_lt_of_cell? _ _ hw314_3; first | rwa [add_block] at this | exact this) GW308.out))) _).trans (((cell_far (p := ⟨gb308, _, none⟩) (by first | exact Nat.ne_of_lt (Nat.lt_of_lt_of_le (by have := World.block_lt_of_cell? _ _ hw314_3; first | rwa [add_block] at this | exact this) GW308.out) | (rw [add_block]; exact Nat.ne_of_lt (Nat.lt_of_lt_of_le (by have := World.block_lt_of_cell? _ _ hw314_3; first | rwa [add_block] at this | exact this) GW308.out)) | (show (Addr.add _ _).block ≠ _; rw [add_block]; exact Nat.ne_of_lt (Nat.lt_of_lt_of_le (by have := World.block_lt_of_cell? _ _ hw314_3; first | rwa [add_block] at this | exact this) GW308.out)) | (dsimp only; exact Nat.ne_of_lt (Nat.lt_of_lt_of_le (by have := World.block_lt_of_cell? _ _ hw314_3; first | rwa [add_block] at this | exact this) GW308.out))) _).trans (hHeld.2.2.2.2.2))))))⟩ (fun hHeld => ?_)
                                  clear hK K
                                  refine pure_ (i := 13) (N := some 13) (v := ?_) (a' := ?_) #[true, true, true, true, true, true, true, true, true, true, true, true, true, true] rfl rfl (any_of HT_.out (by kernel_rfl)) (fun _ _ _ h => h) (Or.inl ⟨by rfl, ?_⟩) ?_ ?_
                                  rotate_left
                                  · intro w'
                                    go_simp
                                    with_reducible rfl
                                  rotate_left
                                  · simp only [Act.put, List.setIfInBounds_toArray, List.set_cons_zero, List.set_cons_succ, i64_w, i32_w]
                                    rfl
                                  refine done_ (done_of HT_.out (by kernel_rfl)) ?_
                                  have hcz85_0 : w81.cell? ⟨gb308, 0, none⟩ = some (.int .i64 t304) := (blk_cell BK308.out 0).trans rfl
                                  have hcz85_1 : w81.cell? ⟨gb308, 1, none⟩ = some (.int .i64 t305) := (blk_cell BK308.out 1).trans rfl
                                  have hcz85_2 : w81.cell? ⟨gb308, 2, none⟩ = some (.bool t306) := (blk_cell BK308.out 2).trans rfl
                                  have hfz85_0 := blk_frozen BK308.out 0
                                  have hfz85_1 := blk_frozen BK308.out 1
                                  have hfz85_2 := blk_frozen BK308.out 2
                                  try go_wp2
                                  go_ret
                                  exact ⟨by first | rfl | (simp [errW_none, errW_some] <;> rfl) | (simp [*, errW_none, errW_some] <;> rfl), by repeat (first | (with_reducible first | exact HB.out | apply below_alloc | apply pw_below_drewN | apply below_drew1 | refine below_set ?_ GE288.out | refine below_set ?_ GE308.out) | exact HB.out)⟩
                                · rw [if_neg c68] at H
                                  exact absurd H (by simp)
                              · rw [if_neg c66] at H
                                exact absurd H (by simp)
                            · rw [if_neg c65] at H
                              have c65b0 : decide (a2_1 < 0) = false := decide_eq_false c65
                              clear c65
                              by_cases c86 : t307 = 0
                              · rw [if_pos c86] at H
                                have c86b0 : (t307 == 0) = true := beq_iff_eq.mpr c86
                                have c86b1 : (t307 != 0) = false := bne_eq_false_iff_eq.mpr c86
                                clear c86
                                obtain rfl := Option.some.inj H
                                obtain ⟨Ao87, co87, eo87⟩ := Kd.R_slice HO_10.out
                                subst eo87
                                try go_wp2
                                have n0_ := Aside0.mk (Kd.R_drew HO_10.out)
                                have n1_ := Aside0.mk (blk_drew BK288.out)
                                have n2_ := Aside0.mk (below_drew1 HB.out)
                                clear HO_10
                                clear BK288
                                clear HB
                                have HO_10 := n0_
                                have BK288 := n1_
                                have HB := n2_
                                clear n0_ n1_ n2_
                                have p303 : 0 ≤ (t293 : Int) := of_decide_eq_true (by first | (with_reducible assumption) | assumption)
                                have q303 : t293 < (l0.length : Int) := of_decide_eq_true (by first | (with_reducible assumption) | assumption)
                                obtain ⟨ad303, e303, hx303_0, hx303_1, hx303_2, hx303_3⟩ := at_T37 HR0.out t293 p303 q303
                                have hw303_3 := hx303_3
                                have hw303_2 := hx303_2
                                have hw303_1 := hx303_1
                                have hw303_0 := hx303_0
                                cases e303
                                replace hx303_0 := (HB.out.cell (World.block_lt_of_cell? w _ hx303_0)).trans hx303_0
                                replace hx303_1 := (HB.out.cell (World.block_lt_of_cell? w _ hx303_1)).trans hx303_1
                                replace hx303_2 := (HB.out.cell (World.block_lt_of_cell? w _ hx303_2)).trans hx303_2
                                replace hx303_3 := (HB.out.cell (World.block_lt_of_cell? w _ hx303_3)).trans hx303_3
                                replace p303 := eq_true p303
                                replace q303 := eq_true q303
                                refine start_ (n := 20) (S := fun w' => w'.cell? ⟨gb288, 0, none⟩ = some (.int .i64 a2_0) ∧ w'.cell? ⟨gb288, 1, none⟩ = some (.int .i64 a2_1) ∧ w'.cell? (ad303.add ((t293).toNat * 4)) = some (.int .i64 ((rd_T37 l0 t293).f0)) ∧ w'.cell? ⟨(ad303.add ((t293).toNat * 4)).block, (ad303.add ((t293).toNat * 4)).off + 1, none⟩ = some (.int .i64 ((rd_T37 l0 t293).f1)) ∧ w'.cell? ⟨(ad303.add ((t293).toNat * 4)).block, (ad303.add ((t293).toNat * 4)).off + 2, none⟩ = some (.int .i64 ((rd_T37 l0 t293).f2)) ∧ w'.cell? ⟨(ad303.add ((t293).toNat * 4)).block, (ad303.add ((t293).toNat * 4)).off + 3, none⟩ = some (.int .i64 ((rd_T37 l0 t293).f3))) (ds := []) #[false, false, false, false, false, false, false, false, false, false, false, false, false, false, false, false, false, false, false, false] (by kernel_rfl) rfl rfl ⟨(blk_cell BK288.out 0).trans rfl, (blk_cell BK288.out 1).trans rfl, ((HB.out.cell (World.block_lt_of_cell? w _ hw303_0)).trans hw303_0), ((HB.out.cell (World.block_lt_of_cell? w _ hw303_1)).trans hw303_1), ((HB.out.cell (World.block_lt_of_cell? w _ hw303_2)).trans hw303_2), ((HB.out.cell (World.block_lt_of_cell? w _ hw303_3)).trans hw303_3)⟩ (fun hHeld => ?_); refine with_tabW estoverslaw21_GrantFifo.tab10 estoverslaw21_GrantFifo.bits10 (fun HT_ HW_ => ?_)
                                generalize wc.drew = w88 at HO_10 BK288 HB hx303_0 hx303_1 hx303_2 hx303_3 hHeld ⊢
                                refine pure_ (i := 0) (N := some 77) (v := ?_) (a' := ?_) #[true, false, false, false, false, false, false, false, false, false, false, false, false, false, false, false, false, false, false, false] rfl rfl (any_of HT_.out (by kernel_rfl)) (fun _ _ _ h => h) (Or.inl ⟨by rfl, ?_⟩) ?_ ?_
                                rotate_left
                                · intro w'
                                  go_simp
                                  with_reducible rfl
                                rotate_left
                                · simp only [Act.put, List.setIfInBounds_toArray, List.set_cons_zero, List.set_cons_succ, i64_w, i32_w]
                                  rfl
                                refine pure_ (i := 1) (N := some 78) (v := ?_) (a' := ?_) #[true, true, false, false, false, false, false, false, false, false, false, false, false, false, false, false, false, false, false, false] rfl rfl (any_of HT_.out (by kernel_rfl)) (fun _ _ _ h => h) (Or.inl ⟨by rfl, ?_⟩) ?_ ?_
                                rotate_left
                                · intro w'
                                  go_simp
                                  with_reducible rfl
                                rotate_left
                                · simp only [Act.put, List.setIfInBounds_toArray, List.set_cons_zero, List.set_cons_succ, i64_w, i32_w]
                                  rfl
                                refine pure_ (i := 2) (N := some 79) (v := ?_) (a' := ?_) #[true, true, true, false, false, false, false, false, false, false, false, false, false, false, false, false, false, false, false, false] rfl rfl (any_of HT_.out (by kernel_rfl)) (fun _ _ _ h => h) (Or.inl ⟨by rfl, ?_⟩) ?_ ?_
                                rotate_left
                                · intro w'
                                  go_simp
                                  with_reducible rfl
                                rotate_left
                                · simp only [Act.put, List.setIfInBounds_toArray, List.set_cons_zero, List.set_cons_succ, i64_w, i32_w]
                                  rfl
                                refine pure_ (i := 4) (N := some 81) (v := ?_) (a' := ?_) #[true, true, true, false, true, false, false, false, false, false, false, false, false, false, false, false, false, false, false, false] rfl rfl (any_of HT_.out (by kernel_rfl)) (fun _ _ _ h => h) (Or.inl ⟨by rfl, ?_⟩) ?_ ?_
                                rotate_left
                                · intro w'
                                  go_simp
                                  with_reducible rfl
                                rotate_left
                                · simp only [Act.put, List.setIfInBounds_toArray, List.set_cons_zero, List.set_cons_succ, i64_w, i32_w]
                                  rfl
                                refine pure_ (i := 5) (N := some 82) (v := ?_) (a' := ?_) #[true, true, true, false, true, true, false, false, false, false, false, false, false, false, false, false, false, false, false, false] rfl rfl (any_of HT_.out (by kernel_rfl)) (fun _ _ _ h => h) (Or.inl ⟨by rfl, ?_⟩) ?_ ?_
                                rotate_left
                                · intro w'
                                  go_simp
                                  with_reducible rfl
                                rotate_left
                                · simp only [Act.put, List.setIfInBounds_toArray, List.set_cons_zero, List.set_cons_succ, i64_w, i32_w]
                                  rfl
                                refine pure_ (i := 7) (N := some 84) (v := ?_) (a' := ?_) #[true, true, true, false, true, true, false, true, false, false, false, false, false, false, false, false, false, false, false, false] rfl rfl (any_of HT_.out (by kernel_rfl)) (fun _ _ _ h => h) (Or.inl ⟨by rfl, ?_⟩) ?_ ?_
                                rotate_left
                                · intro w'
                                  go_simp
                                  with_reducible rfl
                                rotate_left
                                · simp only [Act.put, List.setIfInBounds_toArray, List.set_cons_zero, List.set_cons_succ, i64_w, i32_w]
                                  rfl
                                refine pure_ (i := 9) (N := some 86) (v := ?_) (a' := ?_) #[true, true, true, false, true, true, false, true, false, true, false, false, false, false, false, false, false, false, false, false] rfl rfl (any_of HT_.out (by kernel_rfl)) (fun _ _ _ h => h) (Or.inl ⟨by rfl, ?_⟩) ?_ ?_
                                rotate_left
                                · intro w'
                                  go_simp
                                  with_reducible rfl
                                rotate_left
                                · simp only [Act.put, List.setIfInBounds_toArray, List.set_cons_zero, List.set_cons_succ, i64_w, i32_w]
                                  rfl
                                refine pure_ (i := 11) (N := some 88) (v := ?_) (a' := ?_) #[true, true, true, false, true, true, false, true, false, true, false, true, false, false, false, false, false, false, false, false] rfl rfl (any_of HT_.out (by kernel_rfl)) (fun _ _ _ h => h) (Or.inl ⟨by rfl, ?_⟩) ?_ ?_
                                rotate_left
                                · intro w'
                                  go_simp
                                  with_reducible rfl
                                rotate_left
                                · simp only [Act.put, List.setIfInBounds_toArray, List.set_cons_zero, List.set_cons_succ, i64_w, i32_w]
                                  rfl
                                refine take_ (i := 3) (N := some 80) (v := ?_) (a' := ?_) #[true, true, true, true, true, true, false, true, false, true, false, true, false, false, false, false, false, false, false, false] rfl rfl (take_ofW HT_.out HW_.out (by kernel_rfl)) (fun _ _ _ h => h) (Or.inl ⟨by rfl, ?_⟩) hHeld ?_ ?_
                                rotate_left
                                · rintro w' ⟨s0, s1, s2, s3, s4, s5⟩
                                  go_simp
                                  with_reducible rfl
                                rotate_left
                                · simp only [Act.put, List.setIfInBounds_toArray, List.set_cons_zero, List.set_cons_succ, i64_w, i32_w]
                                  rfl
                                refine take_ (i := 6) (N := some 83) (v := ?_) (a' := ?_) #[true, true, true, true, true, true, true, true, false, true, false, true, false, false, false, false, false, false, false, false] rfl rfl (take_ofW HT_.out HW_.out (by kernel_rfl)) (fun _ _ _ h => h) (Or.inl ⟨by rfl, ?_⟩) hHeld ?_ ?_
                                rotate_left
                                · rintro w' ⟨s0, s1, s2, s3, s4, s5⟩
                                  go_simp
                                  with_reducible rfl
                                rotate_left
                                · simp only [Act.put, List.setIfInBounds_toArray, List.set_cons_zero, List.set_cons_succ, i64_w, i32_w]
                                  rfl
                                refine pure_ (i := 8) (N := some 85) (v := ?_) (a' := ?_) #[true, true, true, true, true, true, true, true, true, true, false, true, false, false, false, false, false, false, false, false] rfl rfl (any_of HT_.out (by kernel_rfl)) (fun _ _ _ h => h) (Or.inl ⟨by rfl, ?_⟩) ?_ ?_
                                rotate_left
                                · intro w'
                                  go_simp
                                  with_reducible rfl
                                rotate_left
                                · simp only [Act.put, List.setIfInBounds_toArray, List.set_cons_zero, List.set_cons_succ, i64_w, i32_w]
                                  rfl
                                refine take_ (i := 10) (N := some 87) (v := ?_) (a' := ?_) #[true, true, true, true, true, true, true, true, true, true, true, true, false, false, false, false, false, false, false, false] rfl rfl (take_ofW HT_.out HW_.out (by kernel_rfl)) (fun _ _ _ h => h) (Or.inl ⟨by rfl, ?_⟩) hHeld ?_ ?_
                                rotate_left
                                · rintro w' ⟨s0, s1, s2, s3, s4, s5⟩
                                  go_simp
                                  with_reducible rfl
                                rotate_left
                                · simp only [Act.put, List.setIfInBounds_toArray, List.set_cons_zero, List.set_cons_succ, i64_w, i32_w]
                                  rfl
                                refine pure_ (i := 12) (N := some 89) (v := ?_) (a' := ?_) #[true, true, true, true, true, true, true, true, true, true, true, true, true, false, false, false, false, false, false, false] rfl rfl (any_of HT_.out (by kernel_rfl)) (fun _ _ _ h => h) (Or.inl ⟨by rfl, ?_⟩) ?_ ?_
                                rotate_left
                                · intro w'
                                  go_simp
                                  with_reducible rfl
                                rotate_left
                                · simp only [Act.put, List.setIfInBounds_toArray, List.set_cons_zero, List.set_cons_succ, i64_w, i32_w]
                                  rfl
                                refine join_ (σ := Nat) 2 #[true, true, true, true, true, true, true, true, true, true, true, true, true, true, true, true, true, true, false, false] (fun s_ => [(90, .tuple #[.agg #[.int .i64 t304, .int .i64 t305, .bool t306], .int .i64 t307]), (12, .pointer (some ⟨s_, 0, none⟩)), (76, .tuple #[.agg #[.int .i64 t304, .int .i64 t305, .bool t306], .int .i64 t307]), (91, .agg #[.int .i64 t304, .int .i64 t305, .bool t306]), (92, .int .i64 t307)]) (fun s_ w' => (w'.cell? ⟨gb288, 0, none⟩ = some (.int .i64 a2_0) ∧ w'.cell? ⟨gb288, 1, none⟩ = some (.int .i64 a2_1) ∧ w'.cell? (ad303.add ((t293).toNat * 4)) = some (.int .i64 ((rd_T37 l0 t293).f0)) ∧ w'.cell? ⟨(ad303.add ((t293).toNat * 4)).block, (ad303.add ((t293).toNat * 4)).off + 1, none⟩ = some (.int .i64 ((rd_T37 l0 t293).f1)) ∧ w'.cell? ⟨(ad303.add ((t293).toNat * 4)).block, (ad303.add ((t293).toNat * 4)).off + 2, none⟩ = some (.int .i64 ((rd_T37 l0 t293).f2)) ∧ w'.cell? ⟨(ad303.add ((t293).toNat * 4)).block, (ad303.add ((t293).toNat * 4)).off + 3, none⟩ = some (.int .i64 ((rd_T37 l0 t293).f3))) ∧ (Kd.R k59 59 w' w.heap.size (fun _ => True) (.slice Ao87 t296.length co87) t296) ∧ (w'.heap[gb288]? = some (.cells #[.int .i64 a2_0, .int .i64 a2_1] 41 (0, 0))) ∧ (w'.heap[s_]? = some (.cells #[.int .i64 0, .int .i64 0, .bool false] 43 (0, 0))) ∧ (w.heap.size ≤ s_) ∧ (w.heap.size ≤ s_) ∧ (gb288 ≠ s_) ∧ (s_ ≠ gb288) ∧ (Below w.heap.size w w')) ?_ ?_
                                rotate_left
                                · intro hCont
                                  refine two_ (i := 13) (j := 17) (Ni := some 90) (Nj := some 12) #[true, true, true, true, true, true, true, true, true, true, true, true, true, true, false, false, false, false, false, false] #[true, true, true, true, true, true, true, true, true, true, true, true, true, false, false, false, false, true, false, false] rfl rfl rfl rfl (two_of HT_.out (by kernel_rfl)) (by decide) (by decide) (fun K hK => ?_) (fun K hK => ?_)
                                  · skip
                                    refine goes_ Try.func16 (by kernel_rfl) rfl #[.agg #[.int .i64 ((rd_T37 l0 t293).f0), .int .i64 ((rd_T37 l0 t293).f1), .int .i64 ((rd_T37 l0 t293).f2), .int .i64 ((rd_T37 l0 t293).f3)], .slice Ao87 t296.length co87, .int .i64 (wrap64 (a2_0 - t294)), .int .i64 (wrap64 (a2_1 - t295))] (by rfl) rfl rfl (by (try simp only [List.map_toArray, List.map_cons, List.map_nil]); first | done | rfl | (simp only [List.length_drop, List.length_take]; rfl)) ?_
                                    with_reducible refine (grant_Short.calls kj33 ((rd_T37 l0 t293).f0) ((rd_T37 l0 t293).f1) ((rd_T37 l0 t293).f2) ((rd_T37 l0 t293).f3) _ _ t296 (wrap64 (a2_0 - t294)) (wrap64 (a2_1 - t295)) t304 t305 t306 t307 _ ?side1 ?side2 A43.out).mono ?_
                                    (case side1 => repeat (first | exact (Kd.R_reads' HO_10.out).2.2 | (with_reducible refine Kd.C_alloc ?_ _) | (with_reducible refine Kd.C_drewN ?_ _) | (with_reducible refine Kd.C_drew ?_)))
                                    (case side2 => exact (Kd.R_reads' HO_10.out).2.1)
                                    rintro e w89 ⟨rfl, hb⟩
                                    refine ⟨_, rfl, ?_⟩
                                    have n0_ := Aside0.mk (Kd.R_below (by (with_reducible repeat (first | apply Kd.R_alloc | apply Kd.R_drewN | apply Kd.R_drew)); exact HO_10.out) hb)
                                    have n1_ := Aside0.mk (blk_below (g := gb288) (o := .cells #[.int .i64 a2_0, .int .i64 a2_1] 41 (0, 0)) (by (with_reducible repeat (first | refine blk_drewN ?_ _ | refine blk_drew ?_ | refine blk_alloc ?_ _)); exact BK288.out) hb)
                                    have n2_ := Aside0.mk (below_step (by repeat (first | (with_reducible first | exact HB.out | apply below_alloc | apply pw_below_drewN | apply below_drew1 | refine below_set ?_ GE288.out) | exact HB.out)) hb)
                                    clear HO_10
                                    clear BK288
                                    clear HB
                                    have HO_10 := n0_
                                    have BK288 := n1_
                                    have HB := n2_
                                    clear n0_ n1_ n2_
                                    (try clear hb)
                                    (try clear hb2)
                                    (try clear hk)
                                    (try clear hi)
                                    refine hK.out _ _ ⟨(blk_cell BK288.out 0).trans rfl, (blk_cell BK288.out 1).trans rfl, ((HB.out.cell (World.block_lt_of_cell? w _ hw303_0)).trans hw303_0), ((HB.out.cell (World.block_lt_of_cell? w _ hw303_1)).trans hw303_1), ((HB.out.cell (World.block_lt_of_cell? w _ hw303_2)).trans hw303_2), ((HB.out.cell (World.block_lt_of_cell? w _ hw303_3)).trans hw303_3)⟩ (fun hHeld => ?_)
                                    clear hK K
                                    refine norm_ (a' := ?_) ?_ ?_
                                    rotate_left
                                    · show Act.put _ (some 90) _ = _
                                      simp only [Act.put, List.setIfInBounds_toArray, List.set_cons_zero, List.set_cons_succ, i64_w, i32_w]
                                      rfl
                                    refine pure_ (i := 14) (N := some 76) (v := ?_) (a' := ?_) #[true, true, true, true, true, true, true, true, true, true, true, true, true, true, true, false, false, false, false, false] rfl rfl (any_of HT_.out (by kernel_rfl)) (fun _ _ _ h => h) (Or.inl ⟨by rfl, ?_⟩) ?_ ?_
                                    rotate_left
                                    · intro w'
                                      go_simp
                                      with_reducible rfl
                                    rotate_left
                                    · simp only [Act.put, List.setIfInBounds_toArray, List.set_cons_zero, List.set_cons_succ, i64_w, i32_w]
                                      rfl
                                    refine pure_ (i := 15) (N := some 91) (v := ?_) (a' := ?_) #[true, true, true, true, true, true, true, true, true, true, true, true, true, true, true, true, false, false, false, false] rfl rfl (any_of HT_.out (by kernel_rfl)) (fun _ _ _ h => h) (Or.inl ⟨by rfl, ?_⟩) ?_ ?_
                                    rotate_left
                                    · intro w'
                                      go_simp
                                      with_reducible rfl
                                    rotate_left
                                    · simp only [Act.put, List.setIfInBounds_toArray, List.set_cons_zero, List.set_cons_succ, i64_w, i32_w]
                                      rfl
                                    refine pure_ (i := 16) (N := some 92) (v := ?_) (a' := ?_) #[true, true, true, true, true, true, true, true, true, true, true, true, true, true, true, true, true, false, false, false] rfl rfl (any_of HT_.out (by kernel_rfl)) (fun _ _ _ h => h) (Or.inl ⟨by rfl, ?_⟩) ?_ ?_
                                    rotate_left
                                    · intro w'
                                      go_simp
                                      with_reducible rfl
                                    rotate_left
                                    · simp only [Act.put, List.setIfInBounds_toArray, List.set_cons_zero, List.set_cons_succ, i64_w, i32_w]
                                      rfl
                                    refine one_ (i := 17) (N := some 12) #[true, true, true, true, true, true, true, true, true, true, true, true, true, true, true, true, true, true, false, false] rfl rfl (one_of HT_.out (by kernel_rfl)) (by decide) (fun K hK => ?_)
                                    refine box_step ?hg (N := 12) ?hd (cs := #[.int .i64 0, .int .i64 0, .bool false]) (t := 43) ?hr ?_; (case hd => rfl); (case hg => rfl); (case hr => first | (go_simp; done) | (go_simp; rfl))
                                    intro gb308 hg w90 hbox hb
                                    have n0_ := Aside0.mk (Kd.R_below (by (with_reducible repeat (first | apply Kd.R_alloc | apply Kd.R_drewN | apply Kd.R_drew)); exact HO_10.out) hb)
                                    have n1_ := Aside0.mk (blk_below (g := gb288) (o := .cells #[.int .i64 a2_0, .int .i64 a2_1] 41 (0, 0)) (by (with_reducible repeat (first | refine blk_drewN ?_ _ | refine blk_drew ?_ | refine blk_alloc ?_ _)); exact BK288.out) hb)
                                    have n2_ := Aside0.mk (below_step (by repeat (first | (with_reducible first | exact HB.out | apply below_alloc | apply pw_below_drewN | apply below_drew1 | refine below_set ?_ GE288.out) | exact HB.out)) hb)
                                    have n3_ := Aside0.mk (hbox)
                                    have n4_ := Aside0.mk ((by rw [hg]; exact (below_size (by repeat (first | (with_reducible first | exact HB.out | apply below_alloc | apply pw_below_drewN | apply below_drew1 | refine below_set ?_ GE288.out) | exact HB.out))) : w.heap.size ≤ gb308))
                                    have n5_ := Aside0.mk ((by rw [hg]; exact (below_size (by repeat (first | (with_reducible first | exact HB.out | apply below_alloc | apply pw_below_drewN | apply below_drew1 | refine below_set ?_ GE288.out) | exact HB.out))) : w.heap.size ≤ gb308))
                                    have n6_ := Aside0.mk ((by rw [hg]; exact Nat.ne_of_lt (blk_lt (g := gb288) (o := .cells #[.int .i64 a2_0, .int .i64 a2_1] 41 (0, 0)) (by (with_reducible repeat (first | refine blk_drewN ?_ _ | refine blk_drew ?_ | refine blk_alloc ?_ _)); exact BK288.out)) : gb288 ≠ gb308))
                                    have n7_ := Aside0.mk ((by rw [hg]; exact Nat.ne_of_gt (blk_lt (g := gb288) (o := .cells #[.int .i64 a2_0, .int .i64 a2_1] 41 (0, 0)) (by (with_reducible repeat (first | refine blk_drewN ?_ _ | refine blk_drew ?_ | refine blk_alloc ?_ _)); exact BK288.out)) : gb308 ≠ gb288))
                                    clear HO_10
                                    clear BK288
                                    clear HB
                                    have HO_10 := n0_
                                    have BK288 := n1_
                                    have HB := n2_
                                    have BK308 := n3_
                                    have GW308 := n4_
                                    have GE308 := n5_
                                    have NB288_308 := n6_
                                    have NB308_288 := n7_
                                    clear n0_ n1_ n2_ n3_ n4_ n5_ n6_ n7_
                                    clear hb hbox hg
                                    refine hK.out _ _ ⟨(blk_cell BK288.out 0).trans rfl, (blk_cell BK288.out 1).trans rfl, ((HB.out.cell (World.block_lt_of_cell? w _ hw303_0)).trans hw303_0), ((HB.out.cell (World.block_lt_of_cell? w _ hw303_1)).trans hw303_1), ((HB.out.cell (World.block_lt_of_cell? w _ hw303_2)).trans hw303_2), ((HB.out.cell (World.block_lt_of_cell? w _ hw303_3)).trans hw303_3)⟩ (fun hHeld => ?_)
                                    clear hK K
                                    refine norm_ (a' := ?_) ?_ ?_
                                    rotate_left
                                    · show Act.put _ (some 12) _ = _
                                      simp only [Act.put, List.setIfInBounds_toArray, List.set_cons_zero, List.set_cons_succ, i64_w, i32_w]
                                      rfl
                                    exact norm_ (by simp only [putAll, Act.put, List.setIfInBounds_toArray, List.set_cons_zero, List.set_cons_succ]) (hCont (gb308) _ ⟨hHeld, (by (with_reducible repeat (first | apply Kd.R_alloc | apply Kd.R_drewN | apply Kd.R_drew)); exact HO_10.out), (by (with_reducible repeat (first | refine blk_drewN ?_ _ | refine blk_drew ?_ | refine blk_alloc ?_ _)); exact BK288.out), (by (with_reducible repeat (first | refine blk_drewN ?_ _ | refine blk_drew ?_ | refine blk_alloc ?_ _)); exact BK308.out), GW308.out, GE308.out, NB288_308.out, NB308_288.out, (by repeat (first | (with_reducible first | exact HB.out | apply below_alloc | apply pw_below_drewN | apply below_drew1 | refine below_set ?_ GE288.out | refine below_set ?_ GE308.out) | exact HB.out))⟩)
                                  · skip
                                    refine box_step ?hg (N := 12) ?hd (cs := #[.int .i64 0, .int .i64 0, .bool false]) (t := 43) ?hr ?_; (case hd => rfl); (case hg => rfl); (case hr => first | (go_simp; done) | (go_simp; rfl))
                                    intro gb308 hg w89 hbox hb
                                    have n0_ := Aside0.mk (Kd.R_below (by (with_reducible repeat (first | apply Kd.R_alloc | apply Kd.R_drewN | apply Kd.R_drew)); exact HO_10.out) hb)
                                    have n1_ := Aside0.mk (blk_below (g := gb288) (o := .cells #[.int .i64 a2_0, .int .i64 a2_1] 41 (0, 0)) (by (with_reducible repeat (first | refine blk_drewN ?_ _ | refine blk_drew ?_ | refine blk_alloc ?_ _)); exact BK288.out) hb)
                                    have n2_ := Aside0.mk (below_step (by repeat (first | (with_reducible first | exact HB.out | apply below_alloc | apply pw_below_drewN | apply below_drew1 | refine below_set ?_ GE288.out) | exact HB.out)) hb)
                                    have n3_ := Aside0.mk (hbox)
                                    have n4_ := Aside0.mk ((by rw [hg]; exact (below_size (by repeat (first | (with_reducible first | exact HB.out | apply below_alloc | apply pw_below_drewN | apply below_drew1 | refine below_set ?_ GE288.out) | exact HB.out))) : w.heap.size ≤ gb308))
                                    have n5_ := Aside0.mk ((by rw [hg]; exact (below_size (by repeat (first | (with_reducible first | exact HB.out | apply below_alloc | apply pw_below_drewN | apply below_drew1 | refine below_set ?_ GE288.out) | exact HB.out))) : w.heap.size ≤ gb308))
                                    have n6_ := Aside0.mk ((by rw [hg]; exact Nat.ne_of_lt (blk_lt (g := gb288) (o := .cells #[.int .i64 a2_0, .int .i64 a2_1] 41 (0, 0)) (by (with_reducible repeat (first | refine blk_drewN ?_ _ | refine blk_drew ?_ | refine blk_alloc ?_ _)); exact BK288.out)) : gb288 ≠ gb308))
                                    have n7_ := Aside0.mk ((by rw [hg]; exact Nat.ne_of_gt (blk_lt (g := gb288) (o := .cells #[.int .i64 a2_0, .int .i64 a2_1] 41 (0, 0)) (by (with_reducible repeat (first | refine blk_drewN ?_ _ | refine blk_drew ?_ | refine blk_alloc ?_ _)); exact BK288.out)) : gb308 ≠ gb288))
                                    clear HO_10
                                    clear BK288
                                    clear HB
                                    have HO_10 := n0_
                                    have BK288 := n1_
                                    have HB := n2_
                                    have BK308 := n3_
                                    have GW308 := n4_
                                    have GE308 := n5_
                                    have NB288_308 := n6_
                                    have NB308_288 := n7_
                                    clear n0_ n1_ n2_ n3_ n4_ n5_ n6_ n7_
                                    clear hb hbox hg
                                    refine hK.out _ _ ⟨(blk_cell BK288.out 0).trans rfl, (blk_cell BK288.out 1).trans rfl, ((HB.out.cell (World.block_lt_of_cell? w _ hw303_0)).trans hw303_0), ((HB.out.cell (World.block_lt_of_cell? w _ hw303_1)).trans hw303_1), ((HB.out.cell (World.block_lt_of_cell? w _ hw303_2)).trans hw303_2), ((HB.out.cell (World.block_lt_of_cell? w _ hw303_3)).trans hw303_3)⟩ (fun hHeld => ?_)
                                    clear hK K
                                    refine norm_ (a' := ?_) ?_ ?_
                                    rotate_left
                                    · show Act.put _ (some 12) _ = _
                                      simp only [Act.put, List.setIfInBounds_toArray, List.set_cons_zero, List.set_cons_succ, i64_w, i32_w]
                                      rfl
                                    refine one_ (i := 13) (N := some 90) #[true, true, true, true, true, true, true, true, true, true, true, true, true, true, false, false, false, true, false, false] rfl rfl (one_of HT_.out (by kernel_rfl)) (by decide) (fun K hK => ?_)
                                    refine goes_ Try.func16 (by kernel_rfl) rfl #[.agg #[.int .i64 ((rd_T37 l0 t293).f0), .int .i64 ((rd_T37 l0 t293).f1), .int .i64 ((rd_T37 l0 t293).f2), .int .i64 ((rd_T37 l0 t293).f3)], .slice Ao87 t296.length co87, .int .i64 (wrap64 (a2_0 - t294)), .int .i64 (wrap64 (a2_1 - t295))] (by rfl) rfl rfl (by (try simp only [List.map_toArray, List.map_cons, List.map_nil]); first | done | rfl | (simp only [List.length_drop, List.length_take]; rfl)) ?_
                                    with_reducible refine (grant_Short.calls kj33 ((rd_T37 l0 t293).f0) ((rd_T37 l0 t293).f1) ((rd_T37 l0 t293).f2) ((rd_T37 l0 t293).f3) _ _ t296 (wrap64 (a2_0 - t294)) (wrap64 (a2_1 - t295)) t304 t305 t306 t307 _ ?side1 ?side2 A43.out).mono ?_
                                    (case side1 => repeat (first | exact (Kd.R_reads' HO_10.out).2.2 | (with_reducible refine Kd.C_alloc ?_ _) | (with_reducible refine Kd.C_drewN ?_ _) | (with_reducible refine Kd.C_drew ?_)))
                                    (case side2 => exact (Kd.R_reads' HO_10.out).2.1)
                                    rintro e w90 ⟨rfl, hb⟩
                                    refine ⟨_, rfl, ?_⟩
                                    have n0_ := Aside0.mk (Kd.R_below (by (with_reducible repeat (first | apply Kd.R_alloc | apply Kd.R_drewN | apply Kd.R_drew)); exact HO_10.out) hb)
                                    have n1_ := Aside0.mk (blk_below (g := gb288) (o := .cells #[.int .i64 a2_0, .int .i64 a2_1] 41 (0, 0)) (by (with_reducible repeat (first | refine blk_drewN ?_ _ | refine blk_drew ?_ | refine blk_alloc ?_ _)); exact BK288.out) hb)
                                    have n2_ := Aside0.mk (blk_below (g := gb308) (o := .cells #[.int .i64 0, .int .i64 0, .bool false] 43 (0, 0)) (by (with_reducible repeat (first | refine blk_drewN ?_ _ | refine blk_drew ?_ | refine blk_alloc ?_ _)); exact BK308.out) hb)
                                    have n3_ := Aside0.mk (below_step (by repeat (first | (with_reducible first | exact HB.out | apply below_alloc | apply pw_below_drewN | apply below_drew1 | refine below_set ?_ GE288.out | refine below_set ?_ GE308.out) | exact HB.out)) hb)
                                    clear HO_10
                                    clear BK288
                                    clear BK308
                                    clear HB
                                    have HO_10 := n0_
                                    have BK288 := n1_
                                    have BK308 := n2_
                                    have HB := n3_
                                    clear n0_ n1_ n2_ n3_
                                    (try clear hb)
                                    (try clear hb2)
                                    (try clear hk)
                                    (try clear hi)
                                    refine hK.out _ _ ⟨(blk_cell BK288.out 0).trans rfl, (blk_cell BK288.out 1).trans rfl, ((HB.out.cell (World.block_lt_of_cell? w _ hw303_0)).trans hw303_0), ((HB.out.cell (World.block_lt_of_cell? w _ hw303_1)).trans hw303_1), ((HB.out.cell (World.block_lt_of_cell? w _ hw303_2)).trans hw303_2), ((HB.out.cell (World.block_lt_of_cell? w _ hw303_3)).trans hw303_3)⟩ (fun hHeld => ?_)
                                    clear hK K
                                    refine norm_ (a' := ?_) ?_ ?_
                                    rotate_left
                                    · show Act.put _ (some 90) _ = _
                                      simp only [Act.put, List.setIfInBounds_toArray, List.set_cons_zero, List.set_cons_succ, i64_w, i32_w]
                                      rfl
                                    refine pure_ (i := 14) (N := some 76) (v := ?_) (a' := ?_) #[true, true, true, true, true, true, true, true, true, true, true, true, true, true, true, false, false, true, false, false] rfl rfl (any_of HT_.out (by kernel_rfl)) (fun _ _ _ h => h) (Or.inl ⟨by rfl, ?_⟩) ?_ ?_
                                    rotate_left
                                    · intro w'
                                      go_simp
                                      with_reducible rfl
                                    rotate_left
                                    · simp only [Act.put, List.setIfInBounds_toArray, List.set_cons_zero, List.set_cons_succ, i64_w, i32_w]
                                      rfl
                                    refine pure_ (i := 15) (N := some 91) (v := ?_) (a' := ?_) #[true, true, true, true, true, true, true, true, true, true, true, true, true, true, true, true, false, true, false, false] rfl rfl (any_of HT_.out (by kernel_rfl)) (fun _ _ _ h => h) (Or.inl ⟨by rfl, ?_⟩) ?_ ?_
                                    rotate_left
                                    · intro w'
                                      go_simp
                                      with_reducible rfl
                                    rotate_left
                                    · simp only [Act.put, List.setIfInBounds_toArray, List.set_cons_zero, List.set_cons_succ, i64_w, i32_w]
                                      rfl
                                    refine pure_ (i := 16) (N := some 92) (v := ?_) (a' := ?_) #[true, true, true, true, true, true, true, true, true, true, true, true, true, true, true, true, true, true, false, false] rfl rfl (any_of HT_.out (by kernel_rfl)) (fun _ _ _ h => h) (Or.inl ⟨by rfl, ?_⟩) ?_ ?_
                                    rotate_left
                                    · intro w'
                                      go_simp
                                      with_reducible rfl
                                    rotate_left
                                    · simp only [Act.put, List.setIfInBounds_toArray, List.set_cons_zero, List.set_cons_succ, i64_w, i32_w]
                                      rfl
                                    exact norm_ (by simp only [putAll, Act.put, List.setIfInBounds_toArray, List.set_cons_zero, List.set_cons_succ]) (hCont (gb308) _ ⟨hHeld, (by (with_reducible repeat (first | apply Kd.R_alloc | apply Kd.R_drewN | apply Kd.R_drew)); exact HO_10.out), (by (with_reducible repeat (first | refine blk_drewN ?_ _ | refine blk_drew ?_ | refine blk_alloc ?_ _)); exact BK288.out), (by (with_reducible repeat (first | refine blk_drewN ?_ _ | refine blk_drew ?_ | refine blk_alloc ?_ _)); exact BK308.out), GW308.out, GE308.out, NB288_308.out, NB308_288.out, (by repeat (first | (with_reducible first | exact HB.out | apply below_alloc | apply pw_below_drewN | apply below_drew1 | refine below_set ?_ GE288.out | refine below_set ?_ GE308.out) | exact HB.out))⟩)
                                rintro gb308 w91 ⟨hS_, h0_, h1_, h2_, h3_, h4_, h5_, h6_, h7_⟩
                                have n0_ : Aside0 (Kd.R k59 59 w91 w.heap.size (fun _ => True) (.slice Ao87 t296.length co87) t296) := ⟨h0_⟩
                                have n1_ : Aside0 (w91.heap[gb288]? = some (.cells #[.int .i64 a2_0, .int .i64 a2_1] 41 (0, 0))) := ⟨h1_⟩
                                have n2_ : Aside0 (w91.heap[gb308]? = some (.cells #[.int .i64 0, .int .i64 0, .bool false] 43 (0, 0))) := ⟨h2_⟩
                                have n3_ : Aside0 (w.heap.size ≤ gb308) := ⟨h3_⟩
                                have n4_ : Aside0 (w.heap.size ≤ gb308) := ⟨h4_⟩
                                have n5_ : Aside0 (gb288 ≠ gb308) := ⟨h5_⟩
                                have n6_ : Aside0 (gb308 ≠ gb288) := ⟨h6_⟩
                                have n7_ : Aside0 (Below w.heap.size w w91) := ⟨h7_⟩
                                clear HO_10
                                clear BK288
                                clear HB
                                clear h0_ h1_ h2_ h3_ h4_ h5_ h6_ h7_
                                have HO_10 := n0_
                                have BK288 := n1_
                                have BK308 := n2_
                                have GW308 := n3_
                                have GE308 := n4_
                                have NB288_308 := n5_
                                have NB308_288 := n6_
                                have HB := n7_
                                clear n0_ n1_ n2_ n3_ n4_ n5_ n6_ n7_
                                have hHeld : w91.cell? ⟨gb288, 0, none⟩ = some (.int .i64 a2_0) ∧ w91.cell? ⟨gb288, 1, none⟩ = some (.int .i64 a2_1) ∧ w91.cell? (ad303.add ((t293).toNat * 4)) = some (.int .i64 ((rd_T37 l0 t293).f0)) ∧ w91.cell? ⟨(ad303.add ((t293).toNat * 4)).block, (ad303.add ((t293).toNat * 4)).off + 1, none⟩ = some (.int .i64 ((rd_T37 l0 t293).f1)) ∧ w91.cell? ⟨(ad303.add ((t293).toNat * 4)).block, (ad303.add ((t293).toNat * 4)).off + 2, none⟩ = some (.int .i64 ((rd_T37 l0 t293).f2)) ∧ w91.cell? ⟨(ad303.add ((t293).toNat * 4)).block, (ad303.add ((t293).toNat * 4)).off + 3, none⟩ = some (.int .i64 ((rd_T37 l0 t293).f3)) := hS_
                                refine norm_ (a' := ?_) ?_ ?_
                                rotate_left
                                · simp only [putAll, Act.put, List.setIfInBounds_toArray, List.set_cons_zero, List.set_cons_succ]
                                  rfl
                                refine one_ (i := 18) (N := none) #[true, true, true, true, true, true, true, true, true, true, true, true, true, true, true, true, true, true, true, false] rfl rfl (one_of HT_.out (by kernel_rfl)) (by decide) (fun K hK => ?_)
                                have hs92 : w91.cell? ⟨gb308, 0, none⟩ = some (.int .i64 0) := (blk_cell BK308.out 0).trans rfl
                                have hfs92 := blk_frozen BK308.out 0
                                have hns92_0 := NB288_308.out
                                have hms92_0 := NB308_288.out
                                have hs93 : w91.cell? ⟨gb308, 1, none⟩ = some (.int .i64 0) := (blk_cell BK308.out 1).trans rfl
                                have hfs93 := blk_frozen BK308.out 1
                                have hns93_0 := NB288_308.out
                                have hms93_0 := NB308_288.out
                                have hs94 : w91.cell? ⟨gb308, 2, none⟩ = some (.bool false) := (blk_cell BK308.out 2).trans rfl
                                have hfs94 := blk_frozen BK308.out 2
                                have hns94_0 := NB288_308.out
                                have hms94_0 := NB308_288.out
                                refine skip_ (w1 := ?_) (by rfl) rfl ?_ ?_
                                rotate_left
                                · go_simp
                                  rfl
                                refine hK.out _ _ ⟨((cell_far (p := ⟨gb308, _, none⟩) NB288_308.out _).trans (((cell_far (p := ⟨gb308, _, none⟩) NB288_308.out _).trans (((cell_far (p := ⟨gb308, _, none⟩) NB288_308.out _).trans (hHeld.1)))))), ((cell_far (p := ⟨gb308, _, none⟩) NB288_308.out _).trans (((cell_far (p := ⟨gb308, _, none⟩) NB288_308.out _).trans (((cell_far (p := ⟨gb308, _, none⟩) NB288_308.out _).trans (hHeld.2.1)))))), ((cell_far (p := ⟨gb308, _, none⟩) (by first | exact Nat.ne_of_lt (Nat.lt_of_lt_of_le (by have := World.block_lt_of_cell? _ _ hw303_0; first | rwa [add_block] at this | exact this) GW308.out) | (rw [add_block]; exact Nat.ne_of_lt (Nat.lt_of_lt_of_le (by have := World.block_lt_of_cell? _ _ hw303_0; first | rwa [add_block] at this | exact this) GW308.out)) | (show (Addr.add _ _).block ≠ _; rw [add_block]; exact Nat.ne_of_lt (Nat.lt_of_lt_of_le (by have := World.block_lt_of_cell? _ _ hw303_0; first | rwa [add_block] at this | exact this) GW308.out)) | (dsimp only; exact Nat.ne_of_lt (Nat.lt_of_lt_of_le (by have := World.block_lt_of_cell? _ _ hw303_0; first | rwa [add_block] at this | exact this) GW308.out))) _).trans (((cell_far (p := ⟨gb308, _, none⟩) (by first | exact Nat.ne_of_lt (Nat.lt_of_lt_of_le (by have := World.block_lt_of_cell? _ _ hw303_0; first | rwa [add_block] at this | exact this) GW308.out) | (rw [add_block]; exact Nat.ne_of_lt (Nat.lt_of_lt_of_le (by have := World.block_lt_of_cell? _ _ hw303_0; first | rwa [add_block] at this | exact this) GW308.out)) | (show (Addr.add _ _).block ≠ _; rw [add_block]; exact Nat.ne_of_lt (Nat.lt_of_lt_of_le (by have := World.block_lt_of_cell? _ _ hw303_0; first | rwa [add_block] at this | exact this) GW308.out)) | (dsimp only; exact Nat.ne_of_lt (Nat.lt_of_lt_of_le (by have := World.block_lt_of_cell? _ _ hw303_0; first | rwa [add_block] at this | exact this) GW308.out))) _).trans (((cell_far (p := ⟨gb308, _, none⟩) (by first | exact Nat.ne_of_lt (Nat.lt_of_lt_of_le (by have := World.block_lt_of_cell? _ _ hw303_0; first | rwa [add_block] at this | exact this) GW308.out) | (rw [add_block]; exact Nat.ne_of_lt (Nat.lt_of_lt_of_le (by have := World.block_lt_of_cell? _ _ hw303_0; first | rwa [add_block] at this | exact this) GW308.out)) | (show (Addr.add _ _).block ≠ _; rw [add_block]; exact Nat.ne_of_lt (Nat.lt_of_lt_of_le (by have := World.block_lt_of_cell? _ _ hw303_0; first | rwa [add_block] at this | exact this) GW308.out)) | (dsimp only; exact Nat.ne_of_lt (Nat.lt_of_lt_of_le (by have := World.block_lt_of_cell? _ _ hw303_0; first | rwa [add_block] at this | exact this) GW308.out))) _).trans (hHeld.2.2.1)))))), ((cell_far (p := ⟨gb308, _, none⟩) (by first | exact Nat.ne_of_lt (Nat.lt_of_lt_of_le (by have := World.block_lt_of_cell? _ _ hw303_1; first | rwa [add_block] at this | exact this) GW308.out) | (rw [add_block]; exact Nat.ne_of_lt (Nat.lt_of_lt_of_le (by have := World.block_lt_of_cell? _ _ hw303_1; first | rwa [add_block] at this | exact this) GW308.out)) | (show (Addr.add _ _).block ≠ _; rw [add_block]; exact Nat.ne_of_lt (Nat.lt_of_lt_of_le (by have := World.block_lt_of_cell? _ _ hw303_1; first | rwa [add_block] at this | exact this) GW308.out)) | (dsimp only; exact Nat.ne_of_lt (Nat.lt_of_lt_of_le (by have := World.block_lt_of_cell? _ _ hw303_1; first | rwa [add_block] at this | exact this) GW308.out))) _).trans (((cell_far (p := ⟨gb308, _, none⟩) (by first | exact Nat.ne_of_lt (Nat.lt_of_lt_of_le (by have := World.block_lt_of_cell? _ _ hw303_1; first | rwa [add_block] at this | exact this) GW308.out) | (rw [add_block]; exact Nat.ne_of_lt (Nat.lt_of_lt_of_le (by have := World.block_lt_of_cell? _ _ hw303_1; first | rwa [add_block] at this | exact this) GW308.out)) | (show (Addr.add _ _).block ≠ _; rw [add_block]; exact Nat.ne_of_lt (Nat.lt_of_lt_of_le (by have := World.block_lt_of_cell? _ _ hw303_1; first | rwa [add_block] at this | exact this) GW308.out)) | (dsimp only; exact Nat.ne_of_lt (Nat.lt_of_lt_of_le (by have := World.block_lt_of_cell? _ _ hw303_1; first | rwa [add_block] at this | exact this) GW308.out))) _).trans (((cell_far (p := ⟨gb308, _, none⟩) (by first | exact Nat.ne_of_lt (Nat.lt_of_lt_of_le (by have := World.block_lt_of_cell? _ _ hw303_1; first | rwa [add_block] at this | exact this) GW308.out) | (rw [add_block]; exact Nat.ne_of_lt (Nat.lt_of_lt_of_le (by have := World.block_lt_of_cell? _ _ hw303_1; first | rwa [add_block] at this | exact this) GW308.out)) | (show (Addr.add _ _).block ≠ _; rw [add_block]; exact Nat.ne_of_lt (Nat.lt_of_lt_of_le (by have := World.block_lt_of_cell? _ _ hw303_1; first | rwa [add_block] at this | exact this) GW308.out)) | (dsimp only; exact Nat.ne_of_lt (Nat.lt_of_lt_of_le (by have := World.block_lt_of_cell? _ _ hw303_1; first | rwa [add_block] at this | exact this) GW308.out))) _).trans (hHeld.2.2.2.1)))))), ((cell_far (p := ⟨gb308, _, none⟩) (by first | exact Nat.ne_of_lt (Nat.lt_of_lt_of_le (by have := World.block_lt_of_cell? _ _ hw303_2; first | rwa [add_block] at this | exact this) GW308.out) | (rw [add_block]; exact Nat.ne_of_lt (Nat.lt_of_lt_of_le (by have := World.block_lt_of_cell? _ _ hw303_2; first | rwa [add_block] at this | exact this) GW308.out)) | (show (Addr.add _ _).block ≠ _; rw [add_block]; exact Nat.ne_of_lt (Nat.lt_of_lt_of_le (by have := World.block_lt_of_cell? _ _ hw303_2; first | rwa [add_block] at this | exact this) GW308.out)) | (dsimp only; exact Nat.ne_of_lt (Nat.lt_of_lt_of_le (by have := World.block_lt_of_cell? _ _ hw303_2; first | rwa [add_block] at this | exact this) GW308.out))) _).trans (((cell_far (p := ⟨gb308, _, none⟩) (by first | exact Nat.ne_of_lt (Nat.lt_of_lt_of_le (by have := World.block_lt_of_cell? _ _ hw303_2; first | rwa [add_block] at this | exact this) GW308.out) | (rw [add_block]; exact Nat.ne_of_lt (Nat.lt_of_lt_of_le (by have := World.block_lt_of_cell? _ _ hw303_2; first | rwa [add_block] at this | exact this) GW308.out)) | (show (Addr.add _ _).block ≠ _; rw [add_block]; exact Nat.ne_of_lt (Nat.lt_of_lt_of_le (by have := World.block_lt_of_cell? _ _ hw303_2; first | rwa [add_block] at this | exact this) GW308.out)) | (dsimp only; exact Nat.ne_of_lt (Nat.lt_of_lt_of_le (by have := World.block_lt_of_cell? _ _ hw303_2; first | rwa [add_block] at this | exact this) GW308.out))) _).trans (((cell_far (p := ⟨gb308, _, none⟩) (by first | exact Nat.ne_of_lt (Nat.lt_of_lt_of_le (by have := World.block_lt_of_cell? _ _ hw303_2; first | rwa [add_block] at this | exact this) GW308.out) | (rw [add_block]; exact Nat.ne_of_lt (Nat.lt_of_lt_of_le (by have := World.block_lt_of_cell? _ _ hw303_2; first | rwa [add_block] at this | exact this) GW308.out)) | (show (Addr.add _ _).block ≠ _; rw [add_block]; exact Nat.ne_of_lt (Nat.lt_of_lt_of_le (by have := World.block_lt_of_cell? _ _ hw303_2; first | rwa [add_block] at this | exact this) GW308.out)) | (dsimp only; exact Nat.ne_of_lt (Nat.lt_of_lt_of_le (by have := World.block_lt_of_cell? _ _ hw303_2; first | rwa [add_block] at this | exact this) GW308.out))) _).trans (hHeld.2.2.2.2.1)))))), ((cell_far (p := ⟨gb308, _, none⟩) (by first | exact Nat.ne_of_lt (Nat.lt_of_lt_of_le (by have := World.block_lt_of_cell? _ _ hw303_3; first | rwa [add_block] at this | exact this) GW308.out) | (rw [add_block]; exact Nat.ne_of_lt (Nat.lt_of_lt_of_le (by have := World.block_lt_of_cell? _ _ hw303_3; first | rwa [add_block] at this | exact this) GW308.out)) | (show (Addr.add _ _).block ≠ _; rw [add_block]; exact Nat.ne_of_lt (Nat.lt_of_lt_of_le (by have := World.block_lt_of_cell? _ _ hw303_3; first | rwa [add_block] at this | exact this) GW308.out)) | (dsimp only; exact Nat.ne_of_lt (Nat.lt_of_lt_of_le (by have := World.block_lt_of_cell? _ _ hw303_3; first | rwa [add_block] at this | exact this) GW308.out))) _).trans (((cell_far (p := ⟨gb308, _, none⟩) (by first | exact Nat.ne_of_lt (Nat.lt_of_lt_of_le (by have := World.block_lt_of_cell? _ _ hw303_3; first | rwa [add_block] at this | exact this) GW308.out) | (rw [add_block]; exact Nat.ne_of_lt (Nat.lt_of_lt_of_le (by have := World.block_lt_of_cell? _ _ hw303_3; first | rwa [add_block] at this | exact this) GW308.out)) | (show (Addr.add _ _).block ≠ _; rw [add_block]; exact Nat.ne_of_lt (Nat.lt_of_lt_of_le (by have := World.block_lt_of_cell? _ _ hw303_3; first | rwa [add_block] at this | exact this) GW308.out)) | (dsimp only; exact Nat.ne_of_lt (Nat.lt_of_lt_of_le (by have := World.block_lt_of_cell? _ _ hw303_3; first | rwa [add_block] at this | exact this) GW308.out))) _).trans (((cell_far (p := ⟨gb308, _, none⟩) (by first | exact Nat.ne_of_lt (Nat.lt_of_lt_of_le (by have := World.block_lt_of_cell? _ _ hw303_3; first | rwa [add_block] at this | exact this) GW308.out) | (rw [add_block]; exact Nat.ne_of_lt (Nat.lt_of_lt_of_le (by have := World.block_lt_of_cell? _ _ hw303_3; first | rwa [add_block] at this | exact this) GW308.out)) | (show (Addr.add _ _).block ≠ _; rw [add_block]; exact Nat.ne_of_lt (Nat.lt_of_lt_of_le (by have := World.block_lt_of_cell? _ _ hw303_3; first | rwa [add_block] at this | exact this) GW308.out)) | (dsimp only; exact Nat.ne_of_lt (Nat.lt_of_lt_of_le (by have := World.block_lt_of_cell? _ _ hw303_3; first | rwa [add_block] at this | exact this) GW308.out))) _).trans (hHeld.2.2.2.2.2))))))⟩ (fun hHeld => ?_)
                                clear hK K
                                refine pure_ (i := 19) (N := some 13) (v := ?_) (a' := ?_) #[true, true, true, true, true, true, true, true, true, true, true, true, true, true, true, true, true, true, true, true] rfl rfl (any_of HT_.out (by kernel_rfl)) (fun _ _ _ h => h) (Or.inl ⟨by rfl, ?_⟩) ?_ ?_
                                rotate_left
                                · intro w'
                                  go_simp
                                  with_reducible rfl
                                rotate_left
                                · simp only [Act.put, List.setIfInBounds_toArray, List.set_cons_zero, List.set_cons_succ, i64_w, i32_w]
                                  rfl
                                refine done_ (done_of HT_.out (by kernel_rfl)) ?_
                                have hnb95 := NB288_308.out
                                have hnc95 := NB308_288.out
                                have hcz96_0 : w91.cell? ⟨gb288, 0, none⟩ = some (.int .i64 a2_0) := (blk_cell BK288.out 0).trans rfl
                                have hcz96_1 : w91.cell? ⟨gb288, 1, none⟩ = some (.int .i64 a2_1) := (blk_cell BK288.out 1).trans rfl
                                have hfz96_0 := blk_frozen BK288.out 0
                                have hfz96_1 := blk_frozen BK288.out 1
                                have hcz97_0 : w91.cell? ⟨gb308, 0, none⟩ = some (.int .i64 0) := (blk_cell BK308.out 0).trans rfl
                                have hcz97_1 : w91.cell? ⟨gb308, 1, none⟩ = some (.int .i64 0) := (blk_cell BK308.out 1).trans rfl
                                have hcz97_2 : w91.cell? ⟨gb308, 2, none⟩ = some (.bool false) := (blk_cell BK308.out 2).trans rfl
                                have hfz97_0 := blk_frozen BK308.out 0
                                have hfz97_1 := blk_frozen BK308.out 1
                                have hfz97_2 := blk_frozen BK308.out 2
                                try go_wp2
                                go_ret
                                exact ⟨by first | rfl | (simp [errW_none, errW_some] <;> rfl) | (simp [*, errW_none, errW_some] <;> rfl), by repeat (first | (with_reducible first | exact HB.out | apply below_alloc | apply pw_below_drewN | apply below_drew1 | refine below_set ?_ GE288.out | refine below_set ?_ GE308.out) | exact HB.out)⟩
                              · rw [if_neg c86] at H
                                exact absurd H (by simp)
                        · rw [if_neg c42] at H
                          exact absurd H (by simp)
                      · rw [if_neg c41] at H
                        exact absurd H (by simp)

end Go.Proofs.Ytimlodcdfekbhaa.PGrantFifo
