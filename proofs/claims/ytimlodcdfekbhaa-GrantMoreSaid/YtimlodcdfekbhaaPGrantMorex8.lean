-- Printed by a copy of the kit's printer that this session has patched (wip/tools/patch_print.py): the session's own text. Lean checks it.
import Derived.Test.YtimlodcdfekbhaaPGrantMorex0
import Derived.Test.YtimlodcdfekbhaaPGrantMorex6
import Derived.Test.YtimlodcdfekbhaaPGrantMorex7
namespace Go.Proofs.Ytimlodcdfekbhaa.PGrantMore
open Go.RowKit Go.Proofs.YtimlodcdfekbhaaW.PrintWords Go.Proofs.YtimlodcdfekbhaaW.PrintLast Go.Proofs.YtimlodcdfekbhaaW.PrintMore
attribute [local go_sem] max2_int min2_int max_two min_two max_three min_three max_four min_four   -- for this text's walks alone
set_option linter.unusedVariables false
set_option linter.unusedSimpArgs false

/-! ### estoverslaw21_GrantMore: function 7 -/
mutual
def estoverslaw21_GrantMore.j0 : Nat → List (S37) → List (S59) → Bool → Int → Int → Int → Int → Option (Bool)
  | 0, _, _, _, _, _, _, _ => none
  | k + 1, x0, x1, x30, x276000, x276001, x276002, x276003 => if x30 = true then ((estoverslaw21_awake.f k).bind fun t279 => (some t279)) else ((grant_Serve.f k x0 x1 (wrap64 (x276000)) (wrap64 (x276001))).bind fun bt280 => ((grant_Serve.f k x0 x1 (wrap64 ((wrap64 (x276000)) + (wrap64 (x276002)))) (wrap64 ((wrap64 (x276001)) + (wrap64 (x276003))))).bind fun bt285 => (if bt280.2.2 = 0 then (if bt285.2.2 = 0 then (estoverslaw21_GrantMore.j1 k x0 x1 bt280.1 (decide (bt280.1 > bt285.1)) x276000 x276001 x276002 x276003) else (estoverslaw21_GrantMore.j1 k x0 x1 bt280.1 true x276000 x276001 x276002 x276003)) else (estoverslaw21_GrantMore.j1 k x0 x1 bt280.1 true x276000 x276001 x276002 x276003))))
def estoverslaw21_GrantMore.j1 : Nat → List (S37) → List (S59) → Int → Bool → Int → Int → Int → Int → Option (Bool)
  | 0, _, _, _, _, _, _, _, _ => none
  | k + 1, x0, x1, x7, x76, x276000, x276001, x276002, x276003 => if x76 = true then (none) else (estoverslaw21_GrantMore.l0 k x0 x1 x7 (x0.length : Int) 0 x276000 x276001 x276002 x276003)
def estoverslaw21_GrantMore.l0 : Nat → List (S37) → List (S59) → Int → Int → Int → Int → Int → Int → Int → Option (Bool)
  | 0, _, _, _, _, _, _, _, _, _ => none
  | k + 1, x0, x1, x7, x78, x79, x276000, x276001, x276002, x276003 => if x79 < x78 then (if 0 ≤ x79 then (if x79 ≤ (x0.length : Int) then ((grant_Serve.f k (x0.drop (x79 : Int).toNat) x1 (wrap64 (x276000)) (wrap64 (x276001))).bind fun bt294 => (if bt294.2.2 = 0 then (if x79 < x7 then (if bt294.1 < (wrap64 (x7 - x79)) then (none) else (estoverslaw21_GrantMore.l0 k x0 x1 x7 x78 (wrap64 (x79 + 1)) x276000 x276001 x276002 x276003)) else (estoverslaw21_GrantMore.l0 k x0 x1 x7 x78 (wrap64 (x79 + 1)) x276000 x276001 x276002 x276003)) else (none))) else (none)) else (none)) else (some true)
end
def estoverslaw21_GrantMore.f (k : Nat) (l0 : List (S37)) (l1 : List (S59)) (a2_0 : Int) (a2_1 : Int) (a2_2 : Int) (a2_3 : Int) : Option (Bool) := (estoverslaw21_awake.f k).bind fun t276 => (if t276 = true then ((estoverslaw21_few.f l0 l1).bind fun t277 => (if t277 = true then ((estoverslaw21_valid.f k l0 l1).bind fun t278 => (estoverslaw21_GrantMore.j0 k l0 l1 (!t278) a2_0 a2_1 a2_2 a2_3)) else (estoverslaw21_GrantMore.j0 k l0 l1 true a2_0 a2_1 a2_2 a2_3))) else (estoverslaw21_GrantMore.j0 k l0 l1 true a2_0 a2_1 a2_2 a2_3))
theorem estoverslaw21_GrantMore.mono_l : ∀ k, (∀ y0 y1 y2 y3 y4 y5 y6, LeO (estoverslaw21_GrantMore.j0 k y0 y1 y2 y3 y4 y5 y6) (estoverslaw21_GrantMore.j0 (k + 1) y0 y1 y2 y3 y4 y5 y6)) ∧ (∀ y0 y1 y2 y3 y4 y5 y6 y7, LeO (estoverslaw21_GrantMore.j1 k y0 y1 y2 y3 y4 y5 y6 y7) (estoverslaw21_GrantMore.j1 (k + 1) y0 y1 y2 y3 y4 y5 y6 y7)) ∧ (∀ y0 y1 y2 y3 y4 y5 y6 y7 y8, LeO (estoverslaw21_GrantMore.l0 k y0 y1 y2 y3 y4 y5 y6 y7 y8) (estoverslaw21_GrantMore.l0 (k + 1) y0 y1 y2 y3 y4 y5 y6 y7 y8))
  | 0 => ⟨fun _ _ _ _ _ _ _ r h => by simp [estoverslaw21_GrantMore.j0] at h, fun _ _ _ _ _ _ _ _ r h => by simp [estoverslaw21_GrantMore.j1] at h, fun _ _ _ _ _ _ _ _ _ r h => by simp [estoverslaw21_GrantMore.l0] at h⟩
  | k + 1 => by
    obtain ⟨ih0, ih1, ih2⟩ := estoverslaw21_GrantMore.mono_l k
    refine ⟨?_, ?_, ?_⟩
    · intro y0 y1 y2 y3 y4 y5 y6
      unfold estoverslaw21_GrantMore.j0
      repeat' first
      | (with_reducible exact ih0 _ _ _ _ _ _ _)
      | (with_reducible exact ih1 _ _ _ _ _ _ _ _)
      | (with_reducible exact ih2 _ _ _ _ _ _ _ _ _)
      | (with_reducible exact estoverslaw21_awake.mono _)
      | (with_reducible exact estoverslaw21_valid.mono _ _ _)
      | (with_reducible exact grant_Serve.mono _ _ _ _ _)
      | (with_reducible exact LeO.refl _)
      | (with_reducible exact LeO.none _)
      | (with_reducible refine LeO.ite ?_ ?_)
      | (with_reducible refine LeO.bind ?_ (fun _ => ?_))
      | exact ih0 _ _ _ _ _ _ _
      | exact ih1 _ _ _ _ _ _ _ _
      | exact ih2 _ _ _ _ _ _ _ _ _
      | exact estoverslaw21_awake.mono _
      | exact estoverslaw21_valid.mono _ _ _
      | exact grant_Serve.mono _ _ _ _ _
      | exact LeO.none _
      | refine LeO.ite ?_ ?_
      | refine LeO.bind ?_ (fun _ => ?_)
    · intro y0 y1 y2 y3 y4 y5 y6 y7
      unfold estoverslaw21_GrantMore.j1
      repeat' first
      | (with_reducible exact ih0 _ _ _ _ _ _ _)
      | (with_reducible exact ih1 _ _ _ _ _ _ _ _)
      | (with_reducible exact ih2 _ _ _ _ _ _ _ _ _)
      | (with_reducible exact estoverslaw21_awake.mono _)
      | (with_reducible exact estoverslaw21_valid.mono _ _ _)
      | (with_reducible exact grant_Serve.mono _ _ _ _ _)
      | (with_reducible exact LeO.refl _)
      | (with_reducible exact LeO.none _)
      | (with_reducible refine LeO.ite ?_ ?_)
      | (with_reducible refine LeO.bind ?_ (fun _ => ?_))
      | exact ih0 _ _ _ _ _ _ _
      | exact ih1 _ _ _ _ _ _ _ _
      | exact ih2 _ _ _ _ _ _ _ _ _
      | exact estoverslaw21_awake.mono _
      | exact estoverslaw21_valid.mono _ _ _
      | exact grant_Serve.mono _ _ _ _ _
      | exact LeO.none _
      | refine LeO.ite ?_ ?_
      | refine LeO.bind ?_ (fun _ => ?_)
    · intro y0 y1 y2 y3 y4 y5 y6 y7 y8
      unfold estoverslaw21_GrantMore.l0
      repeat' first
      | (with_reducible exact ih0 _ _ _ _ _ _ _)
      | (with_reducible exact ih1 _ _ _ _ _ _ _ _)
      | (with_reducible exact ih2 _ _ _ _ _ _ _ _ _)
      | (with_reducible exact estoverslaw21_awake.mono _)
      | (with_reducible exact estoverslaw21_valid.mono _ _ _)
      | (with_reducible exact grant_Serve.mono _ _ _ _ _)
      | (with_reducible exact LeO.refl _)
      | (with_reducible exact LeO.none _)
      | (with_reducible refine LeO.ite ?_ ?_)
      | (with_reducible refine LeO.bind ?_ (fun _ => ?_))
      | exact ih0 _ _ _ _ _ _ _
      | exact ih1 _ _ _ _ _ _ _ _
      | exact ih2 _ _ _ _ _ _ _ _ _
      | exact estoverslaw21_awake.mono _
      | exact estoverslaw21_valid.mono _ _ _
      | exact grant_Serve.mono _ _ _ _ _
      | exact LeO.none _
      | refine LeO.ite ?_ ?_
      | refine LeO.bind ?_ (fun _ => ?_)
theorem estoverslaw21_GrantMore.mono : ∀ a0 a1 a2 a3 a4 a5 k, LeO (estoverslaw21_GrantMore.f k a0 a1 a2 a3 a4 a5) (estoverslaw21_GrantMore.f (k + 1) a0 a1 a2 a3 a4 a5) := by
  intro a0 a1 a2 a3 a4 a5 k
  obtain ⟨ih0, ih1, ih2⟩ := estoverslaw21_GrantMore.mono_l k
  unfold estoverslaw21_GrantMore.f
  repeat' first
      | (with_reducible exact ih0 _ _ _ _ _ _ _)
      | (with_reducible exact ih1 _ _ _ _ _ _ _ _)
      | (with_reducible exact ih2 _ _ _ _ _ _ _ _ _)
      | (with_reducible exact estoverslaw21_awake.mono _)
      | (with_reducible exact estoverslaw21_valid.mono _ _ _)
      | (with_reducible exact grant_Serve.mono _ _ _ _ _)
      | (with_reducible exact LeO.refl _)
      | (with_reducible exact LeO.none _)
      | (with_reducible refine LeO.ite ?_ ?_)
      | (with_reducible refine LeO.bind ?_ (fun _ => ?_))
      | exact ih0 _ _ _ _ _ _ _
      | exact ih1 _ _ _ _ _ _ _ _
      | exact ih2 _ _ _ _ _ _ _ _ _
      | exact estoverslaw21_awake.mono _
      | exact estoverslaw21_valid.mono _ _ _
      | exact grant_Serve.mono _ _ _ _ _
      | exact LeO.none _
      | refine LeO.ite ?_ ?_
      | refine LeO.bind ?_ (fun _ => ?_)
def estoverslaw21_GrantMore.T10 : Bool × List (List Nat × List Nat) := (true, [([], []), ([], []), ([0, 1], [0, 1]), ([], []), ([], []), ([4], [4]), ([5], [5]), ([], []), ([7], [7]), ([8], [8]), ([2, 3, 6, 9], [2, 3, 6, 9]), ([10], [10]), ([11], [11]), ([11], [11]), ([11], [11]), ([12, 10, 0, 1, 2, 3, 4, 5, 6, 7, 8, 9, 10, 11, 12], [12]), ([13, 15, 0, 1, 2, 3, 4, 5, 6, 7, 8, 9, 10, 11, 12, 13, 15], [13]), ([14, 16, 0, 1, 2, 3, 4, 5, 6, 7, 8, 9, 10, 11, 12, 13, 14, 15, 16], [14])])
def estoverslaw21_GrantMore.B10 : List Nat := [0, 0, 3, 0, 0, 16, 48, 0, 128, 384, 1023, 2047, 4095, 4095, 4095, 8191, 49151, 131071]
theorem estoverslaw21_GrantMore.tab10 : rtab .any (opsOf Try.f7 10) = estoverslaw21_GrantMore.T10 := by kernel_rfl
theorem estoverslaw21_GrantMore.bits10 : waitsOk estoverslaw21_GrantMore.T10.2 estoverslaw21_GrantMore.B10 = true := by kernel_rfl
set_option maxHeartbeats 8000000 in
set_option maxRecDepth 100000 in
theorem estoverslaw21_GrantMore.calls (k : Nat) (A0 : Option Addr) (c0 : Nat) (l0 : List (S37)) (A1 : Option Addr) (c1 : Nat) (l1 : List (S59)) (a2_0 : Int) (a2_1 : Int) (a2_2 : Int) (a2_3 : Int) (r : Bool) (w : World) (hr0 : Kd.C k37 w A0 l0.length l0) (hc0 : l0.length ≤ c0) (hr1 : Kd.C k59 w A1 l1.length l1) (hc1 : l1.length ≤ c1) (h : estoverslaw21_GrantMore.f k l0 l1 a2_0 a2_1 a2_2 a2_3 = some r) :
    Calls Try.prog 7 #[.slice A0 l0.length c0, .slice A1 l1.length c1, .agg #[.int .u16 a2_0, .int .u16 a2_1, .int .u16 a2_2, .int .u16 a2_3]] w fun e w' => e = .returned (.bool r) ∧ Below w.heap.size w w' := by
  have hu55 := Try.underlying55
  have HR0 := Aside0.mk hr0
  have HC0 := Aside0.mk hc0
  clear hr0 hc0
  have HR1 := Aside0.mk hr1
  have HC1 := Aside0.mk hc1
  clear hr1 hc1
  have HB := Aside0.mk (Below.refl w.heap.size w)
  have H : ((estoverslaw21_awake.f k).bind fun t276 => (if t276 = true then ((estoverslaw21_few.f l0 l1).bind fun t277 => (if t277 = true then ((estoverslaw21_valid.f k l0 l1).bind fun t278 => (estoverslaw21_GrantMore.j0 k l0 l1 (!t278) a2_0 a2_1 a2_2 a2_3)) else (estoverslaw21_GrantMore.j0 k l0 l1 true a2_0 a2_1 a2_2 a2_3))) else (estoverslaw21_GrantMore.j0 k l0 l1 true a2_0 a2_1 a2_2 a2_3))) = some r := h
  clear h
  have HC4 := Aside0.mk H
  clear H
  go_enter Try.func7, Try.ntmps7
  go_upto_region 1 with (first | ((with_reducible refine gate_dst (N := 5) rfl ?_); refine box_event ?hg (N := 5) ?hd (cs := #[.int .u16 a2_0, .int .u16 a2_1, .int .u16 a2_2, .int .u16 a2_3]) (t := 55) ?hr ?_; (case hd => rfl); (case hg => rfl); (case hr => first | (go_simp; done) | (go_simp; rfl)); intro gb275 hg w5 hbox hb; have n0_ := Aside0.mk (below_step (by repeat (first | (with_reducible first | exact HB.out | apply below_alloc | apply pw_below_drewN | apply below_drew1) | exact HB.out)) hb); have n1_ := Aside0.mk (hbox); have n2_ := Aside0.mk ((by rw [hg]; exact (below_size (by repeat (first | (with_reducible first | exact HB.out | apply below_alloc | apply pw_below_drewN | apply below_drew1) | exact HB.out))) : w.heap.size ≤ gb275)); have n3_ := Aside0.mk ((by rw [hg]; exact (below_size (by repeat (first | (with_reducible first | exact HB.out | apply below_alloc | apply pw_below_drewN | apply below_drew1) | exact HB.out))) : w.heap.size ≤ gb275)); clear HB; have HB := n0_; have BK275 := n1_; have GW275 := n2_; have GE275 := n3_; clear n0_ n1_ n2_ n3_; clear hb hbox hg))
  (try simp only [Act.put, List.setIfInBounds_toArray, List.set_cons_zero, List.set_cons_succ])
  go_cut [30] (fun v30 wc => ∃ (kq : Nat) (x30_3 : Bool), v30 = .bool x30_3 ∧ Aside0 (estoverslaw21_GrantMore.j0 kq l0 l1 x30_3 a2_0 a2_1 a2_2 a2_3 = some r) ∧ Aside0 (kq ≤ k) ∧ Aside0 (wc.heap[gb275]? = some (.cells #[.int .u16 a2_0, .int .u16 a2_1, .int .u16 a2_2, .int .u16 a2_3] 55 (0, 0))) ∧ Aside0 (Below w.heap.size w wc))
  case first =>
    have H := HC4.out
    clear HC4
    replace H := Option.bind_eq_some_iff.mp H
    obtain ⟨t276, A60, H⟩ := H
    replace H : (if t276 = true then ((estoverslaw21_few.f l0 l1).bind fun t277 => (if t277 = true then ((estoverslaw21_valid.f k l0 l1).bind fun t278 => (estoverslaw21_GrantMore.j0 k l0 l1 (!t278) a2_0 a2_1 a2_2 a2_3)) else (estoverslaw21_GrantMore.j0 k l0 l1 true a2_0 a2_1 a2_2 a2_3))) else (estoverslaw21_GrantMore.j0 k l0 l1 true a2_0 a2_1 a2_2 a2_3)) = some r := H
    have A6 := Aside0.mk A60
    clear A60
    by_cases c7 : t276 = true
    · subst c7
      have H1 : ((estoverslaw21_few.f l0 l1).bind fun t277 => (if t277 = true then ((estoverslaw21_valid.f k l0 l1).bind fun t278 => (estoverslaw21_GrantMore.j0 k l0 l1 (!t278) a2_0 a2_1 a2_2 a2_3)) else (estoverslaw21_GrantMore.j0 k l0 l1 true a2_0 a2_1 a2_2 a2_3))) = some r := by rw [if_pos rfl] at H; exact H
      clear H
      have H := H1
      clear H1
      replace H := Option.bind_eq_some_iff.mp H
      obtain ⟨t277, A80, H⟩ := H
      replace H : (if t277 = true then ((estoverslaw21_valid.f k l0 l1).bind fun t278 => (estoverslaw21_GrantMore.j0 k l0 l1 (!t278) a2_0 a2_1 a2_2 a2_3)) else (estoverslaw21_GrantMore.j0 k l0 l1 true a2_0 a2_1 a2_2 a2_3)) = some r := H
      have A8 := Aside0.mk A80
      clear A80
      by_cases c9 : t277 = true
      · subst c9
        have H1 : ((estoverslaw21_valid.f k l0 l1).bind fun t278 => (estoverslaw21_GrantMore.j0 k l0 l1 (!t278) a2_0 a2_1 a2_2 a2_3)) = some r := by rw [if_pos rfl] at H; exact H
        clear H
        have H := H1
        clear H1
        replace H := Option.bind_eq_some_iff.mp H
        obtain ⟨t278, A100, H⟩ := H
        replace H : (estoverslaw21_GrantMore.j0 k l0 l1 (!t278) a2_0 a2_1 a2_2 a2_3) = some r := H
        have A10 := Aside0.mk A100
        clear A100
        have H' := Aside0.mk H
        clear H
        go_wp2_with (first | ((with_reducible refine gate_callee (f := 15) rfl ?_); refine goesL_ (some 17) rfl rfl Try.func15 (by kernel_rfl) rfl #[] rfl (by (try simp only [List.map_toArray, List.map_cons, List.map_nil]); first | done | rfl | (simp only [List.length_drop, List.length_take]; rfl)) ?_; (with_reducible refine (estoverslaw21_awake.calls k  true _ A6.out).mono ?_); rintro e w11 ⟨rfl, hb⟩; refine ⟨_, rfl, ?_⟩; have n0_ := Aside0.mk (blk_below (g := gb275) (o := .cells #[.int .u16 a2_0, .int .u16 a2_1, .int .u16 a2_2, .int .u16 a2_3] 55 (0, 0)) (by (with_reducible repeat (first | refine blk_drewN ?_ _ | refine blk_drew ?_ | refine blk_alloc ?_ _)); exact BK275.out) hb); have n1_ := Aside0.mk (below_step (by repeat (first | (with_reducible first | exact HB.out | apply below_alloc | apply pw_below_drewN | apply below_drew1 | refine below_set ?_ GE275.out) | exact HB.out)) hb); clear BK275; clear HB; have BK275 := n0_; have HB := n1_; clear n0_ n1_; (try clear hb); (try clear hb2); (try clear hk); (try clear hi)) | (go_at_call 19; (with_reducible refine (estoverslaw21_few.calls _ _ l0 _ _ l1 true _ ?side1 ?side2 ?side3 ?side4 A8.out).mono ?_); (case side1 => repeat (first | exact (Kd.C_below HR0.out HB.out) | (with_reducible refine Kd.C_alloc ?_ _) | (with_reducible refine Kd.C_drewN ?_ _) | (with_reducible refine Kd.C_drew ?_))); (case side2 => exact HC0.out); (case side3 => repeat (first | exact (Kd.C_below HR1.out HB.out) | (with_reducible refine Kd.C_alloc ?_ _) | (with_reducible refine Kd.C_drewN ?_ _) | (with_reducible refine Kd.C_drew ?_))); (case side4 => exact HC1.out); rintro e w' ⟨rfl, ⟨nd, rfl⟩⟩) | (go_at_call 23; (with_reducible refine (estoverslaw21_valid.calls k _ _ l0 _ _ l1 t278 _ ?side1 ?side2 ?side3 ?side4 A10.out).mono ?_); (case side1 => repeat (first | exact (Kd.C_below HR0.out (by repeat (first | (with_reducible first | exact HB.out | apply below_alloc | apply pw_below_drewN | apply below_drew1 | refine below_set ?_ GE275.out) | exact HB.out))) | (with_reducible refine Kd.C_alloc ?_ _) | (with_reducible refine Kd.C_drewN ?_ _) | (with_reducible refine Kd.C_drew ?_))); (case side2 => exact HC0.out); (case side3 => repeat (first | exact (Kd.C_below HR1.out (by repeat (first | (with_reducible first | exact HB.out | apply below_alloc | apply pw_below_drewN | apply below_drew1 | refine below_set ?_ GE275.out) | exact HB.out))) | (with_reducible refine Kd.C_alloc ?_ _) | (with_reducible refine Kd.C_drewN ?_ _) | (with_reducible refine Kd.C_drew ?_))); (case side4 => exact HC1.out); rintro e w12 ⟨rfl, hb⟩; have n0_ := Aside0.mk (blk_below (g := gb275) (o := .cells #[.int .u16 a2_0, .int .u16 a2_1, .int .u16 a2_2, .int .u16 a2_3] 55 (0, 0)) (by (with_reducible repeat (first | refine blk_drewN ?_ _ | refine blk_drew ?_ | refine blk_alloc ?_ _)); exact BK275.out) hb); have n1_ := Aside0.mk (below_step (by repeat (first | (with_reducible first | exact HB.out | apply below_alloc | apply pw_below_drewN | apply below_drew1 | refine below_set ?_ GE275.out) | exact HB.out)) hb); clear BK275; clear HB; have BK275 := n0_; have HB := n1_; clear n0_ n1_; (try clear hb); (try clear hb2); (try clear hk); (try clear hi)))
        go_meet
        case rel => exact ⟨_, (!t278), (by first | rfl | (simp; done) | (simp [*]; done)), H', ⟨by first | omega | exact Nat.le_refl _⟩, ⟨by (with_reducible repeat (first | refine blk_drewN ?_ _ | refine blk_drew ?_ | refine blk_alloc ?_ _)); exact BK275.out⟩, ⟨by repeat (first | (with_reducible first | exact HB.out | apply below_alloc | apply pw_below_drewN | apply below_drew1 | refine below_set ?_ GE275.out) | exact HB.out)⟩⟩
      · replace c9 := Bool.eq_false_iff.mpr c9
        subst c9
        have H1 : (estoverslaw21_GrantMore.j0 k l0 l1 true a2_0 a2_1 a2_2 a2_3) = some r := by rw [if_neg (show ¬ (false = true) by decide)] at H; exact H
        clear H
        have H := H1
        clear H1
        have H' := Aside0.mk H
        clear H
        go_wp2_with (first | ((with_reducible refine gate_callee (f := 15) rfl ?_); refine goesL_ (some 17) rfl rfl Try.func15 (by kernel_rfl) rfl #[] rfl (by (try simp only [List.map_toArray, List.map_cons, List.map_nil]); first | done | rfl | (simp only [List.length_drop, List.length_take]; rfl)) ?_; (with_reducible refine (estoverslaw21_awake.calls k  true _ A6.out).mono ?_); rintro e w13 ⟨rfl, hb⟩; refine ⟨_, rfl, ?_⟩; have n0_ := Aside0.mk (blk_below (g := gb275) (o := .cells #[.int .u16 a2_0, .int .u16 a2_1, .int .u16 a2_2, .int .u16 a2_3] 55 (0, 0)) (by (with_reducible repeat (first | refine blk_drewN ?_ _ | refine blk_drew ?_ | refine blk_alloc ?_ _)); exact BK275.out) hb); have n1_ := Aside0.mk (below_step (by repeat (first | (with_reducible first | exact HB.out | apply below_alloc | apply pw_below_drewN | apply below_drew1 | refine below_set ?_ GE275.out) | exact HB.out)) hb); clear BK275; clear HB; have BK275 := n0_; have HB := n1_; clear n0_ n1_; (try clear hb); (try clear hb2); (try clear hk); (try clear hi)) | (go_at_call 19; (with_reducible refine (estoverslaw21_few.calls _ _ l0 _ _ l1 false _ ?side1 ?side2 ?side3 ?side4 A8.out).mono ?_); (case side1 => repeat (first | exact (Kd.C_below HR0.out HB.out) | (with_reducible refine Kd.C_alloc ?_ _) | (with_reducible refine Kd.C_drewN ?_ _) | (with_reducible refine Kd.C_drew ?_))); (case side2 => exact HC0.out); (case side3 => repeat (first | exact (Kd.C_below HR1.out HB.out) | (with_reducible refine Kd.C_alloc ?_ _) | (with_reducible refine Kd.C_drewN ?_ _) | (with_reducible refine Kd.C_drew ?_))); (case side4 => exact HC1.out); rintro e w' ⟨rfl, ⟨nd, rfl⟩⟩))
        go_meet
        case rel => exact ⟨_, (true), (by first | rfl | (simp; done) | (simp [*]; done)), H', ⟨by first | omega | exact Nat.le_refl _⟩, ⟨by (with_reducible repeat (first | refine blk_drewN ?_ _ | refine blk_drew ?_ | refine blk_alloc ?_ _)); exact BK275.out⟩, ⟨by repeat (first | (with_reducible first | exact HB.out | apply below_alloc | apply pw_below_drewN | apply below_drew1 | refine below_set ?_ GE275.out) | exact HB.out)⟩⟩
    · replace c7 := Bool.eq_false_iff.mpr c7
      subst c7
      have H1 : (estoverslaw21_GrantMore.j0 k l0 l1 true a2_0 a2_1 a2_2 a2_3) = some r := by rw [if_neg (show ¬ (false = true) by decide)] at H; exact H
      clear H
      have H := H1
      clear H1
      have H' := Aside0.mk H
      clear H
      go_wp2_with (first | ((with_reducible refine gate_callee (f := 15) rfl ?_); refine goesL_ (some 17) rfl rfl Try.func15 (by kernel_rfl) rfl #[] rfl (by (try simp only [List.map_toArray, List.map_cons, List.map_nil]); first | done | rfl | (simp only [List.length_drop, List.length_take]; rfl)) ?_; (with_reducible refine (estoverslaw21_awake.calls k  false _ A6.out).mono ?_); rintro e w14 ⟨rfl, hb⟩; refine ⟨_, rfl, ?_⟩; have n0_ := Aside0.mk (blk_below (g := gb275) (o := .cells #[.int .u16 a2_0, .int .u16 a2_1, .int .u16 a2_2, .int .u16 a2_3] 55 (0, 0)) (by (with_reducible repeat (first | refine blk_drewN ?_ _ | refine blk_drew ?_ | refine blk_alloc ?_ _)); exact BK275.out) hb); have n1_ := Aside0.mk (below_step (by repeat (first | (with_reducible first | exact HB.out | apply below_alloc | apply pw_below_drewN | apply below_drew1 | refine below_set ?_ GE275.out) | exact HB.out)) hb); clear BK275; clear HB; have BK275 := n0_; have HB := n1_; clear n0_ n1_; (try clear hb); (try clear hb2); (try clear hk); (try clear hi)))
      go_meet
      case rel => exact ⟨_, (true), (by first | rfl | (simp; done) | (simp [*]; done)), H', ⟨by first | omega | exact Nat.le_refl _⟩, ⟨by (with_reducible repeat (first | refine blk_drewN ?_ _ | refine blk_drew ?_ | refine blk_alloc ?_ _)); exact BK275.out⟩, ⟨by repeat (first | (with_reducible first | exact HB.out | apply below_alloc | apply pw_below_drewN | apply below_drew1 | refine below_set ?_ GE275.out) | exact HB.out)⟩⟩
  case rest =>
    clear HC4
    try clear c1
    try clear p2
    try clear c7
    try clear c9
    obtain ⟨kq, x30_3, rfl, HA, HJ3, BK275, HB⟩ := hcut
    cases kq with
    | zero => exact absurd HA.out (by simp [estoverslaw21_GrantMore.j0])
    | succ kj3 =>
      have H := HA.out
      clear HA
      simp only [estoverslaw21_GrantMore.j0] at H
      by_cases c15 : x30_3 = true
      · subst c15
        have H1 : ((estoverslaw21_awake.f kj3).bind fun t279 => (some t279)) = some r := by rw [if_pos rfl] at H; exact H
        clear H
        have H := H1
        clear H1
        replace H := Option.bind_eq_some_iff.mp H
        obtain ⟨t279, A160, H⟩ := H
        replace H : (some t279) = some r := H
        have A16 := Aside0.mk A160
        clear A160
        obtain rfl := Option.some.inj H
        go_wp2_with (first | ((with_reducible refine gate_callee (f := 15) rfl ?_); refine goesL_ (some 31) rfl rfl Try.func15 (by kernel_rfl) rfl #[] rfl (by (try simp only [List.map_toArray, List.map_cons, List.map_nil]); first | done | rfl | (simp only [List.length_drop, List.length_take]; rfl)) ?_; (with_reducible refine (estoverslaw21_awake.calls kj3  t279 _ A16.out).mono ?_); rintro e w17 ⟨rfl, hb⟩; refine ⟨_, rfl, ?_⟩; have n0_ := Aside0.mk (blk_below (g := gb275) (o := .cells #[.int .u16 a2_0, .int .u16 a2_1, .int .u16 a2_2, .int .u16 a2_3] 55 (0, 0)) (by (with_reducible repeat (first | refine blk_drewN ?_ _ | refine blk_drew ?_ | refine blk_alloc ?_ _)); exact BK275.out) hb); have n1_ := Aside0.mk (below_step (by repeat (first | (with_reducible first | exact HB.out | apply below_alloc | apply pw_below_drewN | apply below_drew1 | refine below_set ?_ GE275.out) | exact HB.out)) hb); clear BK275; clear HB; have BK275 := n0_; have HB := n1_; clear n0_ n1_; (try clear hb); (try clear hb2); (try clear hk); (try clear hi)))
        go_ret
        exact ⟨by first | rfl | (simp [errW_none, errW_some] <;> rfl) | (simp [*, errW_none, errW_some] <;> rfl), by repeat (first | (with_reducible first | exact HB.out | apply below_alloc | apply pw_below_drewN | apply below_drew1 | refine below_set ?_ GE275.out) | exact HB.out)⟩
      · replace c15 := Bool.eq_false_iff.mpr c15
        subst c15
        have H1 : ((grant_Serve.f kj3 l0 l1 (wrap64 (a2_0)) (wrap64 (a2_1))).bind fun bt280 => ((grant_Serve.f kj3 l0 l1 (wrap64 ((wrap64 (a2_0)) + (wrap64 (a2_2)))) (wrap64 ((wrap64 (a2_1)) + (wrap64 (a2_3))))).bind fun bt285 => (if bt280.2.2 = 0 then (if bt285.2.2 = 0 then (estoverslaw21_GrantMore.j1 kj3 l0 l1 bt280.1 (decide (bt280.1 > bt285.1)) a2_0 a2_1 a2_2 a2_3) else (estoverslaw21_GrantMore.j1 kj3 l0 l1 bt280.1 true a2_0 a2_1 a2_2 a2_3)) else (estoverslaw21_GrantMore.j1 kj3 l0 l1 bt280.1 true a2_0 a2_1 a2_2 a2_3)))) = some r := by rw [if_neg (show ¬ (false = true) by decide)] at H; exact H
        clear H
        have H := H1
        clear H1
        replace H := Option.bind_eq_some_iff.mp H
        obtain ⟨⟨t280, t281, t282⟩, A180, H⟩ := H
        replace H : ((grant_Serve.f kj3 l0 l1 (wrap64 ((wrap64 (a2_0)) + (wrap64 (a2_2)))) (wrap64 ((wrap64 (a2_1)) + (wrap64 (a2_3))))).bind fun bt285 => (if t282 = 0 then (if bt285.2.2 = 0 then (estoverslaw21_GrantMore.j1 kj3 l0 l1 t280 (decide (t280 > bt285.1)) a2_0 a2_1 a2_2 a2_3) else (estoverslaw21_GrantMore.j1 kj3 l0 l1 t280 true a2_0 a2_1 a2_2 a2_3)) else (estoverslaw21_GrantMore.j1 kj3 l0 l1 t280 true a2_0 a2_1 a2_2 a2_3))) = some r := H
        have A18 := Aside0.mk A180
        clear A180
        replace H := Option.bind_eq_some_iff.mp H
        obtain ⟨⟨t285, t286, t287⟩, A190, H⟩ := H
        replace H : (if t282 = 0 then (if t287 = 0 then (estoverslaw21_GrantMore.j1 kj3 l0 l1 t280 (decide (t280 > t285)) a2_0 a2_1 a2_2 a2_3) else (estoverslaw21_GrantMore.j1 kj3 l0 l1 t280 true a2_0 a2_1 a2_2 a2_3)) else (estoverslaw21_GrantMore.j1 kj3 l0 l1 t280 true a2_0 a2_1 a2_2 a2_3)) = some r := H
        have A19 := Aside0.mk A190
        clear A190
        have HC20 := Aside0.mk H
        clear H
        have hcz21_0 : wc.cell? ⟨gb275, 0, none⟩ = some (.int .u16 a2_0) := (blk_cell BK275.out 0).trans rfl
        have hcz21_1 : wc.cell? ⟨gb275, 1, none⟩ = some (.int .u16 a2_1) := (blk_cell BK275.out 1).trans rfl
        have hcz21_2 : wc.cell? ⟨gb275, 2, none⟩ = some (.int .u16 a2_2) := (blk_cell BK275.out 2).trans rfl
        have hcz21_3 : wc.cell? ⟨gb275, 3, none⟩ = some (.int .u16 a2_3) := (blk_cell BK275.out 3).trans rfl
        have hfz21_0 := blk_frozen BK275.out 0
        have hfz21_1 := blk_frozen BK275.out 1
        have hfz21_2 := blk_frozen BK275.out 2
        have hfz21_3 := blk_frozen BK275.out 3
        go_upto_region 5 with (first | ((with_reducible refine gate_callee (f := 20) rfl ?_); refine goesL_ (some 41) rfl rfl Try.func20 (by kernel_rfl) rfl #[.slice A0 l0.length c0, .slice A1 l1.length c1, .int .i64 (wrap64 (a2_0)), .int .i64 (wrap64 (a2_1))] rfl (by (try simp only [List.map_toArray, List.map_cons, List.map_nil]); first | done | rfl | (simp only [List.length_drop, List.length_take]; rfl)) ?_; (with_reducible refine (grant_Serve.calls kj3 _ _ l0 _ _ l1 (wrap64 (a2_0)) (wrap64 (a2_1)) t280 t281 t282 _ ?side1 ?side2 ?side3 ?side4 A18.out).mono ?_); (case side1 => repeat (first | exact (Kd.C_below HR0.out HB.out) | (with_reducible refine Kd.C_alloc ?_ _) | (with_reducible refine Kd.C_drewN ?_ _) | (with_reducible refine Kd.C_drew ?_))); (case side2 => exact HC0.out); (case side3 => repeat (first | exact (Kd.C_below HR1.out HB.out) | (with_reducible refine Kd.C_alloc ?_ _) | (with_reducible refine Kd.C_drewN ?_ _) | (with_reducible refine Kd.C_drew ?_))); (case side4 => exact HC1.out); rintro e w22 ⟨v283, rfl, ho0, hb⟩; refine ⟨_, rfl, ?_⟩; have n0_ := Aside0.mk (Kd.R_lower ho0 (below_size (by repeat (first | (with_reducible first | exact HB.out | apply below_alloc | apply pw_below_drewN | apply below_drew1 | refine below_set ?_ GE275.out) | exact HB.out)))); have n1_ := Aside0.mk (blk_below (g := gb275) (o := .cells #[.int .u16 a2_0, .int .u16 a2_1, .int .u16 a2_2, .int .u16 a2_3] 55 (0, 0)) (by (with_reducible repeat (first | refine blk_drewN ?_ _ | refine blk_drew ?_ | refine blk_alloc ?_ _)); exact BK275.out) hb); have n2_ := Aside0.mk (below_step (by repeat (first | (with_reducible first | exact HB.out | apply below_alloc | apply pw_below_drewN | apply below_drew1 | refine below_set ?_ GE275.out) | exact HB.out)) hb); clear BK275; clear HB; have HO284 := n0_; have BK275 := n1_; have HB := n2_; clear n0_ n1_ n2_; (try clear hb); (try clear hb2); (try clear hk); (try clear hi); (try clear ho0); have hcz23_0 : w22.cell? ⟨gb275, 0, none⟩ = some (.int .u16 a2_0) := (blk_cell BK275.out 0).trans rfl; have hcz23_1 : w22.cell? ⟨gb275, 1, none⟩ = some (.int .u16 a2_1) := (blk_cell BK275.out 1).trans rfl; have hcz23_2 : w22.cell? ⟨gb275, 2, none⟩ = some (.int .u16 a2_2) := (blk_cell BK275.out 2).trans rfl; have hcz23_3 : w22.cell? ⟨gb275, 3, none⟩ = some (.int .u16 a2_3) := (blk_cell BK275.out 3).trans rfl; have hfz23_0 := blk_frozen BK275.out 0; have hfz23_1 := blk_frozen BK275.out 1; have hfz23_2 := blk_frozen BK275.out 2; have hfz23_3 := blk_frozen BK275.out 3) | ((with_reducible refine gate_callee (f := 20) rfl ?_); refine goesL_ (some 62) rfl rfl Try.func20 (by kernel_rfl) rfl #[.slice A0 l0.length c0, .slice A1 l1.length c1, .int .i64 (wrap64 ((wrap64 (a2_0)) + (wrap64 (a2_2)))), .int .i64 (wrap64 ((wrap64 (a2_1)) + (wrap64 (a2_3))))] rfl (by (try simp only [List.map_toArray, List.map_cons, List.map_nil]); first | done | rfl | (simp only [List.length_drop, List.length_take]; rfl)) ?_; (with_reducible refine (grant_Serve.calls kj3 _ _ l0 _ _ l1 (wrap64 ((wrap64 (a2_0)) + (wrap64 (a2_2)))) (wrap64 ((wrap64 (a2_1)) + (wrap64 (a2_3)))) t285 t286 t287 _ ?side1 ?side2 ?side3 ?side4 A19.out).mono ?_); (case side1 => repeat (first | exact (Kd.C_below HR0.out HB.out) | (with_reducible refine Kd.C_alloc ?_ _) | (with_reducible refine Kd.C_drewN ?_ _) | (with_reducible refine Kd.C_drew ?_))); (case side2 => exact HC0.out); (case side3 => repeat (first | exact (Kd.C_below HR1.out HB.out) | (with_reducible refine Kd.C_alloc ?_ _) | (with_reducible refine Kd.C_drewN ?_ _) | (with_reducible refine Kd.C_drew ?_))); (case side4 => exact HC1.out); rintro e w24 ⟨v288, rfl, ho0, hb⟩; refine ⟨_, rfl, ?_⟩; have n0_ := Aside0.mk (Kd.R_elder' (by (with_reducible repeat (first | apply Kd.R_alloc | apply Kd.R_drewN | apply Kd.R_drew)); exact HO284.out) (Kd.R_base ho0) hb); have n1_ := Aside0.mk (Kd.R_lower (Kd.R_new' ho0 (Kd.R_lt (by (with_reducible repeat (first | apply Kd.R_alloc | apply Kd.R_drewN | apply Kd.R_drew)); exact HO284.out))) (below_size (by repeat (first | (with_reducible first | exact HB.out | apply below_alloc | apply pw_below_drewN | apply below_drew1 | refine below_set ?_ GE275.out) | exact HB.out)))); have n2_ := Aside0.mk (blk_below (g := gb275) (o := .cells #[.int .u16 a2_0, .int .u16 a2_1, .int .u16 a2_2, .int .u16 a2_3] 55 (0, 0)) (by (with_reducible repeat (first | refine blk_drewN ?_ _ | refine blk_drew ?_ | refine blk_alloc ?_ _)); exact BK275.out) hb); have n3_ := Aside0.mk (below_step (by repeat (first | (with_reducible first | exact HB.out | apply below_alloc | apply pw_below_drewN | apply below_drew1 | refine below_set ?_ GE275.out) | exact HB.out)) hb); clear HO284; clear BK275; clear HB; have HO284 := n0_; have HO289 := n1_; have BK275 := n2_; have HB := n3_; clear n0_ n1_ n2_ n3_; (try clear hb); (try clear hb2); (try clear hk); (try clear hi); (try clear ho0)))
        (try simp only [Act.put, List.setIfInBounds_toArray, List.set_cons_zero, List.set_cons_succ])
        go_cut [76] (fun v76 wc => ∃ (kq : Nat) (x76_19 : Bool), v76 = .bool x76_19 ∧ Aside0 (estoverslaw21_GrantMore.j1 kq l0 l1 t280 x76_19 a2_0 a2_1 a2_2 a2_3 = some r) ∧ Aside0 (kq ≤ kj3) ∧ Aside0 (wc.heap[gb275]? = some (.cells #[.int .u16 a2_0, .int .u16 a2_1, .int .u16 a2_2, .int .u16 a2_3] 55 (0, 0))) ∧ Aside0 (Below w.heap.size w wc))
        case first =>
          have H := HC20.out
          clear HC20
          by_cases c25 : t282 = 0
          · rw [if_pos c25] at H
            have c25b0 : (t282 == 0) = true := beq_iff_eq.mpr c25
            have c25b1 : (t282 != 0) = false := bne_eq_false_iff_eq.mpr c25
            clear c25
            (first | rw [c25b0] | (simp only [i64_w, i32_w]; rw [c25b0]) | skip)
            by_cases c26 : t287 = 0
            · rw [if_pos c26] at H
              have c26b0 : (t287 == 0) = true := beq_iff_eq.mpr c26
              have c26b1 : (t287 != 0) = false := bne_eq_false_iff_eq.mpr c26
              clear c26
              have H' := Aside0.mk H
              clear H
              go_wp2
              go_meet
              case rel => exact ⟨_, (decide (t280 > t285)), (by first | rfl | (simp; done) | (simp [*]; done)), H', ⟨by have := HJ3.out; first | omega | exact Nat.le_refl _⟩, ⟨by (with_reducible repeat (first | refine blk_drewN ?_ _ | refine blk_drew ?_ | refine blk_alloc ?_ _)); exact BK275.out⟩, ⟨by repeat (first | (with_reducible first | exact HB.out | apply below_alloc | apply pw_below_drewN | apply below_drew1 | refine below_set ?_ GE275.out) | exact HB.out)⟩⟩
            · rw [if_neg c26] at H
              have c26b0 : (t287 == 0) = false := beq_eq_false_iff_ne.mpr c26
              have c26b1 : (t287 != 0) = true := bne_iff_ne.mpr c26
              have H' := Aside0.mk H
              clear H
              go_wp2
              go_meet
              case rel => exact ⟨_, (true), (by first | rfl | (simp; done) | (simp [*]; done)), H', ⟨by have := HJ3.out; first | omega | exact Nat.le_refl _⟩, ⟨by (with_reducible repeat (first | refine blk_drewN ?_ _ | refine blk_drew ?_ | refine blk_alloc ?_ _)); exact BK275.out⟩, ⟨by repeat (first | (with_reducible first | exact HB.out | apply below_alloc | apply pw_below_drewN | apply below_drew1 | refine below_set ?_ GE275.out) | exact HB.out)⟩⟩
          · rw [if_neg c25] at H
            have c25b0 : (t282 == 0) = false := beq_eq_false_iff_ne.mpr c25
            have c25b1 : (t282 != 0) = true := bne_iff_ne.mpr c25
            (first | rw [c25b0] | (simp only [i64_w, i32_w]; rw [c25b0]) | skip)
            have H' := Aside0.mk H
            clear H
            go_wp2
            go_meet
            case rel => exact ⟨_, (true), (by first | rfl | (simp; done) | (simp [*]; done)), H', ⟨by have := HJ3.out; first | omega | exact Nat.le_refl _⟩, ⟨by (with_reducible repeat (first | refine blk_drewN ?_ _ | refine blk_drew ?_ | refine blk_alloc ?_ _)); exact BK275.out⟩, ⟨by repeat (first | (with_reducible first | exact HB.out | apply below_alloc | apply pw_below_drewN | apply below_drew1 | refine below_set ?_ GE275.out) | exact HB.out)⟩⟩
        case rest =>
          clear HC20
          try clear c1
          try clear c2
          try clear p2
          try clear p6
          try clear c7
          try clear c9
          try clear c15
          try clear c20
          try clear c25
          try clear c25b0
          try clear c25b1
          try clear c26
          try clear c26b0
          try clear c26b1
          try clear hcz21_0
          try clear hcz21_1
          try clear hcz21_2
          try clear hcz21_3
          try clear hcz23_0
          try clear hcz23_1
          try clear hcz23_2
          try clear hcz23_3
          try clear hfz21_0
          try clear hfz21_1
          try clear hfz21_2
          try clear hfz21_3
          try clear hfz23_0
          try clear hfz23_1
          try clear hfz23_2
          try clear hfz23_3
          try clear p2
          obtain ⟨kq, x76_19, rfl, HA, HJ19, BK275, HB⟩ := hcut
          cases kq with
          | zero => exact absurd HA.out (by simp [estoverslaw21_GrantMore.j1])
          | succ kj19 =>
            have H := HA.out
            clear HA
            simp only [estoverslaw21_GrantMore.j1] at H
            by_cases c27 : x76_19 = true
            · subst c27
              have H1 : (none) = some r := by rw [if_pos rfl] at H; exact H
              clear H
              have H := H1
              clear H1
              exact absurd H (by simp)
            · replace c27 := Bool.eq_false_iff.mpr c27
              subst c27
              have H1 : (estoverslaw21_GrantMore.l0 kj19 l0 l1 t280 (l0.length : Int) 0 a2_0 a2_1 a2_2 a2_3) = some r := by rw [if_neg (show ¬ (false = true) by decide)] at H; exact H
              clear H
              have H := H1
              clear H1
              have H' := Aside0.mk H
              clear H
              go_wp2
              go_loopg [79] kj19 (fun kq v79 w' => ∃ (x79_3 : Int), v79 = .int .i64 x79_3 ∧ Aside0 (estoverslaw21_GrantMore.l0 kq l0 l1 t280 (l0.length : Int) x79_3 a2_0 a2_1 a2_2 a2_3 = some r) ∧ Aside0 (kq ≤ kj19) ∧ Aside0 (w'.heap[gb275]? = some (.cells #[.int .u16 a2_0, .int .u16 a2_1, .int .u16 a2_2, .int .u16 a2_3] 55 (0, 0))) ∧ Aside0 (Below w.heap.size w w'))
              case atStart => exact ⟨(0), (by first | rfl | (simp; done) | (simp [*]; done)), H', ⟨Nat.le_refl _⟩, ⟨by (with_reducible repeat (first | refine blk_drewN ?_ _ | refine blk_drew ?_ | refine blk_alloc ?_ _)); exact BK275.out⟩, ⟨by repeat (first | (with_reducible first | exact HB.out | apply below_alloc | apply pw_below_drewN | apply below_drew1 | refine below_set ?_ GE275.out) | exact HB.out)⟩⟩
              case round =>
                clear H'
                try clear c1
                try clear c2
                try clear p2
                try clear p6
                try clear c7
                try clear c9
                try clear c15
                try clear c20
                try clear c25
                try clear c25b0
                try clear c25b1
                try clear c26
                try clear c26b0
                try clear c26b1
                try clear c27
                try clear hcz21_0
                try clear hcz21_1
                try clear hcz21_2
                try clear hcz21_3
                try clear hcz23_0
                try clear hcz23_1
                try clear hcz23_2
                try clear hcz23_3
                try clear hfz21_0
                try clear hfz21_1
                try clear hfz21_2
                try clear hfz21_3
                try clear hfz23_0
                try clear hfz23_1
                try clear hfz23_2
                try clear hfz23_3
                try clear p2
                try clear p6
                obtain ⟨x79_3, rfl, HA, HK3, BK275, HB⟩ := hrel
                cases gk with
                | zero => exact absurd HA.out (by simp [estoverslaw21_GrantMore.l0])
                | succ k3 =>
                  have H := HA.out
                  clear HA
                  simp only [estoverslaw21_GrantMore.l0] at H
                  by_cases c28 : x79_3 < (l0.length : Int)
                  · rw [if_pos c28] at H
                    have c28b0 : decide (x79_3 < (l0.length : Int)) = true := decide_eq_true c28
                    clear c28
                    by_cases c29 : 0 ≤ x79_3
                    · rw [if_pos c29] at H
                      have c29b0 := eq_true c29
                      have c29b1 : decide (0 ≤ x79_3) = true := decide_eq_true c29
                      clear c29
                      by_cases c30 : x79_3 ≤ (l0.length : Int)
                      · rw [if_pos c30] at H
                        have c30b0 := eq_true c30
                        have c30b1 : decide (x79_3 ≤ (l0.length : Int)) = true := decide_eq_true c30
                        clear c30
                        obtain ⟨y290, hy290⟩ : ∃ y_ : List (S37), y_ = (l0.drop (x79_3 : Int).toNat) := ⟨_, rfl⟩
                        replace H : ((grant_Serve.f k3 y290 l1 (wrap64 (a2_0)) (wrap64 (a2_1))).bind fun bt294 => (if bt294.2.2 = 0 then (if x79_3 < t280 then (if bt294.1 < (wrap64 (t280 - x79_3)) then (none) else (estoverslaw21_GrantMore.l0 k3 l0 l1 t280 (l0.length : Int) (wrap64 (x79_3 + 1)) a2_0 a2_1 a2_2 a2_3)) else (estoverslaw21_GrantMore.l0 k3 l0 l1 t280 (l0.length : Int) (wrap64 (x79_3 + 1)) a2_0 a2_1 a2_2 a2_3)) else (none))) = some r := by first | (rw [hy290]; with_reducible exact H) | (have H2_ := (Option.bind_some _ _).symm.trans H; rw [hy290]; with_reducible exact H2_) | (have H2_ := (Option.bind_some _ _).symm.trans H; with_reducible exact H2_) | with_reducible exact H | (rw [hy290]; exact H) | exact H
                        have Ny290 := Aside0.mk hy290
                        clear hy290
                        replace H := Option.bind_eq_some_iff.mp H
                        obtain ⟨⟨t294, t295, t296⟩, A310, H⟩ := H
                        replace H : (if t296 = 0 then (if x79_3 < t280 then (if t294 < (wrap64 (t280 - x79_3)) then (none) else (estoverslaw21_GrantMore.l0 k3 l0 l1 t280 (l0.length : Int) (wrap64 (x79_3 + 1)) a2_0 a2_1 a2_2 a2_3)) else (estoverslaw21_GrantMore.l0 k3 l0 l1 t280 (l0.length : Int) (wrap64 (x79_3 + 1)) a2_0 a2_1 a2_2 a2_3)) else (none)) = some r := H
                        have A31 := Aside0.mk A310
                        clear A310
                        by_cases c32 : t296 = 0
                        · rw [if_pos c32] at H
                          have c32b0 : (t296 == 0) = true := beq_iff_eq.mpr c32
                          have c32b1 : (t296 != 0) = false := bne_eq_false_iff_eq.mpr c32
                          clear c32
                          by_cases c33 : x79_3 < t280
                          · rw [if_pos c33] at H
                            have c33b0 : decide (x79_3 < t280) = true := decide_eq_true c33
                            clear c33
                            by_cases c34 : t294 < (wrap64 (t280 - x79_3))
                            · rw [if_pos c34] at H
                              exact absurd H (by simp)
                            · rw [if_neg c34] at H
                              have c34b0 : decide (t294 < (wrap64 (t280 - x79_3))) = false := decide_eq_false c34
                              clear c34
                              have H' := Aside0.mk H
                              clear H
                              try go_wp2
                              have n0_ := Aside0.mk (blk_drew BK275.out)
                              have n1_ := Aside0.mk (below_drew1 HB.out)
                              clear BK275
                              clear HB
                              have BK275 := n0_
                              have HB := n1_
                              clear n0_ n1_
                              have q36 : (x79_3 : Int) ≤ ((l0.length : Int) : Int) := of_decide_eq_true (by first | (with_reducible assumption) | assumption)
                              obtain ⟨i036, hi036, _, hsz36, _⟩ := info_parts info37
                              have hroom36 : l0.length ≤ c0 := HC0.out
                              have hC36 : Kd.C k37 _ A0 l0.length l0 := HR0.out
                              have q036 : (0 : Int) ≤ (x79_3 : Int) := of_decide_eq_true (by first | (with_reducible assumption) | assumption)
                              have hcut36 := cut_from (P := Try.prog) 29 37 .i64 Try.underlying29 hi036 4 hsz36 A0 l0.length c0 x79_3 q036 q36
                              have hr36 := Kd.C_drop (m := (x79_3 : Int).toNat) (c := c0) hC36 (by omega) hroom36
                              obtain ⟨A36, hA36⟩ : ∃ A1, A1 = (if c0 = (x79_3 : Int).toNat then A0 else (A0 : Option Addr).map (·.add ((x79_3 : Int).toNat * 4))) := ⟨_, rfl⟩
                              obtain ⟨c36, hc36⟩ : ∃ c1, c1 = c0 - (x79_3 : Int).toNat := ⟨_, rfl⟩
                              have hy36 : y290.length = l0.length - (x79_3 : Int).toNat := (by rw [Ny290.out, List.length_drop] <;> omega)
                              rw [show (l0).drop (x79_3 : Int).toNat = y290 from Ny290.out.symm] at hr36
                              replace hr36 : Kd.C k37 _ A36 y290.length y290 := (by rw [hA36]; exact hr36)
                              rw [← hy36, ← hA36, ← hc36] at hcut36
                              have HR293 := Aside0.mk hr36
                              have HC293 := Aside0.mk (show y290.length ≤ c36 from by rw [hy36, hc36]; exact Nat.sub_le_sub_right hroom36 _)
                              clear hr36 hC36 hroom36 hi036 hsz36 hc36
                              have KY36 := Aside0.mk hy36
                              have KA36 := Aside0.mk hA36
                              clear hy36 hA36
                              replace q36 := eq_true q36
                              refine start_ (n := 18) (S := fun w' => w'.cell? ⟨gb275, 0, none⟩ = some (.int .u16 a2_0) ∧ w'.cell? ⟨gb275, 1, none⟩ = some (.int .u16 a2_1) ∧ w'.cell? ⟨gb275, 2, none⟩ = some (.int .u16 a2_2) ∧ w'.cell? ⟨gb275, 3, none⟩ = some (.int .u16 a2_3)) (ds := []) #[false, false, false, false, false, false, false, false, false, false, false, false, false, false, false, false, false, false] (by kernel_rfl) rfl rfl ⟨(blk_cell BK275.out 0).trans rfl, (blk_cell BK275.out 1).trans rfl, (blk_cell BK275.out 2).trans rfl, (blk_cell BK275.out 3).trans rfl⟩ (fun hHeld => ?_); refine with_tabW estoverslaw21_GrantMore.tab10 estoverslaw21_GrantMore.bits10 (fun HT_ HW_ => ?_)
                              generalize wr.drew = w35 at BK275 HB HR293 hHeld ⊢
                              refine pure_ (i := 0) (N := some 83) (v := ?_) (a' := ?_) #[true, false, false, false, false, false, false, false, false, false, false, false, false, false, false, false, false, false] rfl rfl (any_of HT_.out (by kernel_rfl)) (fun _ _ _ h => h) (Or.inl ⟨by rfl, ?_⟩) ?_ ?_
                              rotate_left
                              · intro w'
                                go_simp
                                with_reducible rfl
                              rotate_left
                              · simp only [Act.put, List.setIfInBounds_toArray, List.set_cons_zero, List.set_cons_succ, i64_w, i32_w]
                                rfl
                              refine pure_ (i := 1) (N := some 84) (v := ?_) (a' := ?_) #[true, true, false, false, false, false, false, false, false, false, false, false, false, false, false, false, false, false] rfl rfl (any_of HT_.out (by kernel_rfl)) (fun _ _ _ h => h) (Or.inl ⟨by rfl, ?_⟩) ?_ ?_
                              rotate_left
                              · intro w'
                                go_simp
                                with_reducible rfl
                              rotate_left
                              · simp only [Act.put, List.setIfInBounds_toArray, List.set_cons_zero, List.set_cons_succ, i64_w, i32_w]
                                rfl
                              refine pure_ (i := 2) (N := some 85) (v := ?_) (a' := ?_) #[true, true, true, false, false, false, false, false, false, false, false, false, false, false, false, false, false, false] rfl rfl (any_of HT_.out (by kernel_rfl)) (fun _ _ _ h => h) (Or.inl ⟨by rfl, ?_⟩) ?_ ?_
                              rotate_left
                              · intro w'
                                go_simp
                                with_reducible rfl
                              rotate_left
                              · simp only [Act.put, List.setIfInBounds_toArray, List.set_cons_zero, List.set_cons_succ, i64_w, i32_w]
                                rfl
                              refine pure_ (i := 3) (N := some 86) (v := ?_) (a' := ?_) #[true, true, true, true, false, false, false, false, false, false, false, false, false, false, false, false, false, false] rfl rfl (any_of HT_.out (by kernel_rfl)) (fun _ _ _ h => h) (Or.inl ⟨by rfl, ?_⟩) ?_ ?_
                              rotate_left
                              · intro w'
                                go_simp
                                with_reducible rfl
                              rotate_left
                              · simp only [Act.put, List.setIfInBounds_toArray, List.set_cons_zero, List.set_cons_succ, i64_w, i32_w]
                                rfl
                              refine pure_ (i := 4) (N := some 87) (v := ?_) (a' := ?_) #[true, true, true, true, true, false, false, false, false, false, false, false, false, false, false, false, false, false] rfl rfl (any_of HT_.out (by kernel_rfl)) (fun _ _ _ h => h) (Or.inl ⟨by rfl, ?_⟩) ?_ ?_
                              rotate_left
                              · intro w'
                                go_simp
                                with_reducible rfl
                              rotate_left
                              · simp only [Act.put, List.setIfInBounds_toArray, List.set_cons_zero, List.set_cons_succ, i64_w, i32_w]
                                rfl
                              refine pure_ (i := 7) (N := some 90) (v := ?_) (a' := ?_) #[true, true, true, true, true, false, false, true, false, false, false, false, false, false, false, false, false, false] rfl rfl (any_of HT_.out (by kernel_rfl)) (fun _ _ _ h => h) (Or.inl ⟨by rfl, ?_⟩) ?_ ?_
                              rotate_left
                              · intro w'
                                go_simp
                                with_reducible rfl
                              rotate_left
                              · simp only [Act.put, List.setIfInBounds_toArray, List.set_cons_zero, List.set_cons_succ, i64_w, i32_w]
                                rfl
                              refine take_ (i := 5) (N := some 88) (v := ?_) (a' := ?_) #[true, true, true, true, true, true, false, true, false, false, false, false, false, false, false, false, false, false] rfl rfl (take_ofW HT_.out HW_.out (by kernel_rfl)) (fun _ _ _ h => h) (Or.inl ⟨by rfl, ?_⟩) hHeld ?_ ?_
                              rotate_left
                              · rintro w' ⟨s0, s1, s2, s3⟩
                                go_simp
                                with_reducible rfl
                              rotate_left
                              · simp only [Act.put, List.setIfInBounds_toArray, List.set_cons_zero, List.set_cons_succ, i64_w, i32_w]
                                rfl
                              refine pure_ (i := 6) (N := some 89) (v := ?_) (a' := ?_) #[true, true, true, true, true, true, true, true, false, false, false, false, false, false, false, false, false, false] rfl rfl (any_of HT_.out (by kernel_rfl)) (fun _ _ _ h => h) (Or.inl ⟨by rfl, ?_⟩) ?_ ?_
                              rotate_left
                              · intro w'
                                go_simp
                                with_reducible rfl
                              rotate_left
                              · simp only [Act.put, List.setIfInBounds_toArray, List.set_cons_zero, List.set_cons_succ, i64_w, i32_w]
                                rfl
                              refine take_ (i := 8) (N := some 91) (v := ?_) (a' := ?_) #[true, true, true, true, true, true, true, true, true, false, false, false, false, false, false, false, false, false] rfl rfl (take_ofW HT_.out HW_.out (by kernel_rfl)) (fun _ _ _ h => h) (Or.inl ⟨by rfl, ?_⟩) hHeld ?_ ?_
                              rotate_left
                              · rintro w' ⟨s0, s1, s2, s3⟩
                                go_simp
                                with_reducible rfl
                              rotate_left
                              · simp only [Act.put, List.setIfInBounds_toArray, List.set_cons_zero, List.set_cons_succ, i64_w, i32_w]
                                rfl
                              refine pure_ (i := 9) (N := some 92) (v := ?_) (a' := ?_) #[true, true, true, true, true, true, true, true, true, true, false, false, false, false, false, false, false, false] rfl rfl (any_of HT_.out (by kernel_rfl)) (fun _ _ _ h => h) (Or.inl ⟨by rfl, ?_⟩) ?_ ?_
                              rotate_left
                              · intro w'
                                go_simp
                                with_reducible rfl
                              rotate_left
                              · simp only [Act.put, List.setIfInBounds_toArray, List.set_cons_zero, List.set_cons_succ, i64_w, i32_w]
                                rfl
                              refine one_ (i := 10) (N := some 93) #[true, true, true, true, true, true, true, true, true, true, true, false, false, false, false, false, false, false] rfl rfl (one_of HT_.out (by kernel_rfl)) (by decide) (fun K hK => ?_)
                              refine goes_ Try.func20 (by kernel_rfl) rfl #[.slice A36 y290.length c36, .slice A1 l1.length c1, .int .i64 (wrap64 (a2_0)), .int .i64 (wrap64 (a2_1))] (by rfl) rfl rfl (by (try simp only [List.map_toArray, List.map_cons, List.map_nil]); first | done | rfl | (simp only [List.length_drop, List.length_take]; rfl)) ?_
                              with_reducible refine (grant_Serve.calls k3 _ _ y290 _ _ l1 (wrap64 (a2_0)) (wrap64 (a2_1)) t294 t295 t296 _ ?side1 ?side2 ?side3 ?side4 A31.out).mono ?_
                              (case side1 => repeat (first | exact (Kd.C_below HR293.out HB.out) | (with_reducible refine Kd.C_alloc ?_ _) | (with_reducible refine Kd.C_drewN ?_ _) | (with_reducible refine Kd.C_drew ?_)))
                              (case side2 => exact HC293.out)
                              (case side3 => repeat (first | exact (Kd.C_below HR1.out HB.out) | (with_reducible refine Kd.C_alloc ?_ _) | (with_reducible refine Kd.C_drewN ?_ _) | (with_reducible refine Kd.C_drew ?_)))
                              (case side4 => exact HC1.out)
                              rintro e w37 ⟨v297, rfl, ho0, hb⟩
                              refine ⟨_, rfl, ?_⟩
                              have n0_ := Aside0.mk (Kd.R_lower ho0 (below_size (by repeat (first | (with_reducible first | exact HB.out | apply below_alloc | apply pw_below_drewN | apply below_drew1 | refine below_set ?_ GE275.out) | exact HB.out))))
                              have n1_ := Aside0.mk (blk_below (g := gb275) (o := .cells #[.int .u16 a2_0, .int .u16 a2_1, .int .u16 a2_2, .int .u16 a2_3] 55 (0, 0)) (by (with_reducible repeat (first | refine blk_drewN ?_ _ | refine blk_drew ?_ | refine blk_alloc ?_ _)); exact BK275.out) hb)
                              have n2_ := Aside0.mk (below_step (by repeat (first | (with_reducible first | exact HB.out | apply below_alloc | apply pw_below_drewN | apply below_drew1 | refine below_set ?_ GE275.out) | exact HB.out)) hb)
                              clear BK275
                              clear HB
                              have HO298 := n0_
                              have BK275 := n1_
                              have HB := n2_
                              clear n0_ n1_ n2_
                              (try clear hb)
                              (try clear hb2)
                              (try clear hk)
                              (try clear hi)
                              (try clear ho0)
                              refine hK.out _ _ ⟨(blk_cell BK275.out 0).trans rfl, (blk_cell BK275.out 1).trans rfl, (blk_cell BK275.out 2).trans rfl, (blk_cell BK275.out 3).trans rfl⟩ (fun hHeld => ?_)
                              clear hK K
                              refine norm_ (a' := ?_) ?_ ?_
                              rotate_left
                              · show Act.put _ (some 93) _ = _
                                simp only [Act.put, List.setIfInBounds_toArray, List.set_cons_zero, List.set_cons_succ, i64_w, i32_w]
                                rfl
                              refine pure_ (i := 11) (N := some 82) (v := ?_) (a' := ?_) #[true, true, true, true, true, true, true, true, true, true, true, true, false, false, false, false, false, false] rfl rfl (any_of HT_.out (by kernel_rfl)) (fun _ _ _ h => h) (Or.inl ⟨by rfl, ?_⟩) ?_ ?_
                              rotate_left
                              · intro w'
                                go_simp
                                with_reducible rfl
                              rotate_left
                              · simp only [Act.put, List.setIfInBounds_toArray, List.set_cons_zero, List.set_cons_succ, i64_w, i32_w]
                                rfl
                              refine pure_ (i := 12) (N := some 94) (v := ?_) (a' := ?_) #[true, true, true, true, true, true, true, true, true, true, true, true, true, false, false, false, false, false] rfl rfl (any_of HT_.out (by kernel_rfl)) (fun _ _ _ h => h) (Or.inl ⟨by rfl, ?_⟩) ?_ ?_
                              rotate_left
                              · intro w'
                                go_simp
                                with_reducible rfl
                              rotate_left
                              · simp only [Act.put, List.setIfInBounds_toArray, List.set_cons_zero, List.set_cons_succ, i64_w, i32_w]
                                rfl
                              refine pure_ (i := 13) (N := some 95) (v := ?_) (a' := ?_) #[true, true, true, true, true, true, true, true, true, true, true, true, true, true, false, false, false, false] rfl rfl (any_of HT_.out (by kernel_rfl)) (fun _ _ _ h => h) (Or.inl ⟨by rfl, ?_⟩) ?_ ?_
                              rotate_left
                              · intro w'
                                go_simp
                                with_reducible rfl
                              rotate_left
                              · simp only [Act.put, List.setIfInBounds_toArray, List.set_cons_zero, List.set_cons_succ, i64_w, i32_w]
                                rfl
                              refine pure_ (i := 14) (N := some 96) (v := ?_) (a' := ?_) #[true, true, true, true, true, true, true, true, true, true, true, true, true, true, true, false, false, false] rfl rfl (any_of HT_.out (by kernel_rfl)) (fun _ _ _ h => h) (Or.inl ⟨by rfl, ?_⟩) ?_ ?_
                              rotate_left
                              · intro w'
                                go_simp
                                with_reducible rfl
                              rotate_left
                              · simp only [Act.put, List.setIfInBounds_toArray, List.set_cons_zero, List.set_cons_succ, i64_w, i32_w]
                                rfl
                              refine pure_ (i := 15) (N := some 14) (v := ?_) (a' := ?_) #[true, true, true, true, true, true, true, true, true, true, true, true, true, true, true, true, false, false] rfl rfl (any_of HT_.out (by kernel_rfl)) (fun _ _ _ h => h) (Or.inl ⟨by rfl, ?_⟩) ?_ ?_
                              rotate_left
                              · intro w'
                                go_simp
                                with_reducible rfl
                              rotate_left
                              · simp only [Act.put, List.setIfInBounds_toArray, List.set_cons_zero, List.set_cons_succ, i64_w, i32_w]
                                rfl
                              refine pure_ (i := 16) (N := some 15) (v := ?_) (a' := ?_) #[true, true, true, true, true, true, true, true, true, true, true, true, true, true, true, true, true, false] rfl rfl (any_of HT_.out (by kernel_rfl)) (fun _ _ _ h => h) (Or.inl ⟨by rfl, ?_⟩) ?_ ?_
                              rotate_left
                              · intro w'
                                go_simp
                                with_reducible rfl
                              rotate_left
                              · simp only [Act.put, List.setIfInBounds_toArray, List.set_cons_zero, List.set_cons_succ, i64_w, i32_w]
                                rfl
                              refine pure_ (i := 17) (N := some 16) (v := ?_) (a' := ?_) #[true, true, true, true, true, true, true, true, true, true, true, true, true, true, true, true, true, true] rfl rfl (any_of HT_.out (by kernel_rfl)) (fun _ _ _ h => h) (Or.inl ⟨by rfl, ?_⟩) ?_ ?_
                              rotate_left
                              · intro w'
                                go_simp
                                with_reducible rfl
                              rotate_left
                              · simp only [Act.put, List.setIfInBounds_toArray, List.set_cons_zero, List.set_cons_succ, i64_w, i32_w]
                                rfl
                              refine done_ (done_of HT_.out (by kernel_rfl)) ?_
                              try go_wp2
                              go_roundg k3
                              case measure => have := HJ3.out; have := HJ19.out; have := HK3.out; omega
                              case rel => exact ⟨(wrap64 (x79_3 + 1)), (by first | rfl | (simp; done) | (simp [*]; done)), H', ⟨by have := HJ3.out; have := HJ19.out; have := HK3.out; omega⟩, ⟨by (with_reducible repeat (first | refine blk_drewN ?_ _ | refine blk_drew ?_ | refine blk_alloc ?_ _)); exact BK275.out⟩, ⟨by repeat (first | (with_reducible first | exact HB.out | apply below_alloc | apply pw_below_drewN | apply below_drew1 | refine below_set ?_ GE275.out) | exact HB.out)⟩⟩
                          · rw [if_neg c33] at H
                            have c33b0 : decide (x79_3 < t280) = false := decide_eq_false c33
                            clear c33
                            have H' := Aside0.mk H
                            clear H
                            try go_wp2
                            have n0_ := Aside0.mk (blk_drew BK275.out)
                            have n1_ := Aside0.mk (below_drew1 HB.out)
                            clear BK275
                            clear HB
                            have BK275 := n0_
                            have HB := n1_
                            clear n0_ n1_
                            have q39 : (x79_3 : Int) ≤ ((l0.length : Int) : Int) := of_decide_eq_true (by first | (with_reducible assumption) | assumption)
                            obtain ⟨i039, hi039, _, hsz39, _⟩ := info_parts info37
                            have hroom39 : l0.length ≤ c0 := HC0.out
                            have hC39 : Kd.C k37 _ A0 l0.length l0 := HR0.out
                            have q039 : (0 : Int) ≤ (x79_3 : Int) := of_decide_eq_true (by first | (with_reducible assumption) | assumption)
                            have hcut39 := cut_from (P := Try.prog) 29 37 .i64 Try.underlying29 hi039 4 hsz39 A0 l0.length c0 x79_3 q039 q39
                            have hr39 := Kd.C_drop (m := (x79_3 : Int).toNat) (c := c0) hC39 (by omega) hroom39
                            obtain ⟨A39, hA39⟩ : ∃ A1, A1 = (if c0 = (x79_3 : Int).toNat then A0 else (A0 : Option Addr).map (·.add ((x79_3 : Int).toNat * 4))) := ⟨_, rfl⟩
                            obtain ⟨c39, hc39⟩ : ∃ c1, c1 = c0 - (x79_3 : Int).toNat := ⟨_, rfl⟩
                            have hy39 : y290.length = l0.length - (x79_3 : Int).toNat := (by rw [Ny290.out, List.length_drop] <;> omega)
                            rw [show (l0).drop (x79_3 : Int).toNat = y290 from Ny290.out.symm] at hr39
                            replace hr39 : Kd.C k37 _ A39 y290.length y290 := (by rw [hA39]; exact hr39)
                            rw [← hy39, ← hA39, ← hc39] at hcut39
                            have HR293 := Aside0.mk hr39
                            have HC293 := Aside0.mk (show y290.length ≤ c39 from by rw [hy39, hc39]; exact Nat.sub_le_sub_right hroom39 _)
                            clear hr39 hC39 hroom39 hi039 hsz39 hc39
                            have KY39 := Aside0.mk hy39
                            have KA39 := Aside0.mk hA39
                            clear hy39 hA39
                            replace q39 := eq_true q39
                            refine start_ (n := 18) (S := fun w' => w'.cell? ⟨gb275, 0, none⟩ = some (.int .u16 a2_0) ∧ w'.cell? ⟨gb275, 1, none⟩ = some (.int .u16 a2_1) ∧ w'.cell? ⟨gb275, 2, none⟩ = some (.int .u16 a2_2) ∧ w'.cell? ⟨gb275, 3, none⟩ = some (.int .u16 a2_3)) (ds := []) #[false, false, false, false, false, false, false, false, false, false, false, false, false, false, false, false, false, false] (by kernel_rfl) rfl rfl ⟨(blk_cell BK275.out 0).trans rfl, (blk_cell BK275.out 1).trans rfl, (blk_cell BK275.out 2).trans rfl, (blk_cell BK275.out 3).trans rfl⟩ (fun hHeld => ?_); refine with_tabW estoverslaw21_GrantMore.tab10 estoverslaw21_GrantMore.bits10 (fun HT_ HW_ => ?_)
                            generalize wr.drew = w38 at BK275 HB HR293 hHeld ⊢
                            refine pure_ (i := 0) (N := some 83) (v := ?_) (a' := ?_) #[true, false, false, false, false, false, false, false, false, false, false, false, false, false, false, false, false, false] rfl rfl (any_of HT_.out (by kernel_rfl)) (fun _ _ _ h => h) (Or.inl ⟨by rfl, ?_⟩) ?_ ?_
                            rotate_left
                            · intro w'
                              go_simp
                              with_reducible rfl
                            rotate_left
                            · simp only [Act.put, List.setIfInBounds_toArray, List.set_cons_zero, List.set_cons_succ, i64_w, i32_w]
                              rfl
                            refine pure_ (i := 1) (N := some 84) (v := ?_) (a' := ?_) #[true, true, false, false, false, false, false, false, false, false, false, false, false, false, false, false, false, false] rfl rfl (any_of HT_.out (by kernel_rfl)) (fun _ _ _ h => h) (Or.inl ⟨by rfl, ?_⟩) ?_ ?_
                            rotate_left
                            · intro w'
                              go_simp
                              with_reducible rfl
                            rotate_left
                            · simp only [Act.put, List.setIfInBounds_toArray, List.set_cons_zero, List.set_cons_succ, i64_w, i32_w]
                              rfl
                            refine pure_ (i := 2) (N := some 85) (v := ?_) (a' := ?_) #[true, true, true, false, false, false, false, false, false, false, false, false, false, false, false, false, false, false] rfl rfl (any_of HT_.out (by kernel_rfl)) (fun _ _ _ h => h) (Or.inl ⟨by rfl, ?_⟩) ?_ ?_
                            rotate_left
                            · intro w'
                              go_simp
                              with_reducible rfl
                            rotate_left
                            · simp only [Act.put, List.setIfInBounds_toArray, List.set_cons_zero, List.set_cons_succ, i64_w, i32_w]
                              rfl
                            refine pure_ (i := 3) (N := some 86) (v := ?_) (a' := ?_) #[true, true, true, true, false, false, false, false, false, false, false, false, false, false, false, false, false, false] rfl rfl (any_of HT_.out (by kernel_rfl)) (fun _ _ _ h => h) (Or.inl ⟨by rfl, ?_⟩) ?_ ?_
                            rotate_left
                            · intro w'
                              go_simp
                              with_reducible rfl
                            rotate_left
                            · simp only [Act.put, List.setIfInBounds_toArray, List.set_cons_zero, List.set_cons_succ, i64_w, i32_w]
                              rfl
                            refine pure_ (i := 4) (N := some 87) (v := ?_) (a' := ?_) #[true, true, true, true, true, false, false, false, false, false, false, false, false, false, false, false, false, false] rfl rfl (any_of HT_.out (by kernel_rfl)) (fun _ _ _ h => h) (Or.inl ⟨by rfl, ?_⟩) ?_ ?_
                            rotate_left
                            · intro w'
                              go_simp
                              with_reducible rfl
                            rotate_left
                            · simp only [Act.put, List.setIfInBounds_toArray, List.set_cons_zero, List.set_cons_succ, i64_w, i32_w]
                              rfl
                            refine pure_ (i := 7) (N := some 90) (v := ?_) (a' := ?_) #[true, true, true, true, true, false, false, true, false, false, false, false, false, false, false, false, false, false] rfl rfl (any_of HT_.out (by kernel_rfl)) (fun _ _ _ h => h) (Or.inl ⟨by rfl, ?_⟩) ?_ ?_
                            rotate_left
                            · intro w'
                              go_simp
                              with_reducible rfl
                            rotate_left
                            · simp only [Act.put, List.setIfInBounds_toArray, List.set_cons_zero, List.set_cons_succ, i64_w, i32_w]
                              rfl
                            refine take_ (i := 5) (N := some 88) (v := ?_) (a' := ?_) #[true, true, true, true, true, true, false, true, false, false, false, false, false, false, false, false, false, false] rfl rfl (take_ofW HT_.out HW_.out (by kernel_rfl)) (fun _ _ _ h => h) (Or.inl ⟨by rfl, ?_⟩) hHeld ?_ ?_
                            rotate_left
                            · rintro w' ⟨s0, s1, s2, s3⟩
                              go_simp
                              with_reducible rfl
                            rotate_left
                            · simp only [Act.put, List.setIfInBounds_toArray, List.set_cons_zero, List.set_cons_succ, i64_w, i32_w]
                              rfl
                            refine pure_ (i := 6) (N := some 89) (v := ?_) (a' := ?_) #[true, true, true, true, true, true, true, true, false, false, false, false, false, false, false, false, false, false] rfl rfl (any_of HT_.out (by kernel_rfl)) (fun _ _ _ h => h) (Or.inl ⟨by rfl, ?_⟩) ?_ ?_
                            rotate_left
                            · intro w'
                              go_simp
                              with_reducible rfl
                            rotate_left
                            · simp only [Act.put, List.setIfInBounds_toArray, List.set_cons_zero, List.set_cons_succ, i64_w, i32_w]
                              rfl
                            refine take_ (i := 8) (N := some 91) (v := ?_) (a' := ?_) #[true, true, true, true, true, true, true, true, true, false, false, false, false, false, false, false, false, false] rfl rfl (take_ofW HT_.out HW_.out (by kernel_rfl)) (fun _ _ _ h => h) (Or.inl ⟨by rfl, ?_⟩) hHeld ?_ ?_
                            rotate_left
                            · rintro w' ⟨s0, s1, s2, s3⟩
                              go_simp
                              with_reducible rfl
                            rotate_left
                            · simp only [Act.put, List.setIfInBounds_toArray, List.set_cons_zero, List.set_cons_succ, i64_w, i32_w]
                              rfl
                            refine pure_ (i := 9) (N := some 92) (v := ?_) (a' := ?_) #[true, true, true, true, true, true, true, true, true, true, false, false, false, false, false, false, false, false] rfl rfl (any_of HT_.out (by kernel_rfl)) (fun _ _ _ h => h) (Or.inl ⟨by rfl, ?_⟩) ?_ ?_
                            rotate_left
                            · intro w'
                              go_simp
                              with_reducible rfl
                            rotate_left
                            · simp only [Act.put, List.setIfInBounds_toArray, List.set_cons_zero, List.set_cons_succ, i64_w, i32_w]
                              rfl
                            refine one_ (i := 10) (N := some 93) #[true, true, true, true, true, true, true, true, true, true, true, false, false, false, false, false, false, false] rfl rfl (one_of HT_.out (by kernel_rfl)) (by decide) (fun K hK => ?_)
                            refine goes_ Try.func20 (by kernel_rfl) rfl #[.slice A39 y290.length c39, .slice A1 l1.length c1, .int .i64 (wrap64 (a2_0)), .int .i64 (wrap64 (a2_1))] (by rfl) rfl rfl (by (try simp only [List.map_toArray, List.map_cons, List.map_nil]); first | done | rfl | (simp only [List.length_drop, List.length_take]; rfl)) ?_
                            with_reducible refine (grant_Serve.calls k3 _ _ y290 _ _ l1 (wrap64 (a2_0)) (wrap64 (a2_1)) t294 t295 t296 _ ?side1 ?side2 ?side3 ?side4 A31.out).mono ?_
                            (case side1 => repeat (first | exact (Kd.C_below HR293.out HB.out) | (with_reducible refine Kd.C_alloc ?_ _) | (with_reducible refine Kd.C_drewN ?_ _) | (with_reducible refine Kd.C_drew ?_)))
                            (case side2 => exact HC293.out)
                            (case side3 => repeat (first | exact (Kd.C_below HR1.out HB.out) | (with_reducible refine Kd.C_alloc ?_ _) | (with_reducible refine Kd.C_drewN ?_ _) | (with_reducible refine Kd.C_drew ?_)))
                            (case side4 => exact HC1.out)
                            rintro e w40 ⟨v297, rfl, ho0, hb⟩
                            refine ⟨_, rfl, ?_⟩
                            have n0_ := Aside0.mk (Kd.R_lower ho0 (below_size (by repeat (first | (with_reducible first | exact HB.out | apply below_alloc | apply pw_below_drewN | apply below_drew1 | refine below_set ?_ GE275.out) | exact HB.out))))
                            have n1_ := Aside0.mk (blk_below (g := gb275) (o := .cells #[.int .u16 a2_0, .int .u16 a2_1, .int .u16 a2_2, .int .u16 a2_3] 55 (0, 0)) (by (with_reducible repeat (first | refine blk_drewN ?_ _ | refine blk_drew ?_ | refine blk_alloc ?_ _)); exact BK275.out) hb)
                            have n2_ := Aside0.mk (below_step (by repeat (first | (with_reducible first | exact HB.out | apply below_alloc | apply pw_below_drewN | apply below_drew1 | refine below_set ?_ GE275.out) | exact HB.out)) hb)
                            clear BK275
                            clear HB
                            have HO298 := n0_
                            have BK275 := n1_
                            have HB := n2_
                            clear n0_ n1_ n2_
                            (try clear hb)
                            (try clear hb2)
                            (try clear hk)
                            (try clear hi)
                            (try clear ho0)
                            refine hK.out _ _ ⟨(blk_cell BK275.out 0).trans rfl, (blk_cell BK275.out 1).trans rfl, (blk_cell BK275.out 2).trans rfl, (blk_cell BK275.out 3).trans rfl⟩ (fun hHeld => ?_)
                            clear hK K
                            refine norm_ (a' := ?_) ?_ ?_
                            rotate_left
                            · show Act.put _ (some 93) _ = _
                              simp only [Act.put, List.setIfInBounds_toArray, List.set_cons_zero, List.set_cons_succ, i64_w, i32_w]
                              rfl
                            refine pure_ (i := 11) (N := some 82) (v := ?_) (a' := ?_) #[true, true, true, true, true, true, true, true, true, true, true, true, false, false, false, false, false, false] rfl rfl (any_of HT_.out (by kernel_rfl)) (fun _ _ _ h => h) (Or.inl ⟨by rfl, ?_⟩) ?_ ?_
                            rotate_left
                            · intro w'
                              go_simp
                              with_reducible rfl
                            rotate_left
                            · simp only [Act.put, List.setIfInBounds_toArray, List.set_cons_zero, List.set_cons_succ, i64_w, i32_w]
                              rfl
                            refine pure_ (i := 12) (N := some 94) (v := ?_) (a' := ?_) #[true, true, true, true, true, true, true, true, true, true, true, true, true, false, false, false, false, false] rfl rfl (any_of HT_.out (by kernel_rfl)) (fun _ _ _ h => h) (Or.inl ⟨by rfl, ?_⟩) ?_ ?_
                            rotate_left
                            · intro w'
                              go_simp
                              with_reducible rfl
                            rotate_left
                            · simp only [Act.put, List.setIfInBounds_toArray, List.set_cons_zero, List.set_cons_succ, i64_w, i32_w]
                              rfl
                            refine pure_ (i := 13) (N := some 95) (v := ?_) (a' := ?_) #[true, true, true, true, true, true, true, true, true, true, true, true, true, true, false, false, false, false] rfl rfl (any_of HT_.out (by kernel_rfl)) (fun _ _ _ h => h) (Or.inl ⟨by rfl, ?_⟩) ?_ ?_
                            rotate_left
                            · intro w'
                              go_simp
                              with_reducible rfl
                            rotate_left
                            · simp only [Act.put, List.setIfInBounds_toArray, List.set_cons_zero, List.set_cons_succ, i64_w, i32_w]
                              rfl
                            refine pure_ (i := 14) (N := some 96) (v := ?_) (a' := ?_) #[true, true, true, true, true, true, true, true, true, true, true, true, true, true, true, false, false, false] rfl rfl (any_of HT_.out (by kernel_rfl)) (fun _ _ _ h => h) (Or.inl ⟨by rfl, ?_⟩) ?_ ?_
                            rotate_left
                            · intro w'
                              go_simp
                              with_reducible rfl
                            rotate_left
                            · simp only [Act.put, List.setIfInBounds_toArray, List.set_cons_zero, List.set_cons_succ, i64_w, i32_w]
                              rfl
                            refine pure_ (i := 15) (N := some 14) (v := ?_) (a' := ?_) #[true, true, true, true, true, true, true, true, true, true, true, true, true, true, true, true, false, false] rfl rfl (any_of HT_.out (by kernel_rfl)) (fun _ _ _ h => h) (Or.inl ⟨by rfl, ?_⟩) ?_ ?_
                            rotate_left
                            · intro w'
                              go_simp
                              with_reducible rfl
                            rotate_left
                            · simp only [Act.put, List.setIfInBounds_toArray, List.set_cons_zero, List.set_cons_succ, i64_w, i32_w]
                              rfl
                            refine pure_ (i := 16) (N := some 15) (v := ?_) (a' := ?_) #[true, true, true, true, true, true, true, true, true, true, true, true, true, true, true, true, true, false] rfl rfl (any_of HT_.out (by kernel_rfl)) (fun _ _ _ h => h) (Or.inl ⟨by rfl, ?_⟩) ?_ ?_
                            rotate_left
                            · intro w'
                              go_simp
                              with_reducible rfl
                            rotate_left
                            · simp only [Act.put, List.setIfInBounds_toArray, List.set_cons_zero, List.set_cons_succ, i64_w, i32_w]
                              rfl
                            refine pure_ (i := 17) (N := some 16) (v := ?_) (a' := ?_) #[true, true, true, true, true, true, true, true, true, true, true, true, true, true, true, true, true, true] rfl rfl (any_of HT_.out (by kernel_rfl)) (fun _ _ _ h => h) (Or.inl ⟨by rfl, ?_⟩) ?_ ?_
                            rotate_left
                            · intro w'
                              go_simp
                              with_reducible rfl
                            rotate_left
                            · simp only [Act.put, List.setIfInBounds_toArray, List.set_cons_zero, List.set_cons_succ, i64_w, i32_w]
                              rfl
                            refine done_ (done_of HT_.out (by kernel_rfl)) ?_
                            try go_wp2
                            go_roundg k3
                            case measure => have := HJ3.out; have := HJ19.out; have := HK3.out; omega
                            case rel => exact ⟨(wrap64 (x79_3 + 1)), (by first | rfl | (simp; done) | (simp [*]; done)), H', ⟨by have := HJ3.out; have := HJ19.out; have := HK3.out; omega⟩, ⟨by (with_reducible repeat (first | refine blk_drewN ?_ _ | refine blk_drew ?_ | refine blk_alloc ?_ _)); exact BK275.out⟩, ⟨by repeat (first | (with_reducible first | exact HB.out | apply below_alloc | apply pw_below_drewN | apply below_drew1 | refine below_set ?_ GE275.out) | exact HB.out)⟩⟩
                        · rw [if_neg c32] at H
                          exact absurd H (by simp)
                      · rw [if_neg c30] at H
                        exact absurd H (by simp)
                    · rw [if_neg c29] at H
                      exact absurd H (by simp)
                  · rw [if_neg c28] at H
                    have c28b0 : decide (x79_3 < (l0.length : Int)) = false := decide_eq_false c28
                    clear c28
                    obtain rfl := Option.some.inj H
                    go_wp2
                    go_ret
                    exact ⟨by first | rfl | (simp [errW_none, errW_some] <;> rfl) | (simp [*, errW_none, errW_some] <;> rfl), by repeat (first | (with_reducible first | exact HB.out | apply below_alloc | apply pw_below_drewN | apply below_drew1 | refine below_set ?_ GE275.out) | exact HB.out)⟩

end Go.Proofs.Ytimlodcdfekbhaa.PGrantMore
