-- Printed by a copy of the kit's printer that this session has patched (wip/tools/patch_print.py): the session's own text. Lean checks it.
import Derived.Test.YtimlodcdfekbhaaPGrantServesx0
import Derived.Test.YtimlodcdfekbhaaPGrantServesx8
import Derived.Test.YtimlodcdfekbhaaPGrantServesx10
namespace Go.Proofs.Ytimlodcdfekbhaa.PGrantServes
open Go.RowKit Go.Proofs.YtimlodcdfekbhaaW.PrintWords Go.Proofs.YtimlodcdfekbhaaW.PrintLast Go.Proofs.YtimlodcdfekbhaaW.PrintMore
attribute [local go_sem] max2_int min2_int max_two min_two max_three min_three max_four min_four   -- for this text's walks alone
set_option linter.unusedVariables false
set_option linter.unusedSimpArgs false
def estoversref21_at.l0 : Nat → List (S37) → Int → Int → Option (Int)
 | 0, _, _, _ => none
 | k + 1, x0, x1, x5 => if x5 < (x0.length : Int) then (if 0 ≤ x5 then (if ((rd_T37 x0 x5).f0) = x1 then (some x5) else (estoversref21_at.l0 k x0 x1 (wrap64 (x5 + 1)))) else (none)) else (some (-1))
def estoversref21_at.f (k : Nat) (l0 : List (S37)) (a1 : Int) : Option (Int) := estoversref21_at.l0 k l0 a1 0
theorem estoversref21_at.mono_l : ∀ k, (∀ y0 y1 y2, LeO (estoversref21_at.l0 k y0 y1 y2) (estoversref21_at.l0 (k + 1) y0 y1 y2))
 | 0 => fun _ _ _ r h => by simp [estoversref21_at.l0] at h
 | k + 1 => by
  have ih0 := estoversref21_at.mono_l k
  ·intro y0 y1 y2
   unfold estoversref21_at.l0
   repeat' first
   | (with_reducible exact ih0 _ _ _)
   | (with_reducible exact LeO.refl _)
   | (with_reducible exact LeO.none _)
   | (with_reducible refine LeO.ite ?_ ?_)
   | (with_reducible refine LeO.bind ?_ (fun _ => ?_))
   | exact ih0 _ _ _
   | exact LeO.none _
   | refine LeO.ite ?_ ?_
   | refine LeO.bind ?_ (fun _ => ?_)
theorem estoversref21_at.mono : ∀ a0 a1 k, LeO (estoversref21_at.f k a0 a1) (estoversref21_at.f (k + 1) a0 a1) := by
 intro a0 a1 k
 have ih0 := estoversref21_at.mono_l k
 unfold estoversref21_at.f
 repeat' first
   | (with_reducible exact ih0 _ _ _)
   | (with_reducible exact LeO.refl _)
   | (with_reducible exact LeO.none _)
   | (with_reducible refine LeO.ite ?_ ?_)
   | (with_reducible refine LeO.bind ?_ (fun _ => ?_))
   | exact ih0 _ _ _
   | exact LeO.none _
   | refine LeO.ite ?_ ?_
   | refine LeO.bind ?_ (fun _ => ?_)
set_option maxHeartbeats 8000000 in
set_option maxRecDepth 100000 in
theorem estoversref21_at.calls (k : Nat) (A0 : Option Addr) (c0 : Nat) (l0 : List (S37)) (a1 : Int) (r : Int) (w : World) (hr0 : Kd.C k37 w A0 l0.length l0) (hc0 : l0.length ≤ c0) (h : estoversref21_at.f k l0 a1 = some r) :
  Calls Try.prog 55 #[.slice A0 l0.length c0, .int .i64 a1] w fun e w' => e = .returned (.int .i64 r) ∧ Drawn0 w w' := by
 have HR0 := zM hr0
 have HC0 := zM hc0
 clear hr0 hc0
 have H : (estoversref21_at.l0 k l0 a1 0) = some r := h
 clear h
 have H' := zM H
 clear H
 go_enter Try.func55, Try.ntmps55
 go_wp2
 go_loopg [5] k (fun kq v5 w' => ∃ (x5_1 : Int), v5 = .int .i64 x5_1 ∧ Aside0 (estoversref21_at.l0 kq l0 a1 x5_1 = some r) ∧ Aside0 (kq ≤ k) ∧ Drawn0 w w')
 case atStart => exact ⟨(0), (by first | rfl | (simp; done) | (simp [*]; done)), H', ⟨Nat.le_refl _⟩, by repeat (first | exact Drawn0.refl _ | apply Drawn0.step)⟩
 case round =>
  clear H'
  try clear p2
  obtain ⟨x5_1, rfl, HA, HK1, ⟨m1, rfl⟩⟩ := hrel
  cases gk with
  | zero => exact absurd HA.1 (by simp [estoversref21_at.l0])
  | succ k1 =>
   have H := HA.1
   clear HA
   simp only [estoversref21_at.l0] at H
   by_cases c3 : x5_1 < (l0.length : Int)
   ·rw [if_pos c3] at H
    have c3b0 : decide (x5_1 < (l0.length : Int)) = true := decide_eq_true c3
    clear c3
    by_cases c4 : 0 ≤ x5_1
    ·rw [if_pos c4] at H
     have c4b0 : decide (0 ≤ x5_1) = true := decide_eq_true c4
     clear c4
     by_cases c5 : ((rd_T37 l0 x5_1).f0) = a1
     ·rw [if_pos c5] at H
      have c5b0 : (((rd_T37 l0 x5_1).f0) == a1) = true := beq_iff_eq.mpr c5
      have c5b1 : (((rd_T37 l0 x5_1).f0) != a1) = false := bne_eq_false_iff_eq.mpr c5
      clear c5
      obtain rfl := Option.some.inj H
      have p316 : 0 ≤ (x5_1 : Int) := zo (by first | (with_reducible assumption) | assumption)
      have q316 : x5_1 < (l0.length : Int) := zo (by first | (with_reducible assumption) | assumption)
      obtain ⟨ad316, e316, hx316_0, hx316_1, hx316_2, hx316_3⟩ := at_T37 HR0.1 x5_1 p316 q316
      cases e316
      replace p316 := eq_true p316
      replace q316 := eq_true q316
      go_wp2
      go_ret
      exact ⟨by first | rfl | (simp; done) | (simp [*]; done), by repeat (first | exact Drawn0.refl _ | apply Drawn0.step)⟩
     ·rw [if_neg c5] at H
      have c5b0 : (((rd_T37 l0 x5_1).f0) == a1) = false := beq_eq_false_iff_ne.mpr c5
      have c5b1 : (((rd_T37 l0 x5_1).f0) != a1) = true := bne_iff_ne.mpr c5
      have H' := zM H
      clear H
      have p316 : 0 ≤ (x5_1 : Int) := zo (by first | (with_reducible assumption) | assumption)
      have q316 : x5_1 < (l0.length : Int) := zo (by first | (with_reducible assumption) | assumption)
      obtain ⟨ad316, e316, hx316_0, hx316_1, hx316_2, hx316_3⟩ := at_T37 HR0.1 x5_1 p316 q316
      cases e316
      replace p316 := eq_true p316
      replace q316 := eq_true q316
      go_wp2
      go_roundg k1
      case measure => have := HK1.1; omega
      case rel => exact ⟨(wrap64 (x5_1 + 1)), (by first | rfl | (simp; done) | (simp [*]; done)), H', ⟨by have := HK1.1; omega⟩, by repeat (first | exact Drawn0.refl _ | apply Drawn0.step)⟩
    ·rw [if_neg c4] at H
     exact absurd H (by simp)
   ·rw [if_neg c3] at H
    have c3b0 : decide (x5_1 < (l0.length : Int)) = false := decide_eq_false c3
    clear c3
    obtain rfl := Option.some.inj H
    go_wp2
    go_ret
    exact ⟨by first | rfl | (simp; done) | (simp [*]; done), by repeat (first | exact Drawn0.refl _ | apply Drawn0.step)⟩
mutual
def estoversref21_Check.l0 : Nat → List (S37) → Int → Option (Int)
 | 0, _, _ => none
 | k + 1, x0, x3 => if x3 < (x0.length : Int) then (if 0 ≤ x3 then ((estoversref21_Valid.f ((rd_T37 x0 x3).f0) ((rd_T37 x0 x3).f1) ((rd_T37 x0 x3).f2) ((rd_T37 x0 x3).f3)).bind fun t318 => (if t318 = true then (estoversref21_Check.l0 k x0 (wrap64 (x3 + 1))) else (some 2))) else (none)) else (estoversref21_Check.l1 k x0 0)
def estoversref21_Check.l1 : Nat → List (S37) → Int → Option (Int)
 | 0, _, _ => none
 | k + 1, x0, x4 => if x4 < (x0.length : Int) then (if 0 ≤ x4 then ((estoversref21_at.f k x0 ((rd_T37 x0 x4).f0)).bind fun t320 => (if t320 < x4 then (some 7) else (estoversref21_Check.l1 k x0 (wrap64 (x4 + 1))))) else (none)) else (some 0)
end
def estoversref21_Check.f (k : Nat) (l0 : List (S37)) : Option (Int) := estoversref21_Check.l0 k l0 0
theorem estoversref21_Check.mono_l : ∀ k, (∀ y0 y1, LeO (estoversref21_Check.l0 k y0 y1) (estoversref21_Check.l0 (k + 1) y0 y1)) ∧ (∀ y0 y1, LeO (estoversref21_Check.l1 k y0 y1) (estoversref21_Check.l1 (k + 1) y0 y1))
 | 0 => ⟨fun _ _ r h => by simp [estoversref21_Check.l0] at h, fun _ _ r h => by simp [estoversref21_Check.l1] at h⟩
 | k + 1 => by
  obtain ⟨ih0, ih1⟩ := estoversref21_Check.mono_l k
  refine ⟨?_, ?_⟩
  ·intro y0 y1
   unfold estoversref21_Check.l0
   repeat' first
   | (with_reducible exact ih0 _ _)
   | (with_reducible exact ih1 _ _)
   | (with_reducible exact estoversref21_at.mono _ _ _)
   | (with_reducible exact LeO.refl _)
   | (with_reducible exact LeO.none _)
   | (with_reducible refine LeO.ite ?_ ?_)
   | (with_reducible refine LeO.bind ?_ (fun _ => ?_))
   | exact ih0 _ _
   | exact ih1 _ _
   | exact estoversref21_at.mono _ _ _
   | exact LeO.none _
   | refine LeO.ite ?_ ?_
   | refine LeO.bind ?_ (fun _ => ?_)
  ·intro y0 y1
   unfold estoversref21_Check.l1
   repeat' first
   | (with_reducible exact ih0 _ _)
   | (with_reducible exact ih1 _ _)
   | (with_reducible exact estoversref21_at.mono _ _ _)
   | (with_reducible exact LeO.refl _)
   | (with_reducible exact LeO.none _)
   | (with_reducible refine LeO.ite ?_ ?_)
   | (with_reducible refine LeO.bind ?_ (fun _ => ?_))
   | exact ih0 _ _
   | exact ih1 _ _
   | exact estoversref21_at.mono _ _ _
   | exact LeO.none _
   | refine LeO.ite ?_ ?_
   | refine LeO.bind ?_ (fun _ => ?_)
theorem estoversref21_Check.mono : ∀ a0 k, LeO (estoversref21_Check.f k a0) (estoversref21_Check.f (k + 1) a0) := by
 intro a0 k
 obtain ⟨ih0, ih1⟩ := estoversref21_Check.mono_l k
 unfold estoversref21_Check.f
 repeat' first
   | (with_reducible exact ih0 _ _)
   | (with_reducible exact ih1 _ _)
   | (with_reducible exact estoversref21_at.mono _ _ _)
   | (with_reducible exact LeO.refl _)
   | (with_reducible exact LeO.none _)
   | (with_reducible refine LeO.ite ?_ ?_)
   | (with_reducible refine LeO.bind ?_ (fun _ => ?_))
   | exact ih0 _ _
   | exact ih1 _ _
   | exact estoversref21_at.mono _ _ _
   | exact LeO.none _
   | refine LeO.ite ?_ ?_
   | refine LeO.bind ?_ (fun _ => ?_)
set_option maxHeartbeats 8000000 in
set_option maxRecDepth 100000 in
theorem estoversref21_Check.calls (k : Nat) (A0 : Option Addr) (c0 : Nat) (l0 : List (S37)) (r : Int) (w : World) (hr0 : Kd.C k37 w A0 l0.length l0) (hc0 : l0.length ≤ c0) (h : estoversref21_Check.f k l0 = some r) :
  Calls Try.prog 28 #[.slice A0 l0.length c0] w fun e w' => e = .returned (.int .i64 r) ∧ Below w.heap.size w w' := by
 have hu37 := Try.underlying37
 have HR0 := zM hr0
 have HC0 := zM hc0
 clear hr0 hc0
 have HB := zM (Below.refl w.heap.size w)
 have H : (estoversref21_Check.l0 k l0 0) = some r := h
 clear h
 have H' := zM H
 clear H
 go_enter Try.func28, Try.ntmps28
 go_wp2
 go_loopg [3] k (fun kq v3 w' => ∃ (x3_1 : Int), v3 = .int .i64 x3_1 ∧ Aside0 (estoversref21_Check.l0 kq l0 x3_1 = some r) ∧ Aside0 (kq ≤ k) ∧ Aside0 (Below w.heap.size w w'))
 case atStart => exact ⟨(0), (by first | rfl | (simp; done) | (simp [*]; done)), H', ⟨Nat.le_refl _⟩, ⟨by repeat (first | (with_reducible first | exact HB.1 | apply zA | apply zN | apply zD) | exact HB.1)⟩⟩
 case round =>
  clear H'
  obtain ⟨x3_1, rfl, HA, HK1, HB⟩ := hrel
  cases gk with
  | zero => exact absurd HA.1 (by simp [estoversref21_Check.l0])
  | succ k1 =>
   have H := HA.1
   clear HA
   simp only [estoversref21_Check.l0] at H
   by_cases c2 : x3_1 < (l0.length : Int)
   ·rw [if_pos c2] at H
    have c2b0 : decide (x3_1 < (l0.length : Int)) = true := decide_eq_true c2
    clear c2
    by_cases c3 : 0 ≤ x3_1
    ·rw [if_pos c3] at H
     have c3b0 : decide (0 ≤ x3_1) = true := decide_eq_true c3
     clear c3
     replace H := Option.bind_eq_some_iff.mp H
     obtain ⟨t318, A40, H⟩ := H
     replace H : (if t318 = true then (estoversref21_Check.l0 k1 l0 (wrap64 (x3_1 + 1))) else (some 2)) = some r := H
     have A4 := zM A40
     clear A40
     by_cases c5 : t318 = true
     ·subst c5
      have H1 : (estoversref21_Check.l0 k1 l0 (wrap64 (x3_1 + 1))) = some r := by rw [if_pos rfl] at H; exact H
      clear H
      have H := H1
      clear H1
      have H' := zM H
      clear H
      have p317 : 0 ≤ (x3_1 : Int) := zo (by first | (with_reducible assumption) | assumption)
      have q317 : x3_1 < (l0.length : Int) := zo (by first | (with_reducible assumption) | assumption)
      obtain ⟨ad317, e317, hx317_0, hx317_1, hx317_2, hx317_3⟩ := at_T37 HR0.1 x3_1 p317 q317
      cases e317
      replace hx317_0 := (HB.1.cell (zL w _ hx317_0)).trans hx317_0
      replace hx317_1 := (HB.1.cell (zL w _ hx317_1)).trans hx317_1
      replace hx317_2 := (HB.1.cell (zL w _ hx317_2)).trans hx317_2
      replace hx317_3 := (HB.1.cell (zL w _ hx317_3)).trans hx317_3
      replace p317 := eq_true p317
      replace q317 := eq_true q317
      go_wp2_with (first | ((with_reducible refine gate_callee (f := 38) rfl ?_); refine goesL_ (some 15) rfl rfl Try.func38 (by kernel_rfl) rfl #[.agg #[.int .i64 ((rd_T37 l0 x3_1).f0), .int .i64 ((rd_T37 l0 x3_1).f1), .int .i64 ((rd_T37 l0 x3_1).f2), .int .i64 ((rd_T37 l0 x3_1).f3)]] rfl (by (try simp only [List.map_toArray, List.map_cons, List.map_nil]); first | done | rfl | (simp only [List.length_drop, List.length_take]; rfl)) ?_; (with_reducible refine (estoversref21_Valid.calls ((rd_T37 l0 x3_1).f0) ((rd_T37 l0 x3_1).f1) ((rd_T37 l0 x3_1).f2) ((rd_T37 l0 x3_1).f3) true _ A4.1).mono ?_); rintro e w6 ⟨rfl, hb⟩; refine ⟨_, rfl, ?_⟩; have n0_ := zM (zT (by repeat (first | (with_reducible first | exact HB.1 | apply zA | apply zN | apply zD) | exact HB.1)) hb); clear HB; have HB := n0_; clear n0_; (try clear hb); (try clear hb2); (try clear hk); (try clear hi)))
      go_roundg k1
      case measure => have := HK1.1; omega
      case rel => exact ⟨(wrap64 (x3_1 + 1)), (by first | rfl | (simp; done) | (simp [*]; done)), H', ⟨by have := HK1.1; omega⟩, ⟨by repeat (first | (with_reducible first | exact HB.1 | apply zA | apply zN | apply zD) | exact HB.1)⟩⟩
     ·replace c5 := Bool.eq_false_iff.mpr c5
      subst c5
      have H1 : (some 2) = some r := by rw [if_neg (show ¬ (false = true) by decide)] at H; exact H
      clear H
      have H := H1
      clear H1
      obtain rfl := Option.some.inj H
      have p317 : 0 ≤ (x3_1 : Int) := zo (by first | (with_reducible assumption) | assumption)
      have q317 : x3_1 < (l0.length : Int) := zo (by first | (with_reducible assumption) | assumption)
      obtain ⟨ad317, e317, hx317_0, hx317_1, hx317_2, hx317_3⟩ := at_T37 HR0.1 x3_1 p317 q317
      cases e317
      replace hx317_0 := (HB.1.cell (zL w _ hx317_0)).trans hx317_0
      replace hx317_1 := (HB.1.cell (zL w _ hx317_1)).trans hx317_1
      replace hx317_2 := (HB.1.cell (zL w _ hx317_2)).trans hx317_2
      replace hx317_3 := (HB.1.cell (zL w _ hx317_3)).trans hx317_3
      replace p317 := eq_true p317
      replace q317 := eq_true q317
      go_wp2_with (first | ((with_reducible refine gate_callee (f := 38) rfl ?_); refine goesL_ (some 15) rfl rfl Try.func38 (by kernel_rfl) rfl #[.agg #[.int .i64 ((rd_T37 l0 x3_1).f0), .int .i64 ((rd_T37 l0 x3_1).f1), .int .i64 ((rd_T37 l0 x3_1).f2), .int .i64 ((rd_T37 l0 x3_1).f3)]] rfl (by (try simp only [List.map_toArray, List.map_cons, List.map_nil]); first | done | rfl | (simp only [List.length_drop, List.length_take]; rfl)) ?_; (with_reducible refine (estoversref21_Valid.calls ((rd_T37 l0 x3_1).f0) ((rd_T37 l0 x3_1).f1) ((rd_T37 l0 x3_1).f2) ((rd_T37 l0 x3_1).f3) false _ A4.1).mono ?_); rintro e w7 ⟨rfl, hb⟩; refine ⟨_, rfl, ?_⟩; have n0_ := zM (zT (by repeat (first | (with_reducible first | exact HB.1 | apply zA | apply zN | apply zD) | exact HB.1)) hb); clear HB; have HB := n0_; clear n0_; (try clear hb); (try clear hb2); (try clear hk); (try clear hi)))
      go_ret
      exact ⟨by first | rfl | (simp [errW_none, errW_some] <;> rfl) | (simp [*, errW_none, errW_some] <;> rfl), by repeat (first | (with_reducible first | exact HB.1 | apply zA | apply zN | apply zD) | exact HB.1)⟩
    ·rw [if_neg c3] at H
     exact absurd H (by simp)
   ·rw [if_neg c2] at H
    have c2b0 : decide (x3_1 < (l0.length : Int)) = false := decide_eq_false c2
    clear c2
    have H' := zM H
    clear H
    go_wp2
    go_loopg [4] k1 (fun kq v4 w' => ∃ (x4_2 : Int), v4 = .int .i64 x4_2 ∧ Aside0 (estoversref21_Check.l1 kq l0 x4_2 = some r) ∧ Aside0 (kq ≤ k1) ∧ Aside0 (Below w.heap.size w w'))
    case atStart => exact ⟨(0), (by first | rfl | (simp; done) | (simp [*]; done)), H', ⟨Nat.le_refl _⟩, ⟨by repeat (first | (with_reducible first | exact HB.1 | apply zA | apply zN | apply zD) | exact HB.1)⟩⟩
    case round =>
     clear H'
     try clear c2
     try clear c2b0
     try clear p2
     try clear c3
     try clear c3b0
     try clear p3
     try clear q3
     try clear hx3
     try clear c5
     try clear p6
     try clear hx317_0
     try clear hx317_1
     try clear hx317_2
     try clear hx317_3
     try clear p317
     try clear q317
     obtain ⟨x4_2, rfl, HA, HK2, HB⟩ := hrel
     cases gk with
     | zero => exact absurd HA.1 (by simp [estoversref21_Check.l1])
     | succ k2 =>
      have H := HA.1
      clear HA
      simp only [estoversref21_Check.l1] at H
      by_cases c8 : x4_2 < (l0.length : Int)
      ·rw [if_pos c8] at H
       have c8b0 : decide (x4_2 < (l0.length : Int)) = true := decide_eq_true c8
       clear c8
       by_cases c9 : 0 ≤ x4_2
       ·rw [if_pos c9] at H
        have c9b0 : decide (0 ≤ x4_2) = true := decide_eq_true c9
        clear c9
        replace H := Option.bind_eq_some_iff.mp H
        obtain ⟨t320, A100, H⟩ := H
        replace H : (if t320 < x4_2 then (some 7) else (estoversref21_Check.l1 k2 l0 (wrap64 (x4_2 + 1)))) = some r := H
        have A10 := zM A100
        clear A100
        by_cases c11 : t320 < x4_2
        ·rw [if_pos c11] at H
         have c11b0 : decide (t320 < x4_2) = true := decide_eq_true c11
         clear c11
         obtain rfl := Option.some.inj H
         have p319 : 0 ≤ (x4_2 : Int) := zo (by first | (with_reducible assumption) | assumption)
         have q319 : x4_2 < (l0.length : Int) := zo (by first | (with_reducible assumption) | assumption)
         obtain ⟨ad319, e319, hx319_0, hx319_1, hx319_2, hx319_3⟩ := at_T37 HR0.1 x4_2 p319 q319
         cases e319
         replace hx319_0 := (HB.1.cell (zL w _ hx319_0)).trans hx319_0
         replace hx319_1 := (HB.1.cell (zL w _ hx319_1)).trans hx319_1
         replace hx319_2 := (HB.1.cell (zL w _ hx319_2)).trans hx319_2
         replace hx319_3 := (HB.1.cell (zL w _ hx319_3)).trans hx319_3
         replace p319 := eq_true p319
         replace q319 := eq_true q319
         go_wp2_with (first | ((with_reducible refine gate_callee (f := 55) rfl ?_); refine goesL_ (some 29) rfl rfl Try.func55 (by kernel_rfl) rfl #[.slice (some ad319) l0.length c0, .int .i64 ((rd_T37 l0 x4_2).f0)] rfl (by (try simp only [List.map_toArray, List.map_cons, List.map_nil]); first | done | rfl | (simp only [List.length_drop, List.length_take]; rfl)) ?_; (with_reducible refine (estoversref21_at.calls k2 _ _ l0 ((rd_T37 l0 x4_2).f0) t320 _ ?side1 ?side2 A10.1).mono ?_); (case side1 => repeat (first | exact (Kd.C_below HR0.1 HB.1) | (with_reducible refine Kd.C_alloc ?_ _) | (with_reducible refine Kd.C_drewN ?_ _) | (with_reducible refine Kd.C_drew ?_))); (case side2 => exact HC0.1); rintro e w' ⟨rfl, ⟨nd, rfl⟩⟩; refine ⟨_, rfl, ?_⟩))
         go_ret
         exact ⟨by first | rfl | (simp [errW_none, errW_some] <;> rfl) | (simp [*, errW_none, errW_some] <;> rfl), by repeat (first | (with_reducible first | exact HB.1 | apply zA | apply zN | apply zD) | exact HB.1)⟩
        ·rw [if_neg c11] at H
         have c11b0 : decide (t320 < x4_2) = false := decide_eq_false c11
         clear c11
         have H' := zM H
         clear H
         have p319 : 0 ≤ (x4_2 : Int) := zo (by first | (with_reducible assumption) | assumption)
         have q319 : x4_2 < (l0.length : Int) := zo (by first | (with_reducible assumption) | assumption)
         obtain ⟨ad319, e319, hx319_0, hx319_1, hx319_2, hx319_3⟩ := at_T37 HR0.1 x4_2 p319 q319
         cases e319
         replace hx319_0 := (HB.1.cell (zL w _ hx319_0)).trans hx319_0
         replace hx319_1 := (HB.1.cell (zL w _ hx319_1)).trans hx319_1
         replace hx319_2 := (HB.1.cell (zL w _ hx319_2)).trans hx319_2
         replace hx319_3 := (HB.1.cell (zL w _ hx319_3)).trans hx319_3
         replace p319 := eq_true p319
         replace q319 := eq_true q319
         go_wp2_with (first | ((with_reducible refine gate_callee (f := 55) rfl ?_); refine goesL_ (some 29) rfl rfl Try.func55 (by kernel_rfl) rfl #[.slice (some ad319) l0.length c0, .int .i64 ((rd_T37 l0 x4_2).f0)] rfl (by (try simp only [List.map_toArray, List.map_cons, List.map_nil]); first | done | rfl | (simp only [List.length_drop, List.length_take]; rfl)) ?_; (with_reducible refine (estoversref21_at.calls k2 _ _ l0 ((rd_T37 l0 x4_2).f0) t320 _ ?side1 ?side2 A10.1).mono ?_); (case side1 => repeat (first | exact (Kd.C_below HR0.1 HB.1) | (with_reducible refine Kd.C_alloc ?_ _) | (with_reducible refine Kd.C_drewN ?_ _) | (with_reducible refine Kd.C_drew ?_))); (case side2 => exact HC0.1); rintro e w' ⟨rfl, ⟨nd, rfl⟩⟩; refine ⟨_, rfl, ?_⟩))
         go_roundg k2
         case measure => have := HK1.1; have := HK2.1; omega
         case rel => exact ⟨(wrap64 (x4_2 + 1)), (by first | rfl | (simp; done) | (simp [*]; done)), H', ⟨by have := HK1.1; have := HK2.1; omega⟩, ⟨by repeat (first | (with_reducible first | exact HB.1 | apply zA | apply zN | apply zD) | exact HB.1)⟩⟩
       ·rw [if_neg c9] at H
        exact absurd H (by simp)
      ·rw [if_neg c8] at H
       have c8b0 : decide (x4_2 < (l0.length : Int)) = false := decide_eq_false c8
       clear c8
       obtain rfl := Option.some.inj H
       go_wp2
       go_ret
       exact ⟨by first | rfl | (simp [errW_none, errW_some] <;> rfl) | (simp [*, errW_none, errW_some] <;> rfl), by repeat (first | (with_reducible first | exact HB.1 | apply zA | apply zN | apply zD) | exact HB.1)⟩
def estoversref19_Copy.l0 : Nat → List (S59) → List (S59) → Int → Option ((List (S59)))
 | 0, _, _, _ => none
 | k + 1, x0, x3, x4 => if x4 < (x0.length : Int) then (if 0 ≤ x4 then (if x3.length < 3518437208883 then (estoversref19_Copy.l0 k x0 (x3 ++ [(⟨(rd_T59 x0 x4).f0, (rd_T59 x0 x4).f1, (rd_T59 x0 x4).f2, (rd_T59 x0 x4).f3, (rd_T59 x0 x4).f4⟩ : S59)]) (wrap64 (x4 + 1))) else (none)) else (none)) else (some x3)
def estoversref19_Copy.f (k : Nat) (l0 : List (S59)) : Option ((List (S59))) := estoversref19_Copy.l0 k l0 ([] : List (S59)) 0
theorem estoversref19_Copy.mono_l : ∀ k, (∀ y0 y1 y2, LeO (estoversref19_Copy.l0 k y0 y1 y2) (estoversref19_Copy.l0 (k + 1) y0 y1 y2))
 | 0 => fun _ _ _ r h => by simp [estoversref19_Copy.l0] at h
 | k + 1 => by
  have ih0 := estoversref19_Copy.mono_l k
  ·intro y0 y1 y2
   unfold estoversref19_Copy.l0
   repeat' first
   | (with_reducible exact ih0 _ _ _)
   | (with_reducible exact LeO.refl _)
   | (with_reducible exact LeO.none _)
   | (with_reducible refine LeO.ite ?_ ?_)
   | (with_reducible refine LeO.bind ?_ (fun _ => ?_))
   | exact ih0 _ _ _
   | exact LeO.none _
   | refine LeO.ite ?_ ?_
   | refine LeO.bind ?_ (fun _ => ?_)
theorem estoversref19_Copy.mono : ∀ a0 k, LeO (estoversref19_Copy.f k a0) (estoversref19_Copy.f (k + 1) a0) := by
 intro a0 k
 have ih0 := estoversref19_Copy.mono_l k
 unfold estoversref19_Copy.f
 repeat' first
   | (with_reducible exact ih0 _ _ _)
   | (with_reducible exact LeO.refl _)
   | (with_reducible exact LeO.none _)
   | (with_reducible refine LeO.ite ?_ ?_)
   | (with_reducible refine LeO.bind ?_ (fun _ => ?_))
   | exact ih0 _ _ _
   | exact LeO.none _
   | refine LeO.ite ?_ ?_
   | refine LeO.bind ?_ (fun _ => ?_)
set_option maxHeartbeats 8000000 in
set_option maxRecDepth 100000 in
theorem estoversref19_Copy.calls (k : Nat) (A0 : Option Addr) (c0 : Nat) (l0 : List (S59)) (r : List (S59)) (w : World) (hr0 : Kd.C k59 w A0 l0.length l0) (hc0 : l0.length ≤ c0) (h : estoversref19_Copy.f k l0 = some r) :
  Calls Try.prog 46 #[.slice A0 l0.length c0] w fun e w' => ∃ v0_ : Value, e = .returned (v0_) ∧ Kd.R k59 59 w' w.heap.size (fun _ => True) v0_ r ∧ Below w.heap.size w w' := by
 have hu59 := Try.underlying59
 have HR0 := zM hr0
 have HC0 := zM hc0
 clear hr0 hc0
 have HB := zM (Below.refl w.heap.size w)
 have H : (estoversref19_Copy.l0 k l0 ([] : List (S59)) 0) = some r := h
 clear h
 have H' := zM H
 clear H
 go_enter Try.func46, Try.ntmps46
 go_wp2
 go_loopg [3, 4] k (fun kq v3 v4 w' => ∃ (x3_1 : List (S59)) (x4_1 : Int), v4 = .int .i64 x4_1 ∧ Aside0 (estoversref19_Copy.l0 kq l0 x3_1 x4_1 = some r) ∧ Aside0 (kq ≤ k) ∧ Aside0 (Kd.R k59 59 w' w.heap.size (fun _ => True) v3 x3_1) ∧ Aside0 (Below w.heap.size w w'))
 case atStart => exact ⟨(([] : List (S59))), (0), (by first | rfl | (simp; done) | (simp [*]; done)), H', ⟨Nat.le_refl _⟩, ⟨by first | exact Kd.R_nil _ _ _ _ _ | exact Kd.N_nil _ _ _ _ _ | exact Kd.V_nil _ _ _ _ _ | exact Kd.Q_nil _ _ _ _ _ | exact Kd.S_nil _ _ _ _ _⟩, ⟨by repeat (first | (with_reducible first | exact HB.1 | apply zA | apply zN | apply zD) | exact HB.1)⟩⟩
 case round =>
  clear H'
  obtain ⟨x3_1, x4_1, rfl, HA, HK1, HO_3, HB⟩ := hrel
  cases gk with
  | zero => exact absurd HA.1 (by simp [estoversref19_Copy.l0])
  | succ k1 =>
   have H := HA.1
   clear HA
   simp only [estoversref19_Copy.l0] at H
   by_cases c2 : x4_1 < (l0.length : Int)
   ·rw [if_pos c2] at H
    have c2b0 : decide (x4_1 < (l0.length : Int)) = true := decide_eq_true c2
    clear c2
    by_cases c3 : 0 ≤ x4_1
    ·rw [if_pos c3] at H
     have c3b0 : decide (0 ≤ x4_1) = true := decide_eq_true c3
     clear c3
     by_cases c4 : x3_1.length < 3518437208883
     ·rw [if_pos c4] at H
      have LMc4 := zM c4
      clear c4
      obtain ⟨y322, hy322⟩ : ∃ y_ : List (S59), y_ = (x3_1 ++ [(⟨(rd_T59 l0 x4_1).f0, (rd_T59 l0 x4_1).f1, (rd_T59 l0 x4_1).f2, (rd_T59 l0 x4_1).f3, (rd_T59 l0 x4_1).f4⟩ : S59)]) := ⟨_, rfl⟩
      replace H : (estoversref19_Copy.l0 k1 l0 y322 (wrap64 (x4_1 + 1))) = some r := by first | (rw [hy322]; with_reducible exact H) | (have H2_ := (Option.bind_some _ _).symm.trans H; rw [hy322]; with_reducible exact H2_) | (have H2_ := (Option.bind_some _ _).symm.trans H; with_reducible exact H2_) | with_reducible exact H | (rw [hy322]; exact H) | exact H
      have Ny322 := zM hy322
      clear hy322
      have H' := zM H
      clear H
      have p321 : 0 ≤ (x4_1 : Int) := zo (by first | (with_reducible assumption) | assumption)
      have q321 : x4_1 < (l0.length : Int) := zo (by first | (with_reducible assumption) | assumption)
      obtain ⟨ad321, e321, hx321_0, hx321_1, hx321_2, hx321_3, hx321_4⟩ := at_T59 HR0.1 x4_1 p321 q321
      cases e321
      replace hx321_0 := (HB.1.cell (zL w _ hx321_0)).trans hx321_0
      replace hx321_1 := (HB.1.cell (zL w _ hx321_1)).trans hx321_1
      replace hx321_2 := (HB.1.cell (zL w _ hx321_2)).trans hx321_2
      replace hx321_3 := (HB.1.cell (zL w _ hx321_3)).trans hx321_3
      replace hx321_4 := (HB.1.cell (zL w _ hx321_4)).trans hx321_4
      replace p321 := eq_true p321
      replace q321 := eq_true q321
      go_wp2_with (first | ((with_reducible refine gate_builtin (b := .append) (xs := #[.tmp 11, .tmp 16]) rfl ?_); at_builtin; refine Kd.R_append k59 (w0 := w) w.heap.size rfl (.tmp 11) (.tmp 16) 30 59 (.agg #[(.int .i64 0), (.int .i64 0), (.int .i64 0), (.int .i64 0), (.int .i64 0)]) 40 rfl Try.underlying30 info59 rfl (by decide) (by omega) u3 x3_1 (⟨(rd_T59 l0 x4_1).f0, (rd_T59 l0 x4_1).f1, (rd_T59 l0 x4_1).f2, (rd_T59 l0 x4_1).f3, (rd_T59 l0 x4_1).f4⟩ : S59) [.int .i64 ((rd_T59 l0 x4_1).f0), .int .i64 ((rd_T59 l0 x4_1).f1), .int .i64 ((rd_T59 l0 x4_1).f2), .int .i64 ((rd_T59 l0 x4_1).f3), .int .i64 ((rd_T59 l0 x4_1).f4)] (fun _ => True) (fun _ => False) rfl rfl ?aP (fun _ hk => hk.elim) ?aF ?aO ?aB ?aS ?aL ?_; (case aP => exact k59_mkM _ _ _ (⟨(rd_T59 l0 x4_1).f0, (rd_T59 l0 x4_1).f1, (rd_T59 l0 x4_1).f2, (rd_T59 l0 x4_1).f3, (rd_T59 l0 x4_1).f4⟩ : S59)); (case aB => exact (by repeat (first | (with_reducible first | exact HB.1 | apply zA | apply zN | apply zD) | exact HB.1))); (case aF => exact (fun _ _ => trivial)); (case aO => exact (by (with_reducible repeat (first | apply Kd.R_alloc | apply Kd.R_drewN | apply Kd.R_drew)); exact HO_3.1)); (case aS => exact (zz (by repeat (first | (with_reducible first | exact HB.1 | apply zA | apply zN | apply zD) | exact HB.1)))); (case aL => have := LMc4.out; omega); intro v323 w5 ho hb hg hat; rw [← Ny322.out] at ho; have n0_ := zM (hb); have n1_ := zM (ho); clear HB; clear HO_3; have HB := n0_; have HO324 := n1_; clear n0_ n1_; clear ho hb hg hat))
      go_roundg k1
      case measure => have := HK1.1; omega
      case rel => exact ⟨(y322), (wrap64 (x4_1 + 1)), (by first | rfl | (simp; done) | (simp [*]; done)), H', ⟨by have := HK1.1; omega⟩, ⟨by (with_reducible repeat (first | apply Kd.R_alloc | apply Kd.R_drewN | apply Kd.R_drew)); exact HO324.1⟩, ⟨by repeat (first | (with_reducible first | exact HB.1 | apply zA | apply zN | apply zD) | exact HB.1)⟩⟩
     ·rw [if_neg c4] at H
      exact absurd H (by simp)
    ·rw [if_neg c3] at H
     exact absurd H (by simp)
   ·rw [if_neg c2] at H
    have c2b0 : decide (x4_1 < (l0.length : Int)) = false := decide_eq_false c2
    clear c2
    obtain rfl := Option.some.inj H
    go_wp2
    go_ret
    exact ⟨_, by first | rfl | (simp [errW_none, errW_some] <;> rfl) | (simp [*, errW_none, errW_some] <;> rfl), by (with_reducible repeat (first | apply Kd.R_alloc | apply Kd.R_drewN | apply Kd.R_drew)); exact HO_3.1, by repeat (first | (with_reducible first | exact HB.1 | apply zA | apply zN | apply zD) | exact HB.1)⟩
def estoversref19_add.l0 : Nat → Int → List (S59) → List Int → Int → Option ((List (S59)))
 | 0, _, _, _, _ => none
 | k + 1, x2, x7, x8, x9 => if x9 < (x8.length : Int) then (if 0 ≤ x9 then (if 0 ≤ (rd x8 x9) then (if (rd x8 x9) < (x7.length : Int) then (estoversref19_add.l0 k x2 (x7.set ((rd x8 x9) : Int).toNat (⟨(rd_T59 x7 (rd x8 x9)).f0, wrap64 (((rd_T59 x7 (rd x8 x9)).f1) + x2), (rd_T59 x7 (rd x8 x9)).f2, (rd_T59 x7 (rd x8 x9)).f3, (rd_T59 x7 (rd x8 x9)).f4⟩ : S59)) x8 (wrap64 (x9 + 1))) else (none)) else (none)) else (none)) else (some x7)
def estoversref19_add.f (k : Nat) (l0 : List (S59)) (a1 : Int) (a2 : Int) : Option ((List (S59))) := (estoversref19_Copy.f k l0).bind fun t325 => ((estoversref19_Path.f k l0 a1).bind fun t328 => (estoversref19_add.l0 k a2 t325 t328 0))
theorem estoversref19_add.mono_l : ∀ k, (∀ y0 y1 y2 y3, LeO (estoversref19_add.l0 k y0 y1 y2 y3) (estoversref19_add.l0 (k + 1) y0 y1 y2 y3))
 | 0 => fun _ _ _ _ r h => by simp [estoversref19_add.l0] at h
 | k + 1 => by
  have ih0 := estoversref19_add.mono_l k
  ·intro y0 y1 y2 y3
   unfold estoversref19_add.l0
   repeat' first
   | (with_reducible exact ih0 _ _ _ _)
   | (with_reducible exact estoversref19_Copy.mono _ _)
   | (with_reducible exact estoversref19_Path.mono _ _ _)
   | (with_reducible exact LeO.refl _)
   | (with_reducible exact LeO.none _)
   | (with_reducible refine LeO.ite ?_ ?_)
   | (with_reducible refine LeO.bind ?_ (fun _ => ?_))
   | exact ih0 _ _ _ _
   | exact estoversref19_Copy.mono _ _
   | exact estoversref19_Path.mono _ _ _
   | exact LeO.none _
   | refine LeO.ite ?_ ?_
   | refine LeO.bind ?_ (fun _ => ?_)
theorem estoversref19_add.mono : ∀ a0 a1 a2 k, LeO (estoversref19_add.f k a0 a1 a2) (estoversref19_add.f (k + 1) a0 a1 a2) := by
 intro a0 a1 a2 k
 have ih0 := estoversref19_add.mono_l k
 unfold estoversref19_add.f
 repeat' first
   | (with_reducible exact ih0 _ _ _ _)
   | (with_reducible exact estoversref19_Copy.mono _ _)
   | (with_reducible exact estoversref19_Path.mono _ _ _)
   | (with_reducible exact LeO.refl _)
   | (with_reducible exact LeO.none _)
   | (with_reducible refine LeO.ite ?_ ?_)
   | (with_reducible refine LeO.bind ?_ (fun _ => ?_))
   | exact ih0 _ _ _ _
   | exact estoversref19_Copy.mono _ _
   | exact estoversref19_Path.mono _ _ _
   | exact LeO.none _
   | refine LeO.ite ?_ ?_
   | refine LeO.bind ?_ (fun _ => ?_)
def estoversref19_add.T6 : Bool × List (List Nat × List Nat) := (true, [([], []), ([], []), ([], []), ([1, 2], [1, 2]), ([3], [3]), ([], []), ([], []), ([], []), ([6, 7], [6, 7]), ([8], [8]), ([5, 9], [5, 9]), ([10], [10]), ([11], [11]), ([], []), ([12, 13], [12, 13]), ([0, 4, 0, 1, 2, 3, 4, 5, 6, 7, 8, 9, 10, 11, 12, 13, 14], [0, 4]), ([15, 0, 1, 2, 3, 4, 5, 6, 7, 8, 9, 10, 11, 12, 13, 14], [15]), ([16, 14, 0, 1, 2, 3, 4, 5, 6, 7, 8, 9, 10, 11, 12, 13, 14], [14, 16])])
def estoversref19_add.B6 : List Nat := [0, 0, 0, 6, 14, 0, 0, 0, 192, 448, 992, 2016, 4064, 0, 16352, 32767, 65535, 131071]
theorem estoversref19_add.tab6 : rtab .any (opsOf Try.f67 6) = estoversref19_add.T6 := by kernel_rfl
theorem estoversref19_add.bits6 : waitsOk estoversref19_add.T6.2 estoversref19_add.B6 = true := by kernel_rfl
set_option maxHeartbeats 8000000 in
set_option maxRecDepth 100000 in
theorem estoversref19_add.calls (k : Nat) (A0 : Option Addr) (c0 : Nat) (l0 : List (S59)) (a1 : Int) (a2 : Int) (r : List (S59)) (w : World) (hr0 : Kd.C k59 w A0 l0.length l0) (hc0 : l0.length ≤ c0) (h : estoversref19_add.f k l0 a1 a2 = some r) :
  Calls Try.prog 67 #[.slice A0 l0.length c0, .int .i64 a1, .int .i64 a2] w fun e w' => ∃ v0_ : Value, e = .returned (v0_) ∧ Kd.R k59 59 w' w.heap.size (fun _ => True) v0_ r ∧ Below w.heap.size w w' := by
 have HR0 := zM hr0
 have HC0 := zM hc0
 clear hr0 hc0
 have HB := zM (Below.refl w.heap.size w)
 have H : ((estoversref19_Copy.f k l0).bind fun t325 => ((estoversref19_Path.f k l0 a1).bind fun t328 => (estoversref19_add.l0 k a2 t325 t328 0))) = some r := h
 clear h
 replace H := Option.bind_eq_some_iff.mp H
 obtain ⟨t325, A40, H⟩ := H
 replace H : ((estoversref19_Path.f k l0 a1).bind fun t328 => (estoversref19_add.l0 k a2 t325 t328 0)) = some r := H
 have A4 := zM A40
 clear A40
 replace H := Option.bind_eq_some_iff.mp H
 obtain ⟨t328, A50, H⟩ := H
 replace H : (estoversref19_add.l0 k a2 t325 t328 0) = some r := H
 have A5 := zM A50
 clear A50
 have H' := zM H
 clear H
 go_enter Try.func67, Try.ntmps67
 go_wp2_with (first | ((with_reducible refine gate_callee (f := 46) rfl ?_); refine goesL_ (some 11) rfl rfl Try.func46 (by kernel_rfl) rfl #[.slice A0 l0.length c0] rfl (by (try simp only [List.map_toArray, List.map_cons, List.map_nil]); first | done | rfl | (simp only [List.length_drop, List.length_take]; rfl)) ?_; (with_reducible refine (estoversref19_Copy.calls k _ _ l0 t325 _ ?side1 ?side2 A4.1).mono ?_); (case side1 => repeat (first | exact HR0.1 | (with_reducible refine Kd.C_alloc ?_ _) | (with_reducible refine Kd.C_drewN ?_ _) | (with_reducible refine Kd.C_drew ?_))); (case side2 => exact HC0.1); rintro e w6 ⟨v326, rfl, ho0, hb⟩; refine ⟨_, rfl, ?_⟩; have n0_ := zM (Kd.R_lower ho0 (zz (by repeat (first | (with_reducible first | exact HB.1 | apply zA | apply zN | apply zD) | exact HB.1)))); have n1_ := zM (zT (by repeat (first | (with_reducible first | exact HB.1 | apply zA | apply zN | apply zD) | exact HB.1)) hb); clear HB; have HO327 := n0_; have HB := n1_; clear n0_ n1_; (try clear hb); (try clear hb2); (try clear hk); (try clear hi); (try clear ho0)) | ((with_reducible refine gate_callee (f := 40) rfl ?_); refine goesL_ (some 14) rfl rfl Try.func40 (by kernel_rfl) rfl #[.slice A0 l0.length c0, .int .i64 a1] rfl (by (try simp only [List.map_toArray, List.map_cons, List.map_nil]); first | done | rfl | (simp only [List.length_drop, List.length_take]; rfl)) ?_; (with_reducible refine (estoversref19_Path.calls k _ _ l0 a1 t328 _ ?side1 ?side2 A5.1).mono ?_); (case side1 => repeat (first | exact (Kd.C_below HR0.1 HB.1) | (with_reducible refine Kd.C_alloc ?_ _) | (with_reducible refine Kd.C_drewN ?_ _) | (with_reducible refine Kd.C_drew ?_))); (case side2 => exact HC0.1); rintro e w7 ⟨v329, rfl, ho0, hb⟩; refine ⟨_, rfl, ?_⟩; have n0_ := zM (Kd.R_below (by (with_reducible repeat (first | apply Kd.R_alloc | apply Kd.R_drewN | apply Kd.R_drew)); exact HO327.1) hb); have n1_ := zM (Kd.R_lower ho0 (zz (by repeat (first | (with_reducible first | exact HB.1 | apply zA | apply zN | apply zD) | exact HB.1)))); have n2_ := zM (zT (by repeat (first | (with_reducible first | exact HB.1 | apply zA | apply zN | apply zD) | exact HB.1)) hb); clear HO327; clear HB; have HO327 := n0_; have HO330 := n1_; have HB := n2_; clear n0_ n1_ n2_; (try clear hb); (try clear hb2); (try clear hk); (try clear hi); (try clear ho0)))
 go_loopg [9] k (fun kq v9 w' => ∃ (x7_1 : List (S59)) (x9_1 : Int), v9 = .int .i64 x9_1 ∧ Aside0 (estoversref19_add.l0 kq a2 x7_1 t328 x9_1 = some r) ∧ Aside0 (kq ≤ k) ∧ Aside0 (Kd.R k59 59 w' w.heap.size (fun _ => True) v326 x7_1) ∧ Aside0 (Kd.R (Kd.int .i64) 3 w' w.heap.size (fun _ => True) v329 t328) ∧ Aside0 (Below w.heap.size w w'))
 case atStart => exact ⟨(t325), (0), (by first | rfl | (simp; done) | (simp [*]; done)), H', ⟨Nat.le_refl _⟩, ⟨by (with_reducible repeat (first | apply Kd.R_alloc | apply Kd.R_drewN | apply Kd.R_drew)); exact HO327.1⟩, ⟨by (with_reducible repeat (first | apply Kd.R_alloc | apply Kd.R_drewN | apply Kd.R_drew)); exact HO330.1⟩, ⟨by repeat (first | (with_reducible first | exact HB.1 | apply zA | apply zN | apply zD) | exact HB.1)⟩⟩
 case round =>
  clear H'
  try clear p2
  try clear c4
  try clear c6
  obtain ⟨x7_1, x9_1, rfl, HA, HK1, HO_7, HO_8, HB⟩ := hrel
  cases gk with
  | zero => exact absurd HA.1 (by simp [estoversref19_add.l0])
  | succ k1 =>
   have H := HA.1
   clear HA
   simp only [estoversref19_add.l0] at H
   by_cases c8 : x9_1 < (t328.length : Int)
   ·rw [if_pos c8] at H
    have c8b0 : decide (x9_1 < (t328.length : Int)) = true := decide_eq_true c8
    clear c8
    by_cases c9 : 0 ≤ x9_1
    ·rw [if_pos c9] at H
     have c9b0 : decide (0 ≤ x9_1) = true := decide_eq_true c9
     clear c9
     by_cases c10 : 0 ≤ (rd t328 x9_1)
     ·rw [if_pos c10] at H
      have c10b0 : decide (0 ≤ (rd t328 x9_1)) = true := decide_eq_true c10
      clear c10
      by_cases c11 : (rd t328 x9_1) < (x7_1.length : Int)
      ·rw [if_pos c11] at H
       have c11b0 : decide ((rd t328 x9_1) < (x7_1.length : Int)) = true := decide_eq_true c11
       clear c11
       obtain ⟨y334, hy334⟩ : ∃ y_ : List (S59), y_ = (x7_1.set ((rd t328 x9_1) : Int).toNat (⟨(rd_T59 x7_1 (rd t328 x9_1)).f0, wrap64 (((rd_T59 x7_1 (rd t328 x9_1)).f1) + a2), (rd_T59 x7_1 (rd t328 x9_1)).f2, (rd_T59 x7_1 (rd t328 x9_1)).f3, (rd_T59 x7_1 (rd t328 x9_1)).f4⟩ : S59)) := ⟨_, rfl⟩
       replace H : (estoversref19_add.l0 k1 a2 y334 t328 (wrap64 (x9_1 + 1))) = some r := by first | (rw [hy334]; with_reducible exact H) | (have H2_ := (Option.bind_some _ _).symm.trans H; rw [hy334]; with_reducible exact H2_) | (have H2_ := (Option.bind_some _ _).symm.trans H; with_reducible exact H2_) | with_reducible exact H | (rw [hy334]; exact H) | exact H
       have Ny334 := zM hy334
       clear hy334
       have H' := zM H
       clear H
       obtain ⟨Ao13, co13, eo13⟩ := Kd.R_slice HO_8.1
       subst eo13
       try go_wp2
       have n0_ := zM (Kd.R_drew HO_7.1)
       have n1_ := zM (Kd.R_drew HO_8.1)
       have n2_ := zM (zD HB.1)
       clear HO_7
       clear HO_8
       clear HB
       have HO_7 := n0_
       have HO_8 := n1_
       have HB := n2_
       clear n0_ n1_ n2_
       have p331 : 0 ≤ (x9_1 : Int) := zo (by first | (with_reducible assumption) | assumption)
       have q331 : x9_1 < (t328.length : Int) := zo (by first | (with_reducible assumption) | assumption)
       obtain ⟨ad331, e331, hx331_0⟩ := Kd.at_int (Kd.R_reads' HO_8.1).2.2 x9_1 p331 q331
       cases e331
       replace p331 := eq_true p331
       replace q331 := eq_true q331
       have p332 : 0 ≤ (x9_1 : Int) := zo (by first | (with_reducible assumption) | assumption)
       have q332 : x9_1 < (t328.length : Int) := zo (by first | (with_reducible assumption) | assumption)
       obtain ⟨ad332, e332, hx332_0⟩ := Kd.at_int (Kd.R_reads' HO_8.1).2.2 x9_1 p332 q332
       obtain rfl : ad331 = ad332 := (by injection e332)
       replace p332 := eq_true p332
       replace q332 := eq_true q332
       obtain ⟨Ao15, co15, eo15⟩ := Kd.R_slice HO_7.1
       (first | subst eo15 | (injection eo15 with f1_ f2_ f3_; have f4_ := f1_.symm; have f5_ := f3_.symm; clear f1_ f2_ f3_; subst f4_; subst f5_))
       have p333 : 0 ≤ ((rd t328 x9_1) : Int) := zo (by first | (with_reducible assumption) | assumption)
       have q333 : (rd t328 x9_1) < (x7_1.length : Int) := zo (by first | (with_reducible assumption) | assumption)
       obtain ⟨ad333, e333, hx333_0, hx333_1, hx333_2, hx333_3, hx333_4⟩ := at_T59 (Kd.R_reads' HO_7.1).2.2 (rd t328 x9_1) p333 q333
       cases e333
       replace p333 := eq_true p333
       replace q333 := eq_true q333
       have p12 : 0 ≤ ((rd t328 x9_1) : Int) := zo (by first | (with_reducible assumption) | assumption)
       have q12 : ((rd t328 x9_1) : Int) < ((x7_1.length : Int) : Int) := zo (by first | (with_reducible assumption) | assumption)
       obtain ⟨go12, co12, eo12, gb12, gl12, cl12, HG12⟩ := Kd.R_form HO_7.1 (by omega)
       (first | cases eo12 | (injection eo12 with ea_ en_ ec_; (first | subst ea_ | (injection ea_ with ea_; subst ea_)); subst ec_; clear en_))
       have GB12 := zM gb12
       have GG12 := zM HG12
       clear gb12 gl12 HG12
       (first | simp only [add_plain] at hx333_0 | skip)
       (first | simp only [add_plain] at hx333_1 | skip)
       (first | simp only [add_plain] at hx333_2 | skip)
       (first | simp only [add_plain] at hx333_3 | skip)
       (first | simp only [add_plain] at hx333_4 | skip)
       obtain ⟨ce12, hcl12, hM12, hcc12, hfr12⟩ := Kd.R_elem HO_7.1 z59 ((rd t328 x9_1) : Int) p12 q12
       obtain rfl := k59_openM hM12
       have hx12_0 : World.cell? _ ⟨go12, ((rd t328 x9_1) : Int).toNat * 5, none⟩ = some (.int .i64 ((rd_T59 x7_1 (rd t328 x9_1)).f0)) := hcc12 0 _ rfl
       have hx12_1 : World.cell? _ ⟨go12, ((rd t328 x9_1) : Int).toNat * 5 + 1, none⟩ = some (.int .i64 ((rd_T59 x7_1 (rd t328 x9_1)).f1)) := hcc12 1 _ rfl
       have hx12_2 : World.cell? _ ⟨go12, ((rd t328 x9_1) : Int).toNat * 5 + 2, none⟩ = some (.int .i64 ((rd_T59 x7_1 (rd t328 x9_1)).f2)) := hcc12 2 _ rfl
       have hx12_3 : World.cell? _ ⟨go12, ((rd t328 x9_1) : Int).toNat * 5 + 3, none⟩ = some (.int .i64 ((rd_T59 x7_1 (rd t328 x9_1)).f3)) := hcc12 3 _ rfl
       have hx12_4 : World.cell? _ ⟨go12, ((rd t328 x9_1) : Int).toNat * 5 + 4, none⟩ = some (.int .i64 ((rd_T59 x7_1 (rd t328 x9_1)).f4)) := hcc12 4 _ rfl
       have hf12_0 : World.frozen? _ ⟨go12, ((rd t328 x9_1) : Int).toNat * 5, none⟩ = false := hfr12 0
       have hf12_1 : World.frozen? _ ⟨go12, ((rd t328 x9_1) : Int).toNat * 5 + 1, none⟩ = false := hfr12 1
       have hf12_2 : World.frozen? _ ⟨go12, ((rd t328 x9_1) : Int).toNat * 5 + 2, none⟩ = false := hfr12 2
       have hf12_3 : World.frozen? _ ⟨go12, ((rd t328 x9_1) : Int).toNat * 5 + 3, none⟩ = false := hfr12 3
       have hf12_4 : World.frozen? _ ⟨go12, ((rd t328 x9_1) : Int).toNat * 5 + 4, none⟩ = false := hfr12 4
       clear hcl12 hcc12 hfr12 hM12
       replace p12 := eq_true p12
       replace q12 := eq_true q12
       obtain ⟨ce16, hcl16, hM16, hcc16, hfr16⟩ := Kd.R_elem HO_7.1 z59 ((rd t328 x9_1) : Int) (zo (by first | (with_reducible assumption) | assumption)) (by have h_ : ((rd t328 x9_1) : Int) < ((x7_1.length : Int) : Int) := zo (by first | (with_reducible assumption) | assumption); first | exact h_ | (have e_ := (Kd.R_reads' HO_7.1).1; omega) | simpa using h_)
       obtain rfl := k59_openM hM16
       have HP16 := (Kd.R_seg HO_7.1 ((rd t328 x9_1) : Int) (zo (by first | (with_reducible assumption) | assumption)) (by have h_ : ((rd t328 x9_1) : Int) < ((x7_1.length : Int) : Int) := zo (by first | (with_reducible assumption) | assumption); first | exact h_ | (have e_ := (Kd.R_reads' HO_7.1).1; omega) | simpa using h_) (seg := [.int .i64 (wrap64 (((rd_T59 x7_1 (rd t328 x9_1)).f1) + a2))]) (j := 1) hcl16 hcc16 (show 2 ≤ 5 from by decide) (x' := (⟨(rd_T59 x7_1 (rd t328 x9_1)).f0, wrap64 (((rd_T59 x7_1 (rd t328 x9_1)).f1) + a2), (rd_T59 x7_1 (rd t328 x9_1)).f2, (rd_T59 x7_1 (rd t328 x9_1)).f3, (rd_T59 x7_1 (rd t328 x9_1)).f4⟩ : S59)) (k59_mkM _ _ _ (⟨(rd_T59 x7_1 (rd t328 x9_1)).f0, wrap64 (((rd_T59 x7_1 (rd t328 x9_1)).f1) + a2), (rd_T59 x7_1 (rd t328 x9_1)).f2, (rd_T59 x7_1 (rd t328 x9_1)).f3, (rd_T59 x7_1 (rd t328 x9_1)).f4⟩ : S59) ) (fun _ hk => hk)).1
       rw [← Ny334.out] at HP16
       have HQ16 := zM HP16
       clear hcl16 hcc16 hfr16 hM16 HP16
       refine start_ (n := 18) (S := fun w' => w'.cell? (ad331.add (x9_1).toNat) = some (.int .i64 (rd t328 x9_1)) ∧ w'.cell? (ad331.add (x9_1).toNat) = some (.int .i64 (rd t328 x9_1)) ∧ w'.cell? ⟨go12, ((rd t328 x9_1)).toNat * 5, none⟩ = some (.int .i64 ((rd_T59 x7_1 (rd t328 x9_1)).f0)) ∧ w'.cell? ⟨go12, ((rd t328 x9_1)).toNat * 5 + 1, none⟩ = some (.int .i64 ((rd_T59 x7_1 (rd t328 x9_1)).f1)) ∧ w'.cell? ⟨go12, ((rd t328 x9_1)).toNat * 5 + 2, none⟩ = some (.int .i64 ((rd_T59 x7_1 (rd t328 x9_1)).f2)) ∧ w'.cell? ⟨go12, ((rd t328 x9_1)).toNat * 5 + 3, none⟩ = some (.int .i64 ((rd_T59 x7_1 (rd t328 x9_1)).f3)) ∧ w'.cell? ⟨go12, ((rd t328 x9_1)).toNat * 5 + 4, none⟩ = some (.int .i64 ((rd_T59 x7_1 (rd t328 x9_1)).f4))) (ds := [17]) #[false, false, false, false, false, false, false, false, false, false, false, false, false, false, false, false, false, false] (by kernel_rfl) rfl rfl ⟨hx331_0, hx332_0, hx333_0, hx333_1, hx333_2, hx333_3, hx333_4⟩ (fun hHeld => ?_); refine with_tabW estoversref19_add.tab6 estoversref19_add.bits6 (fun HT_ HW_ => ?_)
       generalize wr.drew = w14 at HO_7 HO_8 HB GG12 HQ16 hf12_0 hf12_1 hf12_2 hf12_3 hf12_4 hx12_0 hx12_1 hx12_2 hx12_3 hx12_4 hx331_0 hx332_0 hx333_0 hx333_1 hx333_2 hx333_3 hx333_4 hHeld ⊢
       refine pure_ (i := 0) (N := some 21) (v := ?_) (a' := ?_) #[true, false, false, false, false, false, false, false, false, false, false, false, false, false, false, false, false, false] rfl rfl (any_of HT_.1 (by kernel_rfl)) (fun _ _ _ h => h) (Or.inl ⟨by rfl, ?_⟩) ?_ ?_
       rotate_left
       ·intro w'
        go_simp
        with_reducible rfl
       rotate_left
       ·simp only [Act.put, z1, z2, z3, i64_w, i32_w]
        rfl
       refine pure_ (i := 1) (N := some 22) (v := ?_) (a' := ?_) #[true, true, false, false, false, false, false, false, false, false, false, false, false, false, false, false, false, false] rfl rfl (any_of HT_.1 (by kernel_rfl)) (fun _ _ _ h => h) (Or.inl ⟨by rfl, ?_⟩) ?_ ?_
       rotate_left
       ·intro w'
        go_simp
        with_reducible rfl
       rotate_left
       ·simp only [Act.put, z1, z2, z3, i64_w, i32_w]
        rfl
       refine pure_ (i := 2) (N := some 23) (v := ?_) (a' := ?_) #[true, true, true, false, false, false, false, false, false, false, false, false, false, false, false, false, false, false] rfl rfl (any_of HT_.1 (by kernel_rfl)) (fun _ _ _ h => h) (Or.inl ⟨by rfl, ?_⟩) ?_ ?_
       rotate_left
       ·intro w'
        go_simp
        with_reducible rfl
       rotate_left
       ·simp only [Act.put, z1, z2, z3, i64_w, i32_w]
        rfl
       refine pure_ (i := 3) (N := some 24) (v := ?_) (a' := ?_) #[true, true, true, true, false, false, false, false, false, false, false, false, false, false, false, false, false, false] rfl rfl (any_of HT_.1 (by kernel_rfl)) (fun _ _ _ h => h) (Or.inl ⟨by rfl, ?_⟩) ?_ ?_
       rotate_left
       ·intro w'
        go_simp
        with_reducible rfl
       rotate_left
       ·simp only [Act.put, z1, z2, z3, i64_w, i32_w]
        rfl
       refine pure_ (i := 5) (N := some 26) (v := ?_) (a' := ?_) #[true, true, true, true, false, true, false, false, false, false, false, false, false, false, false, false, false, false] rfl rfl (any_of HT_.1 (by kernel_rfl)) (fun _ _ _ h => h) (Or.inl ⟨by rfl, ?_⟩) ?_ ?_
       rotate_left
       ·intro w'
        go_simp
        with_reducible rfl
       rotate_left
       ·simp only [Act.put, z1, z2, z3, i64_w, i32_w]
        rfl
       refine pure_ (i := 6) (N := some 27) (v := ?_) (a' := ?_) #[true, true, true, true, false, true, true, false, false, false, false, false, false, false, false, false, false, false] rfl rfl (any_of HT_.1 (by kernel_rfl)) (fun _ _ _ h => h) (Or.inl ⟨by rfl, ?_⟩) ?_ ?_
       rotate_left
       ·intro w'
        go_simp
        with_reducible rfl
       rotate_left
       ·simp only [Act.put, z1, z2, z3, i64_w, i32_w]
        rfl
       refine pure_ (i := 7) (N := some 28) (v := ?_) (a' := ?_) #[true, true, true, true, false, true, true, true, false, false, false, false, false, false, false, false, false, false] rfl rfl (any_of HT_.1 (by kernel_rfl)) (fun _ _ _ h => h) (Or.inl ⟨by rfl, ?_⟩) ?_ ?_
       rotate_left
       ·intro w'
        go_simp
        with_reducible rfl
       rotate_left
       ·simp only [Act.put, z1, z2, z3, i64_w, i32_w]
        rfl
       refine pure_ (i := 8) (N := some 29) (v := ?_) (a' := ?_) #[true, true, true, true, false, true, true, true, true, false, false, false, false, false, false, false, false, false] rfl rfl (any_of HT_.1 (by kernel_rfl)) (fun _ _ _ h => h) (Or.inl ⟨by rfl, ?_⟩) ?_ ?_
       rotate_left
       ·intro w'
        go_simp
        with_reducible rfl
       rotate_left
       ·simp only [Act.put, z1, z2, z3, i64_w, i32_w]
        rfl
       refine pure_ (i := 13) (N := some 34) (v := ?_) (a' := ?_) #[true, true, true, true, false, true, true, true, true, false, false, false, false, true, false, false, false, false] rfl rfl (any_of HT_.1 (by kernel_rfl)) (fun _ _ _ h => h) (Or.inl ⟨by rfl, ?_⟩) ?_ ?_
       rotate_left
       ·intro w'
        go_simp
        with_reducible rfl
       rotate_left
       ·simp only [Act.put, z1, z2, z3, i64_w, i32_w]
        rfl
       refine take_ (i := 4) (N := some 25) (v := ?_) (a' := ?_) #[true, true, true, true, true, true, true, true, true, false, false, false, false, true, false, false, false, false] rfl rfl (take_ofW HT_.1 HW_.1 (by kernel_rfl)) (fun _ _ _ h => h) (Or.inl ⟨by rfl, ?_⟩) hHeld ?_ ?_
       rotate_left
       ·rintro w' ⟨s0, s1, s2, s3, s4, s5, s6⟩
        go_simp
        with_reducible rfl
       rotate_left
       ·simp only [Act.put, z1, z2, z3, i64_w, i32_w]
        rfl
       refine take_ (i := 9) (N := some 30) (v := ?_) (a' := ?_) #[true, true, true, true, true, true, true, true, true, true, false, false, false, true, false, false, false, false] rfl rfl (take_ofW HT_.1 HW_.1 (by kernel_rfl)) (fun _ _ _ h => h) (Or.inl ⟨by rfl, ?_⟩) hHeld ?_ ?_
       rotate_left
       ·rintro w' ⟨s0, s1, s2, s3, s4, s5, s6⟩
        go_simp
        with_reducible rfl
       rotate_left
       ·simp only [Act.put, z1, z2, z3, i64_w, i32_w]
        rfl
       refine pure_ (i := 10) (N := some 31) (v := ?_) (a' := ?_) #[true, true, true, true, true, true, true, true, true, true, true, false, false, true, false, false, false, false] rfl rfl (any_of HT_.1 (by kernel_rfl)) (fun _ _ _ h => h) (Or.inl ⟨by rfl, ?_⟩) ?_ ?_
       rotate_left
       ·intro w'
        go_simp
        with_reducible rfl
       rotate_left
       ·simp only [Act.put, z1, z2, z3, i64_w, i32_w]
        rfl
       refine pure_ (i := 11) (N := some 32) (v := ?_) (a' := ?_) #[true, true, true, true, true, true, true, true, true, true, true, true, false, true, false, false, false, false] rfl rfl (any_of HT_.1 (by kernel_rfl)) (fun _ _ _ h => h) (Or.inl ⟨by rfl, ?_⟩) ?_ ?_
       rotate_left
       ·intro w'
        go_simp
        with_reducible rfl
       rotate_left
       ·simp only [Act.put, z1, z2, z3, i64_w, i32_w]
        rfl
       refine take_ (i := 12) (N := some 33) (v := ?_) (a' := ?_) #[true, true, true, true, true, true, true, true, true, true, true, true, true, true, false, false, false, false] rfl rfl (take_ofW HT_.1 HW_.1 (by kernel_rfl)) (fun _ _ _ h => h) (Or.inl ⟨by rfl, ?_⟩) hHeld ?_ ?_
       rotate_left
       ·rintro w' ⟨s0, s1, s2, s3, s4, s5, s6⟩
        go_simp
        with_reducible rfl
       rotate_left
       ·simp only [Act.put, z1, z2, z3, i64_w, i32_w]
        rfl
       refine pure_ (i := 14) (N := some 35) (v := ?_) (a' := ?_) #[true, true, true, true, true, true, true, true, true, true, true, true, true, true, true, false, false, false] rfl rfl (any_of HT_.1 (by kernel_rfl)) (fun _ _ _ h => h) (Or.inl ⟨by rfl, ?_⟩) ?_ ?_
       rotate_left
       ·intro w'
        go_simp
        with_reducible rfl
       rotate_left
       ·simp only [Act.put, z1, z2, z3, i64_w, i32_w]
        rfl
       refine pure_ (i := 15) (N := some 36) (v := ?_) (a' := ?_) #[true, true, true, true, true, true, true, true, true, true, true, true, true, true, true, true, false, false] rfl rfl (any_of HT_.1 (by kernel_rfl)) (fun _ _ _ h => h) (Or.inl ⟨by rfl, ?_⟩) ?_ ?_
       rotate_left
       ·intro w'
        go_simp
        with_reducible rfl
       rotate_left
       ·simp only [Act.put, z1, z2, z3, i64_w, i32_w]
        rfl
       refine pure_ (i := 16) (N := some 37) (v := ?_) (a' := ?_) #[true, true, true, true, true, true, true, true, true, true, true, true, true, true, true, true, true, false] rfl rfl (any_of HT_.1 (by kernel_rfl)) (fun _ _ _ h => h) (Or.inl ⟨by rfl, ?_⟩) ?_ ?_
       rotate_left
       ·intro w'
        go_simp
        with_reducible rfl
       rotate_left
       ·simp only [Act.put, z1, z2, z3, i64_w, i32_w]
        rfl
       refine last_ (i := 17) (N := none) #[true, true, true, true, true, true, true, true, true, true, true, true, true, true, true, true, true, true] rfl rfl (one_of HT_.1 (by kernel_rfl)) (by decide) (fun K hK => ?_)
       refine skip_ (w1 := ?_) (by rfl) rfl ?_ ?_
       rotate_left
       ·go_simp
        rfl
       refine hK.out _ _ ?_
       clear hK K
       refine done_ (done_of HT_.1 (by kernel_rfl)) ?_
       try go_wp2
       go_roundg k1
       case measure => have := HK1.1; omega
       case rel => exact ⟨(y334), (wrap64 (x9_1 + 1)), (by first | rfl | (simp; done) | (simp [*]; done)), H', ⟨by have := HK1.1; omega⟩, ⟨by (with_reducible repeat (first | apply Kd.R_alloc | apply Kd.R_drewN | apply Kd.R_drew)); exact HQ16.out⟩, ⟨by (with_reducible repeat (first | apply Kd.R_alloc | apply Kd.R_drewN | apply Kd.R_drew)); exact Kd.R_mono (Kd.R_far (p := ⟨go12, ((rd t328 x9_1) : Int).toNat * 5 + 1, none⟩) (Kd.R_types HO_8.1 GG12.out (by decide)) (fun _ hk => hk.2) (.int .i64 (wrap64 (((rd_T59 x7_1 (rd t328 x9_1)).f1) + a2)))) (fun _ hk => trivial)⟩, ⟨by repeat (first | (with_reducible first | exact HB.1 | apply zA | apply zN | apply zD | refine zS ?_ GB12.1) | exact HB.1)⟩⟩
      ·rw [if_neg c11] at H
       exact absurd H (by simp)
     ·rw [if_neg c10] at H
      exact absurd H (by simp)
    ·rw [if_neg c9] at H
     exact absurd H (by simp)
   ·rw [if_neg c8] at H
    have c8b0 : decide (x9_1 < (t328.length : Int)) = false := decide_eq_false c8
    clear c8
    obtain rfl := Option.some.inj H
    obtain ⟨Ao17, co17, eo17⟩ := Kd.R_slice HO_8.1
    subst eo17
    go_wp2
    go_ret
    exact ⟨_, by first | rfl | (simp [errW_none, errW_some] <;> rfl) | (simp [*, errW_none, errW_some] <;> rfl), by (with_reducible repeat (first | apply Kd.R_alloc | apply Kd.R_drewN | apply Kd.R_drew)); exact HO_7.1, by repeat (first | (with_reducible first | exact HB.1 | apply zA | apply zN | apply zD) | exact HB.1)⟩
end Go.Proofs.Ytimlodcdfekbhaa.PGrantServes
