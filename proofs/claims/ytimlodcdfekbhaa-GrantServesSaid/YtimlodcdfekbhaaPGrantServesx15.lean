-- Printed by a copy of the kit's printer that this session has patched (wip/tools/patch_print.py): the session's own text. Lean checks it.
import Derived.Test.YtimlodcdfekbhaaPGrantServesx0
import Derived.Test.YtimlodcdfekbhaaPGrantServesx2
import Derived.Test.YtimlodcdfekbhaaPGrantServesx7
import Derived.Test.YtimlodcdfekbhaaPGrantServesx8
import Derived.Test.YtimlodcdfekbhaaPGrantServesx14
namespace Go.Proofs.Ytimlodcdfekbhaa.PGrantServes
open Go.RowKit Go.Proofs.YtimlodcdfekbhaaW.PrintWords Go.Proofs.YtimlodcdfekbhaaW.PrintLast Go.Proofs.YtimlodcdfekbhaaW.PrintMore
attribute [local go_sem] max2_int min2_int max_two min_two max_three min_three max_four min_four   -- for this text's walks alone
set_option linter.unusedVariables false
set_option linter.unusedSimpArgs false
attribute [local go_sem high] eqA59
def estoversref19_Same.l0 : Nat → List (S59) → List (S59) → Int → Option (Bool)
 | 0, _, _, _ => none
 | k + 1, x0, x1, x5 => if x5 < (x0.length : Int) then (if 0 ≤ x5 then (if x5 < (x1.length : Int) then (if (!(((rd_T59 x0 x5).f0) == ((rd_T59 x1 x5).f0)) || (!(((rd_T59 x0 x5).f1) == ((rd_T59 x1 x5).f1)) || (!(((rd_T59 x0 x5).f2) == ((rd_T59 x1 x5).f2)) || (!(((rd_T59 x0 x5).f3) == ((rd_T59 x1 x5).f3)) || (!(((rd_T59 x0 x5).f4) == ((rd_T59 x1 x5).f4))))))) = true then (some false) else (estoversref19_Same.l0 k x0 x1 (wrap64 (x5 + 1)))) else (none)) else (none)) else (some true)
def estoversref19_Same.f (k : Nat) (l0 : List (S59)) (l1 : List (S59)) : Option (Bool) := if (l0.length : Int) = (l1.length : Int) then (estoversref19_Same.l0 k l0 l1 0) else (some false)
theorem estoversref19_Same.mono_l : ∀ k, (∀ y0 y1 y2, LeO (estoversref19_Same.l0 k y0 y1 y2) (estoversref19_Same.l0 (k + 1) y0 y1 y2))
 | 0 => fun _ _ _ r h => by simp [estoversref19_Same.l0] at h
 | k + 1 => by
  have ih0 := estoversref19_Same.mono_l k
  ·intro y0 y1 y2
   unfold estoversref19_Same.l0
   repeat' first
   | (with_reducible exact ih0 _ _ _)
   | (with_reducible exact LeO.refl _)
   | (with_reducible exact LeO.none _)
   | (with_reducible refine LeO.ite ?_ ?_)
   | (with_reducible refine LeO.bind ?_ (fun _ => ?_))
   | exact ih0 _ _ _
   | exact LeO.none _
   | refine LeO.ite ?_ ?_
   | refine LeO.bind ?_ (fun _ => ?_)
theorem estoversref19_Same.mono : ∀ a0 a1 k, LeO (estoversref19_Same.f k a0 a1) (estoversref19_Same.f (k + 1) a0 a1) := by
 intro a0 a1 k
 have ih0 := estoversref19_Same.mono_l k
 unfold estoversref19_Same.f
 repeat' first
   | (with_reducible exact ih0 _ _ _)
   | (with_reducible exact LeO.refl _)
   | (with_reducible exact LeO.none _)
   | (with_reducible refine LeO.ite ?_ ?_)
   | (with_reducible refine LeO.bind ?_ (fun _ => ?_))
   | exact ih0 _ _ _
   | exact LeO.none _
   | refine LeO.ite ?_ ?_
   | refine LeO.bind ?_ (fun _ => ?_)
set_option maxHeartbeats 8000000 in
set_option maxRecDepth 100000 in
theorem estoversref19_Same.calls (k : Nat) (A0 : Option Addr) (c0 : Nat) (l0 : List (S59)) (A1 : Option Addr) (c1 : Nat) (l1 : List (S59)) (r : Bool) (w : World) (hr0 : Kd.C k59 w A0 l0.length l0) (hc0 : l0.length ≤ c0) (hr1 : Kd.C k59 w A1 l1.length l1) (hc1 : l1.length ≤ c1) (h : estoversref19_Same.f k l0 l1 = some r) :
  Calls Try.prog 22 #[.slice A0 l0.length c0, .slice A1 l1.length c1] w fun e w' => e = .returned (.bool r) ∧ Drawn0 w w' := by
 have hu59 := Try.underlying59
 have HR0 := zM hr0
 have HC0 := zM hc0
 clear hr0 hc0
 have HR1 := zM hr1
 have HC1 := zM hc1
 clear hr1 hc1
 have H : (if (l0.length : Int) = (l1.length : Int) then (estoversref19_Same.l0 k l0 l1 0) else (some false)) = some r := h
 clear h
 by_cases c3 : (l0.length : Int) = (l1.length : Int)
 ·rw [if_pos c3] at H
  have c3b0 : ((l0.length : Int) == (l1.length : Int)) = true := beq_iff_eq.mpr c3
  have c3b1 : ((l0.length : Int) != (l1.length : Int)) = false := bne_eq_false_iff_eq.mpr c3
  have c3b2 : (l0.length == l1.length) = true := by first | simpa using c3 | (simp at c3 ⊢; omega)
  clear c3
  have H' := zM H
  clear H
  go_enter Try.func22, Try.ntmps22
  go_wp2
  repeat (go_quiet (fail); try go_wp2)
  go_loopg [5] k (fun kq v5 w' => ∃ (x5_1 : Int), v5 = .int .i64 x5_1 ∧ Aside0 (estoversref19_Same.l0 kq l0 l1 x5_1 = some r) ∧ Aside0 (kq ≤ k) ∧ Drawn0 w w')
  case atStart => exact ⟨(0), (by first | rfl | (simp; done) | (simp [*]; done)), H', ⟨Nat.le_refl _⟩, by repeat (first | exact Drawn0.refl _ | apply Drawn0.step)⟩
  case round =>
   clear H'
   try clear c1
   try clear c2
   try clear p2
   try clear c3
   try clear c3b0
   try clear c3b1
   try clear c3b2
   obtain ⟨x5_1, rfl, HA, HK1, ⟨m1, rfl⟩⟩ := hrel
   cases gk with
   | zero => exact absurd HA.1 (by simp [estoversref19_Same.l0])
   | succ k1 =>
    have H := HA.1
    clear HA
    simp only [estoversref19_Same.l0] at H
    by_cases c4 : x5_1 < (l0.length : Int)
    ·rw [if_pos c4] at H
     have c4b0 : decide (x5_1 < (l0.length : Int)) = true := decide_eq_true c4
     clear c4
     by_cases c5 : 0 ≤ x5_1
     ·rw [if_pos c5] at H
      have c5b0 : decide (0 ≤ x5_1) = true := decide_eq_true c5
      clear c5
      by_cases c6 : x5_1 < (l1.length : Int)
      ·rw [if_pos c6] at H
       have c6b0 : decide (x5_1 < (l1.length : Int)) = true := decide_eq_true c6
       clear c6
       by_cases c7 : (!(((rd_T59 l0 x5_1).f0) == ((rd_T59 l1 x5_1).f0)) || (!(((rd_T59 l0 x5_1).f1) == ((rd_T59 l1 x5_1).f1)) || (!(((rd_T59 l0 x5_1).f2) == ((rd_T59 l1 x5_1).f2)) || (!(((rd_T59 l0 x5_1).f3) == ((rd_T59 l1 x5_1).f3)) || (!(((rd_T59 l0 x5_1).f4) == ((rd_T59 l1 x5_1).f4))))))) = true
       ·rw [if_pos c7] at H
        have c7b0 : (!(((rd_T59 l0 x5_1).f0) == ((rd_T59 l1 x5_1).f0)) || (!(((rd_T59 l0 x5_1).f1) == ((rd_T59 l1 x5_1).f1)) || (!(((rd_T59 l0 x5_1).f2) == ((rd_T59 l1 x5_1).f2)) || (!(((rd_T59 l0 x5_1).f3) == ((rd_T59 l1 x5_1).f3)) || (!(((rd_T59 l0 x5_1).f4) == ((rd_T59 l1 x5_1).f4))))))) = true := c7
        clear c7
        obtain rfl := Option.some.inj H
        have p372 : 0 ≤ (x5_1 : Int) := zo (by first | (with_reducible assumption) | assumption)
        have q372 : x5_1 < (l0.length : Int) := zo (by first | (with_reducible assumption) | assumption)
        obtain ⟨ad372, e372, hx372_0, hx372_1, hx372_2, hx372_3, hx372_4⟩ := at_T59 HR0.1 x5_1 p372 q372
        cases e372
        replace p372 := eq_true p372
        replace q372 := eq_true q372
        have p373 : 0 ≤ (x5_1 : Int) := zo (by first | (with_reducible assumption) | assumption)
        have q373 : x5_1 < (l1.length : Int) := zo (by first | (with_reducible assumption) | assumption)
        obtain ⟨ad373, e373, hx373_0, hx373_1, hx373_2, hx373_3, hx373_4⟩ := at_T59 HR1.1 x5_1 p373 q373
        cases e373
        replace p373 := eq_true p373
        replace q373 := eq_true q373
        go_wp2
        repeat (go_quiet (fail); try go_wp2)
        go_ret
        exact ⟨by first | rfl | (simp; done) | (simp [*]; done), by repeat (first | exact Drawn0.refl _ | apply Drawn0.step)⟩
       ·rw [if_neg c7] at H
        have c7b0 : (!(((rd_T59 l0 x5_1).f0) == ((rd_T59 l1 x5_1).f0)) || (!(((rd_T59 l0 x5_1).f1) == ((rd_T59 l1 x5_1).f1)) || (!(((rd_T59 l0 x5_1).f2) == ((rd_T59 l1 x5_1).f2)) || (!(((rd_T59 l0 x5_1).f3) == ((rd_T59 l1 x5_1).f3)) || (!(((rd_T59 l0 x5_1).f4) == ((rd_T59 l1 x5_1).f4))))))) = false := by simpa using c7
        clear c7
        have H' := zM H
        clear H
        have p372 : 0 ≤ (x5_1 : Int) := zo (by first | (with_reducible assumption) | assumption)
        have q372 : x5_1 < (l0.length : Int) := zo (by first | (with_reducible assumption) | assumption)
        obtain ⟨ad372, e372, hx372_0, hx372_1, hx372_2, hx372_3, hx372_4⟩ := at_T59 HR0.1 x5_1 p372 q372
        cases e372
        replace p372 := eq_true p372
        replace q372 := eq_true q372
        have p373 : 0 ≤ (x5_1 : Int) := zo (by first | (with_reducible assumption) | assumption)
        have q373 : x5_1 < (l1.length : Int) := zo (by first | (with_reducible assumption) | assumption)
        obtain ⟨ad373, e373, hx373_0, hx373_1, hx373_2, hx373_3, hx373_4⟩ := at_T59 HR1.1 x5_1 p373 q373
        cases e373
        replace p373 := eq_true p373
        replace q373 := eq_true q373
        go_wp2
        repeat (go_quiet (fail); try go_wp2)
        go_roundg k1
        case measure => have := HK1.1; omega
        case rel => exact ⟨(wrap64 (x5_1 + 1)), (by first | rfl | (simp; done) | (simp [*]; done)), H', ⟨by have := HK1.1; omega⟩, by repeat (first | exact Drawn0.refl _ | apply Drawn0.step)⟩
      ·rw [if_neg c6] at H
       exact absurd H (by simp)
     ·rw [if_neg c5] at H
      exact absurd H (by simp)
    ·rw [if_neg c4] at H
     have c4b0 : decide (x5_1 < (l0.length : Int)) = false := decide_eq_false c4
     clear c4
     obtain rfl := Option.some.inj H
     go_wp2
     repeat (go_quiet (fail); try go_wp2)
     go_ret
     exact ⟨by first | rfl | (simp; done) | (simp [*]; done), by repeat (first | exact Drawn0.refl _ | apply Drawn0.step)⟩
 ·rw [if_neg c3] at H
  have c3b0 : ((l0.length : Int) == (l1.length : Int)) = false := beq_eq_false_iff_ne.mpr c3
  have c3b1 : ((l0.length : Int) != (l1.length : Int)) = true := bne_iff_ne.mpr c3
  have c3b2 : (l0.length == l1.length) = false := by first | simpa using c3 | (simp at c3 ⊢; omega)
  obtain rfl := Option.some.inj H
  go_enter Try.func22, Try.ntmps22
  go_wp2
  repeat (go_quiet (fail); try go_wp2)
  go_ret
  exact ⟨by first | rfl | (simp; done) | (simp [*]; done), by repeat (first | exact Drawn0.refl _ | apply Drawn0.step)⟩
def estoverslaw21_GrantServes.j0 : Nat → List (S37) → List (S59) → Bool → Int → Int → Option (Bool)
 | 0, _, _, _, _, _ => none
 | k + 1, x0, x1, x20, x375000, x375001 => if x20 = true then ((estoverslaw21_awake.f k).bind fun t377 => (some t377)) else ((grant_Serve.f k x0 x1 x375000 x375001).bind fun bt378 => ((estoversref21_Serve.f k x0 x1 x375000 x375001).bind fun bt383 => (if bt378.1 = bt383.1 then (if bt378.2.2 = bt383.2.2 then ((estoversref19_Same.f k bt378.2.1 bt383.2.1).bind fun t388 => (some t388)) else (none)) else (none))))
def estoverslaw21_GrantServes.f (k : Nat) (l0 : List (S37)) (l1 : List (S59)) (a2_0 : Int) (a2_1 : Int) : Option (Bool) := (estoverslaw21_awake.f k).bind fun t375 => (if t375 = true then ((estoverslaw21_few.f l0 l1).bind fun t376 => (estoverslaw21_GrantServes.j0 k l0 l1 (!t376) a2_0 a2_1)) else (estoverslaw21_GrantServes.j0 k l0 l1 true a2_0 a2_1))
theorem estoverslaw21_GrantServes.mono_l : ∀ k, (∀ y0 y1 y2 y3 y4, LeO (estoverslaw21_GrantServes.j0 k y0 y1 y2 y3 y4) (estoverslaw21_GrantServes.j0 (k + 1) y0 y1 y2 y3 y4))
 | 0 => fun _ _ _ _ _ r h => by simp [estoverslaw21_GrantServes.j0] at h
 | k + 1 => by
  have ih0 := estoverslaw21_GrantServes.mono_l k
  ·intro y0 y1 y2 y3 y4
   unfold estoverslaw21_GrantServes.j0
   repeat' first
   | (with_reducible exact ih0 _ _ _ _ _)
   | (with_reducible exact estoverslaw21_awake.mono _)
   | (with_reducible exact estoversref19_Same.mono _ _ _)
   | (with_reducible exact estoversref21_Serve.mono _ _ _ _ _)
   | (with_reducible exact grant_Serve.mono _ _ _ _ _)
   | (with_reducible exact LeO.refl _)
   | (with_reducible exact LeO.none _)
   | (with_reducible refine LeO.ite ?_ ?_)
   | (with_reducible refine LeO.bind ?_ (fun _ => ?_))
   | exact ih0 _ _ _ _ _
   | exact estoverslaw21_awake.mono _
   | exact estoversref19_Same.mono _ _ _
   | exact estoversref21_Serve.mono _ _ _ _ _
   | exact grant_Serve.mono _ _ _ _ _
   | exact LeO.none _
   | refine LeO.ite ?_ ?_
   | refine LeO.bind ?_ (fun _ => ?_)
theorem estoverslaw21_GrantServes.mono : ∀ a0 a1 a2 a3 k, LeO (estoverslaw21_GrantServes.f k a0 a1 a2 a3) (estoverslaw21_GrantServes.f (k + 1) a0 a1 a2 a3) := by
 intro a0 a1 a2 a3 k
 have ih0 := estoverslaw21_GrantServes.mono_l k
 unfold estoverslaw21_GrantServes.f
 repeat' first
   | (with_reducible exact ih0 _ _ _ _ _)
   | (with_reducible exact estoverslaw21_awake.mono _)
   | (with_reducible exact estoversref19_Same.mono _ _ _)
   | (with_reducible exact estoversref21_Serve.mono _ _ _ _ _)
   | (with_reducible exact grant_Serve.mono _ _ _ _ _)
   | (with_reducible exact LeO.refl _)
   | (with_reducible exact LeO.none _)
   | (with_reducible refine LeO.ite ?_ ?_)
   | (with_reducible refine LeO.bind ?_ (fun _ => ?_))
   | exact ih0 _ _ _ _ _
   | exact estoverslaw21_awake.mono _
   | exact estoversref19_Same.mono _ _ _
   | exact estoversref21_Serve.mono _ _ _ _ _
   | exact grant_Serve.mono _ _ _ _ _
   | exact LeO.none _
   | refine LeO.ite ?_ ?_
   | refine LeO.bind ?_ (fun _ => ?_)
set_option maxHeartbeats 8000000 in
set_option maxRecDepth 100000 in
theorem estoverslaw21_GrantServes.calls (k : Nat) (A0 : Option Addr) (c0 : Nat) (l0 : List (S37)) (A1 : Option Addr) (c1 : Nat) (l1 : List (S59)) (a2_0 : Int) (a2_1 : Int) (r : Bool) (w : World) (hr0 : Kd.C k37 w A0 l0.length l0) (hc0 : l0.length ≤ c0) (hr1 : Kd.C k59 w A1 l1.length l1) (hc1 : l1.length ≤ c1) (h : estoverslaw21_GrantServes.f k l0 l1 a2_0 a2_1 = some r) :
  Calls Try.prog 5 #[.slice A0 l0.length c0, .slice A1 l1.length c1, .agg #[.int .i64 a2_0, .int .i64 a2_1]] w fun e w' => e = .returned (.bool r) ∧ Below w.heap.size w w' := by
 have hu41 := Try.underlying41
 have HR0 := zM hr0
 have HC0 := zM hc0
 clear hr0 hc0
 have HR1 := zM hr1
 have HC1 := zM hc1
 clear hr1 hc1
 have HB := zM (Below.refl w.heap.size w)
 have H : ((estoverslaw21_awake.f k).bind fun t375 => (if t375 = true then ((estoverslaw21_few.f l0 l1).bind fun t376 => (estoverslaw21_GrantServes.j0 k l0 l1 (!t376) a2_0 a2_1)) else (estoverslaw21_GrantServes.j0 k l0 l1 true a2_0 a2_1))) = some r := h
 clear h
 have HC4 := zM H
 clear H
 go_enter Try.func5, Try.ntmps5
 go_upto_region 1 with (first | ((with_reducible refine gate_dst (N := 5) rfl ?_); refine box_event ?hg (N := 5) ?hd (cs := #[.int .i64 a2_0, .int .i64 a2_1]) (t := 41) ?hr ?_; (case hd => rfl); (case hg => rfl); (case hr => first | (go_simp; done) | (go_simp; rfl)); intro gb374 hg w5 hbox hb; have n0_ := zM (zT (by repeat (first | (with_reducible first | exact HB.1 | apply zA | apply zN | apply zD) | exact HB.1)) hb); have n1_ := zM (hbox); have n2_ := zM ((by rw [hg]; exact (zz (by repeat (first | (with_reducible first | exact HB.1 | apply zA | apply zN | apply zD) | exact HB.1))) : w.heap.size ≤ gb374)); have n3_ := zM ((by rw [hg]; exact (zz (by repeat (first | (with_reducible first | exact HB.1 | apply zA | apply zN | apply zD) | exact HB.1))) : w.heap.size ≤ gb374)); clear HB; have HB := n0_; have BK374 := n1_; have GW374 := n2_; have GE374 := n3_; clear n0_ n1_ n2_ n3_; clear hb hbox hg))
 (try simp only [Act.put, z1, z2, z3])
 go_cut [20] (fun v20 wc => ∃ (kq : Nat) (x20_3 : Bool), v20 = .bool x20_3 ∧ Aside0 (estoverslaw21_GrantServes.j0 kq l0 l1 x20_3 a2_0 a2_1 = some r) ∧ Aside0 (kq ≤ k) ∧ Aside0 (wc.heap[gb374]? = some (.cells #[.int .i64 a2_0, .int .i64 a2_1] 41 (0, 0))) ∧ Aside0 (Below w.heap.size w wc))
 case first =>
  have H := HC4.1
  clear HC4
  replace H := Option.bind_eq_some_iff.mp H
  obtain ⟨t375, A60, H⟩ := H
  replace H : (if t375 = true then ((estoverslaw21_few.f l0 l1).bind fun t376 => (estoverslaw21_GrantServes.j0 k l0 l1 (!t376) a2_0 a2_1)) else (estoverslaw21_GrantServes.j0 k l0 l1 true a2_0 a2_1)) = some r := H
  have A6 := zM A60
  clear A60
  by_cases c7 : t375 = true
  ·subst c7
   have H1 : ((estoverslaw21_few.f l0 l1).bind fun t376 => (estoverslaw21_GrantServes.j0 k l0 l1 (!t376) a2_0 a2_1)) = some r := by rw [if_pos rfl] at H; exact H
   clear H
   have H := H1
   clear H1
   replace H := Option.bind_eq_some_iff.mp H
   obtain ⟨t376, A80, H⟩ := H
   replace H : (estoverslaw21_GrantServes.j0 k l0 l1 (!t376) a2_0 a2_1) = some r := H
   have A8 := zM A80
   clear A80
   have H' := zM H
   clear H
   go_wp2_with (first | ((with_reducible refine gate_callee (f := 15) rfl ?_); refine goesL_ (some 13) rfl rfl Try.func15 (by kernel_rfl) rfl #[] rfl (by (try simp only [List.map_toArray, List.map_cons, List.map_nil]); first | done | rfl | (simp only [List.length_drop, List.length_take]; rfl)) ?_; (with_reducible refine (estoverslaw21_awake.calls k  true _ A6.1).mono ?_); rintro e w9 ⟨rfl, hb⟩; refine ⟨_, rfl, ?_⟩; have n0_ := zM (blk_below (g := gb374) (o := .cells #[.int .i64 a2_0, .int .i64 a2_1] 41 (0, 0)) (by (with_reducible repeat (first | refine zn ?_ _ | refine zd ?_ | refine za ?_ _)); exact BK374.1) hb); have n1_ := zM (zT (by repeat (first | (with_reducible first | exact HB.1 | apply zA | apply zN | apply zD | refine zS ?_ GE374.1) | exact HB.1)) hb); clear BK374; clear HB; have BK374 := n0_; have HB := n1_; clear n0_ n1_; (try clear hb); (try clear hb2); (try clear hk); (try clear hi)) | (go_at_call 19; (with_reducible refine (estoverslaw21_few.calls _ _ l0 _ _ l1 t376 _ ?side1 ?side2 ?side3 ?side4 A8.1).mono ?_); (case side1 => repeat (first | exact (Kd.C_below HR0.1 HB.1) | (with_reducible refine Kd.C_alloc ?_ _) | (with_reducible refine Kd.C_drewN ?_ _) | (with_reducible refine Kd.C_drew ?_))); (case side2 => exact HC0.1); (case side3 => repeat (first | exact (Kd.C_below HR1.1 HB.1) | (with_reducible refine Kd.C_alloc ?_ _) | (with_reducible refine Kd.C_drewN ?_ _) | (with_reducible refine Kd.C_drew ?_))); (case side4 => exact HC1.1); rintro e w' ⟨rfl, ⟨nd, rfl⟩⟩))
   go_meet
   case rel => exact ⟨_, (!t376), (by first | rfl | (simp; done) | (simp [*]; done)), H', ⟨by first | omega | exact Nat.le_refl _⟩, ⟨by (with_reducible repeat (first | refine zn ?_ _ | refine zd ?_ | refine za ?_ _)); exact BK374.1⟩, ⟨by repeat (first | (with_reducible first | exact HB.1 | apply zA | apply zN | apply zD | refine zS ?_ GE374.1) | exact HB.1)⟩⟩
  ·replace c7 := Bool.eq_false_iff.mpr c7
   subst c7
   have H1 : (estoverslaw21_GrantServes.j0 k l0 l1 true a2_0 a2_1) = some r := by rw [if_neg (show ¬ (false = true) by decide)] at H; exact H
   clear H
   have H := H1
   clear H1
   have H' := zM H
   clear H
   go_wp2_with (first | ((with_reducible refine gate_callee (f := 15) rfl ?_); refine goesL_ (some 13) rfl rfl Try.func15 (by kernel_rfl) rfl #[] rfl (by (try simp only [List.map_toArray, List.map_cons, List.map_nil]); first | done | rfl | (simp only [List.length_drop, List.length_take]; rfl)) ?_; (with_reducible refine (estoverslaw21_awake.calls k  false _ A6.1).mono ?_); rintro e w10 ⟨rfl, hb⟩; refine ⟨_, rfl, ?_⟩; have n0_ := zM (blk_below (g := gb374) (o := .cells #[.int .i64 a2_0, .int .i64 a2_1] 41 (0, 0)) (by (with_reducible repeat (first | refine zn ?_ _ | refine zd ?_ | refine za ?_ _)); exact BK374.1) hb); have n1_ := zM (zT (by repeat (first | (with_reducible first | exact HB.1 | apply zA | apply zN | apply zD | refine zS ?_ GE374.1) | exact HB.1)) hb); clear BK374; clear HB; have BK374 := n0_; have HB := n1_; clear n0_ n1_; (try clear hb); (try clear hb2); (try clear hk); (try clear hi)))
   go_meet
   case rel => exact ⟨_, (true), (by first | rfl | (simp; done) | (simp [*]; done)), H', ⟨by first | omega | exact Nat.le_refl _⟩, ⟨by (with_reducible repeat (first | refine zn ?_ _ | refine zd ?_ | refine za ?_ _)); exact BK374.1⟩, ⟨by repeat (first | (with_reducible first | exact HB.1 | apply zA | apply zN | apply zD | refine zS ?_ GE374.1) | exact HB.1)⟩⟩
 case rest =>
  clear HC4
  try clear c1
  try clear p2
  try clear c5
  try clear c7
  obtain ⟨kq, x20_3, rfl, HA, HJ3, BK374, HB⟩ := hcut
  cases kq with
  | zero => exact absurd HA.1 (by simp [estoverslaw21_GrantServes.j0])
  | succ kj3 =>
   have H := HA.1
   clear HA
   simp only [estoverslaw21_GrantServes.j0] at H
   by_cases c11 : x20_3 = true
   ·subst c11
    have H1 : ((estoverslaw21_awake.f kj3).bind fun t377 => (some t377)) = some r := by rw [if_pos rfl] at H; exact H
    clear H
    have H := H1
    clear H1
    replace H := Option.bind_eq_some_iff.mp H
    obtain ⟨t377, A120, H⟩ := H
    replace H : (some t377) = some r := H
    have A12 := zM A120
    clear A120
    obtain rfl := Option.some.inj H
    go_wp2_with (first | ((with_reducible refine gate_callee (f := 15) rfl ?_); refine goesL_ (some 21) rfl rfl Try.func15 (by kernel_rfl) rfl #[] rfl (by (try simp only [List.map_toArray, List.map_cons, List.map_nil]); first | done | rfl | (simp only [List.length_drop, List.length_take]; rfl)) ?_; (with_reducible refine (estoverslaw21_awake.calls kj3  t377 _ A12.1).mono ?_); rintro e w13 ⟨rfl, hb⟩; refine ⟨_, rfl, ?_⟩; have n0_ := zM (blk_below (g := gb374) (o := .cells #[.int .i64 a2_0, .int .i64 a2_1] 41 (0, 0)) (by (with_reducible repeat (first | refine zn ?_ _ | refine zd ?_ | refine za ?_ _)); exact BK374.1) hb); have n1_ := zM (zT (by repeat (first | (with_reducible first | exact HB.1 | apply zA | apply zN | apply zD | refine zS ?_ GE374.1) | exact HB.1)) hb); clear BK374; clear HB; have BK374 := n0_; have HB := n1_; clear n0_ n1_; (try clear hb); (try clear hb2); (try clear hk); (try clear hi)))
    go_ret
    exact ⟨by first | rfl | (simp [errW_none, errW_some] <;> rfl) | (simp [*, errW_none, errW_some] <;> rfl), by repeat (first | (with_reducible first | exact HB.1 | apply zA | apply zN | apply zD | refine zS ?_ GE374.1) | exact HB.1)⟩
   ·replace c11 := Bool.eq_false_iff.mpr c11
    subst c11
    have H1 : ((grant_Serve.f kj3 l0 l1 a2_0 a2_1).bind fun bt378 => ((estoversref21_Serve.f kj3 l0 l1 a2_0 a2_1).bind fun bt383 => (if bt378.1 = bt383.1 then (if bt378.2.2 = bt383.2.2 then ((estoversref19_Same.f kj3 bt378.2.1 bt383.2.1).bind fun t388 => (some t388)) else (none)) else (none)))) = some r := by rw [if_neg (show ¬ (false = true) by decide)] at H; exact H
    clear H
    have H := H1
    clear H1
    replace H := Option.bind_eq_some_iff.mp H
    obtain ⟨⟨t378, t379, t380⟩, A140, H⟩ := H
    replace H : ((estoversref21_Serve.f kj3 l0 l1 a2_0 a2_1).bind fun bt383 => (if t378 = bt383.1 then (if t380 = bt383.2.2 then ((estoversref19_Same.f kj3 t379 bt383.2.1).bind fun t388 => (some t388)) else (none)) else (none))) = some r := H
    have A14 := zM A140
    clear A140
    replace H := Option.bind_eq_some_iff.mp H
    obtain ⟨⟨t383, t384, t385⟩, A150, H⟩ := H
    replace H : (if t378 = t383 then (if t380 = t385 then ((estoversref19_Same.f kj3 t379 t384).bind fun t388 => (some t388)) else (none)) else (none)) = some r := H
    have A15 := zM A150
    clear A150
    by_cases c16 : t378 = t383
    ·rw [if_pos c16] at H
     have c16b0 : (t378 == t383) = true := beq_iff_eq.mpr c16
     have c16b1 : (t378 != t383) = false := bne_eq_false_iff_eq.mpr c16
     clear c16
     by_cases c17 : t380 = t385
     ·rw [if_pos c17] at H
      have c17b0 : (t380 == t385) = true := beq_iff_eq.mpr c17
      have c17b1 : (t380 != t385) = false := bne_eq_false_iff_eq.mpr c17
      clear c17
      replace H := Option.bind_eq_some_iff.mp H
      obtain ⟨t388, A180, H⟩ := H
      replace H : (some t388) = some r := H
      have A18 := zM A180
      clear A180
      obtain rfl := Option.some.inj H
      have hcz19_0 : wc.cell? ⟨gb374, 0, none⟩ = some (.int .i64 a2_0) := (zc BK374.1 0).trans rfl
      have hcz19_1 : wc.cell? ⟨gb374, 1, none⟩ = some (.int .i64 a2_1) := (zc BK374.1 1).trans rfl
      have hfz19_0 := zf BK374.1 0
      have hfz19_1 := zf BK374.1 1
      go_wp2_with (first | ((with_reducible refine gate_callee (f := 20) rfl ?_); refine goesL_ (some 29) rfl rfl Try.func20 (by kernel_rfl) rfl #[.slice A0 l0.length c0, .slice A1 l1.length c1, .int .i64 a2_0, .int .i64 a2_1] rfl (by (try simp only [List.map_toArray, List.map_cons, List.map_nil]); first | done | rfl | (simp only [List.length_drop, List.length_take]; rfl)) ?_; (with_reducible refine (grant_Serve.calls kj3 _ _ l0 _ _ l1 a2_0 a2_1 t378 t379 t380 _ ?side1 ?side2 ?side3 ?side4 A14.1).mono ?_); (case side1 => repeat (first | exact (Kd.C_below HR0.1 HB.1) | (with_reducible refine Kd.C_alloc ?_ _) | (with_reducible refine Kd.C_drewN ?_ _) | (with_reducible refine Kd.C_drew ?_))); (case side2 => exact HC0.1); (case side3 => repeat (first | exact (Kd.C_below HR1.1 HB.1) | (with_reducible refine Kd.C_alloc ?_ _) | (with_reducible refine Kd.C_drewN ?_ _) | (with_reducible refine Kd.C_drew ?_))); (case side4 => exact HC1.1); rintro e w20 ⟨v381, rfl, ho0, hb⟩; refine ⟨_, rfl, ?_⟩; have n0_ := zM (Kd.R_lower ho0 (zz (by repeat (first | (with_reducible first | exact HB.1 | apply zA | apply zN | apply zD | refine zS ?_ GE374.1) | exact HB.1)))); have n1_ := zM (blk_below (g := gb374) (o := .cells #[.int .i64 a2_0, .int .i64 a2_1] 41 (0, 0)) (by (with_reducible repeat (first | refine zn ?_ _ | refine zd ?_ | refine za ?_ _)); exact BK374.1) hb); have n2_ := zM (zT (by repeat (first | (with_reducible first | exact HB.1 | apply zA | apply zN | apply zD | refine zS ?_ GE374.1) | exact HB.1)) hb); clear BK374; clear HB; have HO382 := n0_; have BK374 := n1_; have HB := n2_; clear n0_ n1_ n2_; (try clear hb); (try clear hb2); (try clear hk); (try clear hi); (try clear ho0); have hcz21_0 : w20.cell? ⟨gb374, 0, none⟩ = some (.int .i64 a2_0) := (zc BK374.1 0).trans rfl; have hcz21_1 : w20.cell? ⟨gb374, 1, none⟩ = some (.int .i64 a2_1) := (zc BK374.1 1).trans rfl; have hfz21_0 := zf BK374.1 0; have hfz21_1 := zf BK374.1 1) | ((with_reducible refine gate_callee (f := 21) rfl ?_); refine goesL_ (some 40) rfl rfl Try.func21 (by kernel_rfl) rfl #[.slice A0 l0.length c0, .slice A1 l1.length c1, .int .i64 a2_0, .int .i64 a2_1] rfl (by (try simp only [List.map_toArray, List.map_cons, List.map_nil]); first | done | rfl | (simp only [List.length_drop, List.length_take]; rfl)) ?_; (with_reducible refine (estoversref21_Serve.calls kj3 _ _ l0 _ _ l1 a2_0 a2_1 t383 t384 t385 _ ?side1 ?side2 ?side3 ?side4 A15.1).mono ?_); (case side1 => repeat (first | exact (Kd.C_below HR0.1 HB.1) | (with_reducible refine Kd.C_alloc ?_ _) | (with_reducible refine Kd.C_drewN ?_ _) | (with_reducible refine Kd.C_drew ?_))); (case side2 => exact HC0.1); (case side3 => repeat (first | exact (Kd.C_below HR1.1 HB.1) | (with_reducible refine Kd.C_alloc ?_ _) | (with_reducible refine Kd.C_drewN ?_ _) | (with_reducible refine Kd.C_drew ?_))); (case side4 => exact HC1.1); rintro e w22 ⟨v386, rfl, ho0, hb⟩; refine ⟨_, rfl, ?_⟩; have n0_ := zM (Kd.R_elder' (by (with_reducible repeat (first | apply Kd.R_alloc | apply Kd.R_drewN | apply Kd.R_drew)); exact HO382.1) (Kd.R_base ho0) hb); have n1_ := zM (Kd.R_lower (Kd.R_new' ho0 (Kd.R_lt (by (with_reducible repeat (first | apply Kd.R_alloc | apply Kd.R_drewN | apply Kd.R_drew)); exact HO382.1))) (zz (by repeat (first | (with_reducible first | exact HB.1 | apply zA | apply zN | apply zD | refine zS ?_ GE374.1) | exact HB.1)))); have n2_ := zM (blk_below (g := gb374) (o := .cells #[.int .i64 a2_0, .int .i64 a2_1] 41 (0, 0)) (by (with_reducible repeat (first | refine zn ?_ _ | refine zd ?_ | refine za ?_ _)); exact BK374.1) hb); have n3_ := zM (zT (by repeat (first | (with_reducible first | exact HB.1 | apply zA | apply zN | apply zD | refine zS ?_ GE374.1) | exact HB.1)) hb); clear HO382; clear BK374; clear HB; have HO382 := n0_; have HO387 := n1_; have BK374 := n2_; have HB := n3_; clear n0_ n1_ n2_ n3_; (try clear hb); (try clear hb2); (try clear hk); (try clear hi); (try clear ho0); obtain ⟨Ao23, co23, eo23⟩ := Kd.R_slice HO382.1; subst eo23; obtain ⟨Ao24, co24, eo24⟩ := Kd.R_slice HO387.1; subst eo24) | (go_at_call 22; (with_reducible refine (estoversref19_Same.calls kj3 _ _ t379 _ _ t384 t388 _ ?side1 ?side2 ?side3 ?side4 A18.1).mono ?_); (case side1 => repeat (first | exact (Kd.R_reads' HO382.1).2.2 | (with_reducible refine Kd.C_alloc ?_ _) | (with_reducible refine Kd.C_drewN ?_ _) | (with_reducible refine Kd.C_drew ?_))); (case side2 => exact (Kd.R_reads' HO382.1).2.1); (case side3 => repeat (first | exact (Kd.R_reads' HO387.1).2.2 | (with_reducible refine Kd.C_alloc ?_ _) | (with_reducible refine Kd.C_drewN ?_ _) | (with_reducible refine Kd.C_drew ?_))); (case side4 => exact (Kd.R_reads' HO387.1).2.1); rintro e w' ⟨rfl, ⟨nd, rfl⟩⟩))
      go_ret
      exact ⟨by first | rfl | (simp [errW_none, errW_some] <;> rfl) | (simp [*, errW_none, errW_some] <;> rfl), by repeat (first | (with_reducible first | exact HB.1 | apply zA | apply zN | apply zD | refine zS ?_ GE374.1) | exact HB.1)⟩
     ·rw [if_neg c17] at H
      exact absurd H (by simp)
    ·rw [if_neg c16] at H
     exact absurd H (by simp)
end Go.Proofs.Ytimlodcdfekbhaa.PGrantServes
