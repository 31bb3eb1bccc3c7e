-- Printed by a copy of the kit's printer that this session has patched (wip/tools/patch_print.py): the session's own text. Lean checks it.
import Derived.Test.YtpccpkpljlafcaaPTopSharesKeptx0
import Derived.Test.YtpccpkpljlafcaaPTopSharesKeptx4
import Derived.Test.YtpccpkpljlafcaaPTopSharesKeptx5
import Derived.Test.YtpccpkpljlafcaaPTopSharesKeptx9
import Derived.Test.YtpccpkpljlafcaaPTopSharesKeptx11
import Derived.Test.YtpccpkpljlafcaaPTopSharesKeptx14
import Derived.Test.YtpccpkpljlafcaaPTopSharesKeptx15
namespace Go.Proofs.Ytpccpkpljlafcaa.PTopSharesKept
open Go.RowKit Go.Proofs.YtpccpkpljlafcaaW.PrintWords Go.Proofs.YtpccpkpljlafcaaW.PrintLast Go.Proofs.YtpccpkpljlafcaaW.PrintMore
attribute [local go_sem] max2_int min2_int max_two min_two max_three min_three max_four min_four   -- for this text's walks alone
set_option linter.unusedVariables false
set_option linter.unusedSimpArgs false
mutual
def estoverstop_TopSharesKept.j0 : Nat → Bool → List (S35) → List (S53) → Int → Bool → Option (Bool)
 | 0, _, _, _, _, _ => none
 | k + 1, x28, x285000, x285001, x285002, x285003 => if x28 = true then ((estoverstop_awake20.f k).bind fun t289 => (some t289)) else ((protection_Effective.f k x285001).bind fun bt290 => (if bt290.2 = 0 then (estoverstop_TopSharesKept.j1 k bt290.1 ((bt290.1.length : Int) != (x285001.length : Int)) x285000 x285001 x285002 x285003) else (estoverstop_TopSharesKept.j1 k bt290.1 true x285000 x285001 x285002 x285003)))
def estoverstop_TopSharesKept.j1 : Nat → List Int → Bool → List (S35) → List (S53) → Int → Bool → Option (Bool)
 | 0, _, _, _, _, _, _ => none
 | k + 1, x3, x45, x285000, x285001, x285002, x285003 => if x45 = true then (none) else ((some (([] : List (S35)) : List (S35))).bind fun y294 => (if y294.length + x285000.length < 2932031007402 then ((some (y294 ++ x285000 : List (S35))).bind fun y297 => (estoverstop_TopSharesKept.l0 k x3 y297 (y297.length : Int) 0 x285000 x285001 x285002 x285003)) else (none)))
def estoverstop_TopSharesKept.j3 : Nat → List Int → List (S35) → List (S35) → List (S53) → Int → Bool → Option (Bool)
 | 0, _, _, _, _, _, _ => none
 | k + 1, x3, x5, x285000, x285001, x285002, x285003 => estoverstop_TopSharesKept.l1 k x3 x5 1 x285000 x285001 x285002 x285003
def estoverstop_TopSharesKept.l1 : Nat → List Int → List (S35) → Int → List (S35) → List (S53) → Int → Bool → Option (Bool)
 | 0, _, _, _, _, _, _, _ => none
 | k + 1, x3, x5, x7, x285000, x285001, x285002, x285003 => if x7 < (x285001.length : Int) then ((estoverstop_restOf.f k x5 x285001 x7).bind fun t302 => (if 0 ≤ x7 then (if x7 < (x3.length : Int) then ((estoverstop_restOf.f k x285000 x285001 x7).bind fun t304 => (if t302 < (mn (rd x3 x7) t304) then (none) else (estoverstop_TopSharesKept.l1 k x3 x5 (wrap64 (x7 + 1)) x285000 x285001 x285002 x285003))) else (none)) else (none))) else (some true)
def estoverstop_TopSharesKept.l0 : Nat → List Int → List (S35) → Int → Int → List (S35) → List (S53) → Int → Bool → Option (Bool)
 | 0, _, _, _, _, _, _, _, _ => none
 | k + 1, x3, x5, x51, x52, x285000, x285001, x285002, x285003 => if x52 < x51 then ((reclaimplan_Next.f k x5 x285001 (-1) x285003).bind fun t300 => (if t300 < 0 then (estoverstop_TopSharesKept.j3 k x3 x5 x285000 x285001 x285002 x285003) else (if t300 ≥ (x5.length : Int) then (estoverstop_TopSharesKept.j3 k x3 x5 x285000 x285001 x285002 x285003) else (if 0 ≤ t300 then (if t300 < (x5.length : Int) then (estoverstop_TopSharesKept.l0 k x3 (x5.set (t300 : Int).toNat (⟨(rd_T35 x5 t300).f0, (rd_T35 x5 t300).f1, (rd_T35 x5 t300).f2, (rd_T35 x5 t300).f3, (rd_T35 x5 t300).f4, (rd_T35 x5 t300).f5, true⟩ : S35)) x51 (wrap64 (x52 + 1)) x285000 x285001 x285002 x285003) else (none)) else (none))))) else (estoverstop_TopSharesKept.j3 k x3 x5 x285000 x285001 x285002 x285003)
end
def estoverstop_TopSharesKept.f (k : Nat) (l0_0 : List (S35)) (l0_1 : List (S53)) (a0_2 : Int) (a0_3 : Bool) : Option (Bool) := (estoverstop_awake20.f k).bind fun t285 => (if t285 = true then ((estoverslaw39_Few.f l0_0 l0_1 a0_2 a0_3).bind fun t286 => (if t286 = true then ((reclaimplan_Check.f k l0_0 l0_1).bind fun t287 => (if t287 = 0 then ((estoversref19_Check.f k l0_1).bind fun t288 => (estoverstop_TopSharesKept.j0 k (t288 != 0) l0_0 l0_1 a0_2 a0_3)) else (estoverstop_TopSharesKept.j0 k true l0_0 l0_1 a0_2 a0_3))) else (estoverstop_TopSharesKept.j0 k true l0_0 l0_1 a0_2 a0_3))) else (estoverstop_TopSharesKept.j0 k true l0_0 l0_1 a0_2 a0_3))
theorem estoverstop_TopSharesKept.mono_l : ∀ k, (∀ y0 y1 y2 y3 y4, LeO (estoverstop_TopSharesKept.j0 k y0 y1 y2 y3 y4) (estoverstop_TopSharesKept.j0 (k + 1) y0 y1 y2 y3 y4)) ∧ (∀ y0 y1 y2 y3 y4 y5, LeO (estoverstop_TopSharesKept.j1 k y0 y1 y2 y3 y4 y5) (estoverstop_TopSharesKept.j1 (k + 1) y0 y1 y2 y3 y4 y5)) ∧ (∀ y0 y1 y2 y3 y4 y5, LeO (estoverstop_TopSharesKept.j3 k y0 y1 y2 y3 y4 y5) (estoverstop_TopSharesKept.j3 (k + 1) y0 y1 y2 y3 y4 y5)) ∧ (∀ y0 y1 y2 y3 y4 y5 y6, LeO (estoverstop_TopSharesKept.l1 k y0 y1 y2 y3 y4 y5 y6) (estoverstop_TopSharesKept.l1 (k + 1) y0 y1 y2 y3 y4 y5 y6)) ∧ (∀ y0 y1 y2 y3 y4 y5 y6 y7, LeO (estoverstop_TopSharesKept.l0 k y0 y1 y2 y3 y4 y5 y6 y7) (estoverstop_TopSharesKept.l0 (k + 1) y0 y1 y2 y3 y4 y5 y6 y7))
 | 0 => ⟨fun _ _ _ _ _ r h => by simp [estoverstop_TopSharesKept.j0] at h, fun _ _ _ _ _ _ r h => by simp [estoverstop_TopSharesKept.j1] at h, fun _ _ _ _ _ _ r h => by simp [estoverstop_TopSharesKept.j3] at h, fun _ _ _ _ _ _ _ r h => by simp [estoverstop_TopSharesKept.l1] at h, fun _ _ _ _ _ _ _ _ r h => by simp [estoverstop_TopSharesKept.l0] at h⟩
 | k + 1 => by
  obtain ⟨ih0, ih1, ih2, ih3, ih4⟩ := estoverstop_TopSharesKept.mono_l k
  refine ⟨?_, ?_, ?_, ?_, ?_⟩
  ·intro y0 y1 y2 y3 y4
   unfold estoverstop_TopSharesKept.j0
   repeat' first
   | (with_reducible exact ih0 _ _ _ _ _)
   | (with_reducible exact ih1 _ _ _ _ _ _)
   | (with_reducible exact ih2 _ _ _ _ _ _)
   | (with_reducible exact ih3 _ _ _ _ _ _ _)
   | (with_reducible exact ih4 _ _ _ _ _ _ _ _)
   | (with_reducible exact estoversref19_Check.mono _ _)
   | (with_reducible exact estoverstop_awake20.mono _)
   | (with_reducible exact estoverstop_restOf.mono _ _ _ _)
   | (with_reducible exact protection_Effective.mono _ _)
   | (with_reducible exact reclaimplan_Check.mono _ _ _)
   | (with_reducible exact reclaimplan_Next.mono _ _ _ _ _)
   | (with_reducible exact LeO.refl _)
   | (with_reducible exact LeO.none _)
   | (with_reducible refine LeO.ite ?_ ?_)
   | (with_reducible refine LeO.bind ?_ (fun _ => ?_))
   | exact ih0 _ _ _ _ _
   | exact ih1 _ _ _ _ _ _
   | exact ih2 _ _ _ _ _ _
   | exact ih3 _ _ _ _ _ _ _
   | exact ih4 _ _ _ _ _ _ _ _
   | exact estoversref19_Check.mono _ _
   | exact estoverstop_awake20.mono _
   | exact estoverstop_restOf.mono _ _ _ _
   | exact protection_Effective.mono _ _
   | exact reclaimplan_Check.mono _ _ _
   | exact reclaimplan_Next.mono _ _ _ _ _
   | exact LeO.none _
   | refine LeO.ite ?_ ?_
   | refine LeO.bind ?_ (fun _ => ?_)
  ·intro y0 y1 y2 y3 y4 y5
   unfold estoverstop_TopSharesKept.j1
   repeat' first
   | (with_reducible exact ih0 _ _ _ _ _)
   | (with_reducible exact ih1 _ _ _ _ _ _)
   | (with_reducible exact ih2 _ _ _ _ _ _)
   | (with_reducible exact ih3 _ _ _ _ _ _ _)
   | (with_reducible exact ih4 _ _ _ _ _ _ _ _)
   | (with_reducible exact estoversref19_Check.mono _ _)
   | (with_reducible exact estoverstop_awake20.mono _)
   | (with_reducible exact estoverstop_restOf.mono _ _ _ _)
   | (with_reducible exact protection_Effective.mono _ _)
   | (with_reducible exact reclaimplan_Check.mono _ _ _)
   | (with_reducible exact reclaimplan_Next.mono _ _ _ _ _)
   | (with_reducible exact LeO.refl _)
   | (with_reducible exact LeO.none _)
   | (with_reducible refine LeO.ite ?_ ?_)
   | (with_reducible refine LeO.bind ?_ (fun _ => ?_))
   | exact ih0 _ _ _ _ _
   | exact ih1 _ _ _ _ _ _
   | exact ih2 _ _ _ _ _ _
   | exact ih3 _ _ _ _ _ _ _
   | exact ih4 _ _ _ _ _ _ _ _
   | exact estoversref19_Check.mono _ _
   | exact estoverstop_awake20.mono _
   | exact estoverstop_restOf.mono _ _ _ _
   | exact protection_Effective.mono _ _
   | exact reclaimplan_Check.mono _ _ _
   | exact reclaimplan_Next.mono _ _ _ _ _
   | exact LeO.none _
   | refine LeO.ite ?_ ?_
   | refine LeO.bind ?_ (fun _ => ?_)
  ·intro y0 y1 y2 y3 y4 y5
   unfold estoverstop_TopSharesKept.j3
   repeat' first
   | (with_reducible exact ih0 _ _ _ _ _)
   | (with_reducible exact ih1 _ _ _ _ _ _)
   | (with_reducible exact ih2 _ _ _ _ _ _)
   | (with_reducible exact ih3 _ _ _ _ _ _ _)
   | (with_reducible exact ih4 _ _ _ _ _ _ _ _)
   | (with_reducible exact estoversref19_Check.mono _ _)
   | (with_reducible exact estoverstop_awake20.mono _)
   | (with_reducible exact estoverstop_restOf.mono _ _ _ _)
   | (with_reducible exact protection_Effective.mono _ _)
   | (with_reducible exact reclaimplan_Check.mono _ _ _)
   | (with_reducible exact reclaimplan_Next.mono _ _ _ _ _)
   | (with_reducible exact LeO.refl _)
   | (with_reducible exact LeO.none _)
   | (with_reducible refine LeO.ite ?_ ?_)
   | (with_reducible refine LeO.bind ?_ (fun _ => ?_))
   | exact ih0 _ _ _ _ _
   | exact ih1 _ _ _ _ _ _
   | exact ih2 _ _ _ _ _ _
   | exact ih3 _ _ _ _ _ _ _
   | exact ih4 _ _ _ _ _ _ _ _
   | exact estoversref19_Check.mono _ _
   | exact estoverstop_awake20.mono _
   | exact estoverstop_restOf.mono _ _ _ _
   | exact protection_Effective.mono _ _
   | exact reclaimplan_Check.mono _ _ _
   | exact reclaimplan_Next.mono _ _ _ _ _
   | exact LeO.none _
   | refine LeO.ite ?_ ?_
   | refine LeO.bind ?_ (fun _ => ?_)
  ·intro y0 y1 y2 y3 y4 y5 y6
   unfold estoverstop_TopSharesKept.l1
   repeat' first
   | (with_reducible exact ih0 _ _ _ _ _)
   | (with_reducible exact ih1 _ _ _ _ _ _)
   | (with_reducible exact ih2 _ _ _ _ _ _)
   | (with_reducible exact ih3 _ _ _ _ _ _ _)
   | (with_reducible exact ih4 _ _ _ _ _ _ _ _)
   | (with_reducible exact estoversref19_Check.mono _ _)
   | (with_reducible exact estoverstop_awake20.mono _)
   | (with_reducible exact estoverstop_restOf.mono _ _ _ _)
   | (with_reducible exact protection_Effective.mono _ _)
   | (with_reducible exact reclaimplan_Check.mono _ _ _)
   | (with_reducible exact reclaimplan_Next.mono _ _ _ _ _)
   | (with_reducible exact LeO.refl _)
   | (with_reducible exact LeO.none _)
   | (with_reducible refine LeO.ite ?_ ?_)
   | (with_reducible refine LeO.bind ?_ (fun _ => ?_))
   | exact ih0 _ _ _ _ _
   | exact ih1 _ _ _ _ _ _
   | exact ih2 _ _ _ _ _ _
   | exact ih3 _ _ _ _ _ _ _
   | exact ih4 _ _ _ _ _ _ _ _
   | exact estoversref19_Check.mono _ _
   | exact estoverstop_awake20.mono _
   | exact estoverstop_restOf.mono _ _ _ _
   | exact protection_Effective.mono _ _
   | exact reclaimplan_Check.mono _ _ _
   | exact reclaimplan_Next.mono _ _ _ _ _
   | exact LeO.none _
   | refine LeO.ite ?_ ?_
   | refine LeO.bind ?_ (fun _ => ?_)
  ·intro y0 y1 y2 y3 y4 y5 y6 y7
   unfold estoverstop_TopSharesKept.l0
   repeat' first
   | (with_reducible exact ih0 _ _ _ _ _)
   | (with_reducible exact ih1 _ _ _ _ _ _)
   | (with_reducible exact ih2 _ _ _ _ _ _)
   | (with_reducible exact ih3 _ _ _ _ _ _ _)
   | (with_reducible exact ih4 _ _ _ _ _ _ _ _)
   | (with_reducible exact estoversref19_Check.mono _ _)
   | (with_reducible exact estoverstop_awake20.mono _)
   | (with_reducible exact estoverstop_restOf.mono _ _ _ _)
   | (with_reducible exact protection_Effective.mono _ _)
   | (with_reducible exact reclaimplan_Check.mono _ _ _)
   | (with_reducible exact reclaimplan_Next.mono _ _ _ _ _)
   | (with_reducible exact LeO.refl _)
   | (with_reducible exact LeO.none _)
   | (with_reducible refine LeO.ite ?_ ?_)
   | (with_reducible refine LeO.bind ?_ (fun _ => ?_))
   | exact ih0 _ _ _ _ _
   | exact ih1 _ _ _ _ _ _
   | exact ih2 _ _ _ _ _ _
   | exact ih3 _ _ _ _ _ _ _
   | exact ih4 _ _ _ _ _ _ _ _
   | exact estoversref19_Check.mono _ _
   | exact estoverstop_awake20.mono _
   | exact estoverstop_restOf.mono _ _ _ _
   | exact protection_Effective.mono _ _
   | exact reclaimplan_Check.mono _ _ _
   | exact reclaimplan_Next.mono _ _ _ _ _
   | exact LeO.none _
   | refine LeO.ite ?_ ?_
   | refine LeO.bind ?_ (fun _ => ?_)
theorem estoverstop_TopSharesKept.mono : ∀ a0 a1 a2 a3 k, LeO (estoverstop_TopSharesKept.f k a0 a1 a2 a3) (estoverstop_TopSharesKept.f (k + 1) a0 a1 a2 a3) := by
 intro a0 a1 a2 a3 k
 obtain ⟨ih0, ih1, ih2, ih3, ih4⟩ := estoverstop_TopSharesKept.mono_l k
 unfold estoverstop_TopSharesKept.f
 repeat' first
   | (with_reducible exact ih0 _ _ _ _ _)
   | (with_reducible exact ih1 _ _ _ _ _ _)
   | (with_reducible exact ih2 _ _ _ _ _ _)
   | (with_reducible exact ih3 _ _ _ _ _ _ _)
   | (with_reducible exact ih4 _ _ _ _ _ _ _ _)
   | (with_reducible exact estoversref19_Check.mono _ _)
   | (with_reducible exact estoverstop_awake20.mono _)
   | (with_reducible exact estoverstop_restOf.mono _ _ _ _)
   | (with_reducible exact protection_Effective.mono _ _)
   | (with_reducible exact reclaimplan_Check.mono _ _ _)
   | (with_reducible exact reclaimplan_Next.mono _ _ _ _ _)
   | (with_reducible exact LeO.refl _)
   | (with_reducible exact LeO.none _)
   | (with_reducible refine LeO.ite ?_ ?_)
   | (with_reducible refine LeO.bind ?_ (fun _ => ?_))
   | exact ih0 _ _ _ _ _
   | exact ih1 _ _ _ _ _ _
   | exact ih2 _ _ _ _ _ _
   | exact ih3 _ _ _ _ _ _ _
   | exact ih4 _ _ _ _ _ _ _ _
   | exact estoversref19_Check.mono _ _
   | exact estoverstop_awake20.mono _
   | exact estoverstop_restOf.mono _ _ _ _
   | exact protection_Effective.mono _ _
   | exact reclaimplan_Check.mono _ _ _
   | exact reclaimplan_Next.mono _ _ _ _ _
   | exact LeO.none _
   | refine LeO.ite ?_ ?_
   | refine LeO.bind ?_ (fun _ => ?_)
def estoverstop_TopSharesKept.T16 : Bool × List (List Nat × List Nat) := (true, [([], []), ([], []), ([1], [1]), ([], []), ([0, 2, 3], [0, 2, 3]), ([], []), ([], []), ([5, 6], [5, 6]), ([7], [7]), ([], []), ([9], [9]), ([], []), ([11], [11]), ([], []), ([10, 12, 13, 4], [10, 12, 13]), ([8, 14], [8, 14]), ([4, 15], [4, 15])])
def estoverstop_TopSharesKept.B16 : List Nat := [0, 0, 2, 0, 15, 0, 0, 96, 224, 0, 512, 0, 2048, 0, 15903, 32767, 65535]
theorem estoverstop_TopSharesKept.tab16 : rtab .any (opsOf Try.f3 16) = estoverstop_TopSharesKept.T16 := by kernel_rfl
theorem estoverstop_TopSharesKept.bits16 : waitsOk estoverstop_TopSharesKept.T16.2 estoverstop_TopSharesKept.B16 = true := by kernel_rfl
set_option maxHeartbeats 8000000 in
set_option maxRecDepth 100000 in
theorem estoverstop_TopSharesKept.calls (k : Nat) (A0_0 : Option Addr) (c0_0 : Nat) (l0_0 : List (S35)) (A0_1 : Option Addr) (c0_1 : Nat) (l0_1 : List (S53)) (a0_2 : Int) (a0_3 : Bool) (r : Bool) (w : World) (hr0_0 : Kd.C k35 w A0_0 l0_0.length l0_0) (hc0_0 : l0_0.length ≤ c0_0) (hr0_1 : Kd.C k53 w A0_1 l0_1.length l0_1) (hc0_1 : l0_1.length ≤ c0_1) (h : estoverstop_TopSharesKept.f k l0_0 l0_1 a0_2 a0_3 = some r) :
  Calls Try.prog 3 #[.agg #[.slice A0_0 l0_0.length c0_0, .slice A0_1 l0_1.length c0_1, .int .i64 a0_2, .bool a0_3]] w fun e w' => e = .returned (.bool r) ∧ Below w.heap.size w w' := by
 have hu25 := Try.underlying25
 have HR0_0 := Aside0.mk hr0_0
 have HC0_0 := Aside0.mk hc0_0
 clear hr0_0 hc0_0
 have HR0_1 := Aside0.mk hr0_1
 have HC0_1 := Aside0.mk hc0_1
 clear hr0_1 hc0_1
 have HB := Aside0.mk (Below.refl w.heap.size w)
 have H : ((estoverstop_awake20.f k).bind fun t285 => (if t285 = true then ((estoverslaw39_Few.f l0_0 l0_1 a0_2 a0_3).bind fun t286 => (if t286 = true then ((reclaimplan_Check.f k l0_0 l0_1).bind fun t287 => (if t287 = 0 then ((estoversref19_Check.f k l0_1).bind fun t288 => (estoverstop_TopSharesKept.j0 k (t288 != 0) l0_0 l0_1 a0_2 a0_3)) else (estoverstop_TopSharesKept.j0 k true l0_0 l0_1 a0_2 a0_3))) else (estoverstop_TopSharesKept.j0 k true l0_0 l0_1 a0_2 a0_3))) else (estoverstop_TopSharesKept.j0 k true l0_0 l0_1 a0_2 a0_3))) = some r := h
 clear h
 have HC2 := Aside0.mk H
 clear H
 go_enter Try.func3, Try.ntmps3
 go_upto_region 1 with (first | ((with_reducible refine gate_dst (N := 1) rfl ?_); (try (refine gate_guard (by rfl) ?_; dsimp only)); refine box_event ?hg (N := 1) ?hd (cs := #[.slice A0_0 l0_0.length c0_0, .slice A0_1 l0_1.length c0_1, .int .i64 a0_2, .bool a0_3]) (t := 25) ?hr ?_; (case hd => rfl); (case hg => rfl); (case hr => first | (go_simp; done) | (go_simp; rfl)); intro gb284 hg w3 hbox hb; have n0_ := Aside0.mk (below_step (by repeat (first | (with_reducible first | exact HB.out | apply below_alloc | apply pw_below_drewN | apply below_drew1) | exact HB.out)) hb); have n1_ := Aside0.mk (hbox); have n2_ := Aside0.mk ((by rw [hg]; exact (below_size (by repeat (first | (with_reducible first | exact HB.out | apply below_alloc | apply pw_below_drewN | apply below_drew1) | exact HB.out))) : w.heap.size ≤ gb284)); have n3_ := Aside0.mk ((by rw [hg]; exact (below_size (by repeat (first | (with_reducible first | exact HB.out | apply below_alloc | apply pw_below_drewN | apply below_drew1) | exact HB.out))) : w.heap.size ≤ gb284)); clear HB; have HB := n0_; have BK284 := n1_; have GW284 := n2_; have GE284 := n3_; clear n0_ n1_ n2_ n3_; clear hb hbox hg))
 (try simp only [Act.put, List.setIfInBounds_toArray, List.set_cons_zero, List.set_cons_succ])
 go_cut [28] (fun v28 wc => ∃ (kq : Nat) (x28_1 : Bool), v28 = .bool x28_1 ∧ Aside0 (estoverstop_TopSharesKept.j0 kq x28_1 l0_0 l0_1 a0_2 a0_3 = some r) ∧ Aside0 (kq ≤ k) ∧ Aside0 (wc.heap[gb284]? = some (.cells #[(.slice A0_0 l0_0.length c0_0), (.slice A0_1 l0_1.length c0_1), .int .i64 a0_2, .bool a0_3] 25 (0, 0))) ∧ Aside0 (Below w.heap.size w wc))
 case first =>
  have H := HC2.out
  clear HC2
  replace H := Option.bind_eq_some_iff.mp H
  obtain ⟨t285, A40, H⟩ := H
  replace H : (if t285 = true then ((estoverslaw39_Few.f l0_0 l0_1 a0_2 a0_3).bind fun t286 => (if t286 = true then ((reclaimplan_Check.f k l0_0 l0_1).bind fun t287 => (if t287 = 0 then ((estoversref19_Check.f k l0_1).bind fun t288 => (estoverstop_TopSharesKept.j0 k (t288 != 0) l0_0 l0_1 a0_2 a0_3)) else (estoverstop_TopSharesKept.j0 k true l0_0 l0_1 a0_2 a0_3))) else (estoverstop_TopSharesKept.j0 k true l0_0 l0_1 a0_2 a0_3))) else (estoverstop_TopSharesKept.j0 k true l0_0 l0_1 a0_2 a0_3)) = some r := H
  have A4 := Aside0.mk A40
  clear A40
  by_cases c5 : t285 = true
  ·subst c5
   have H1 : ((estoverslaw39_Few.f l0_0 l0_1 a0_2 a0_3).bind fun t286 => (if t286 = true then ((reclaimplan_Check.f k l0_0 l0_1).bind fun t287 => (if t287 = 0 then ((estoversref19_Check.f k l0_1).bind fun t288 => (estoverstop_TopSharesKept.j0 k (t288 != 0) l0_0 l0_1 a0_2 a0_3)) else (estoverstop_TopSharesKept.j0 k true l0_0 l0_1 a0_2 a0_3))) else (estoverstop_TopSharesKept.j0 k true l0_0 l0_1 a0_2 a0_3))) = some r := by rw [if_pos rfl] at H; exact H
   clear H
   have H := H1
   clear H1
   replace H := Option.bind_eq_some_iff.mp H
   obtain ⟨t286, A60, H⟩ := H
   replace H : (if t286 = true then ((reclaimplan_Check.f k l0_0 l0_1).bind fun t287 => (if t287 = 0 then ((estoversref19_Check.f k l0_1).bind fun t288 => (estoverstop_TopSharesKept.j0 k (t288 != 0) l0_0 l0_1 a0_2 a0_3)) else (estoverstop_TopSharesKept.j0 k true l0_0 l0_1 a0_2 a0_3))) else (estoverstop_TopSharesKept.j0 k true l0_0 l0_1 a0_2 a0_3)) = some r := H
   have A6 := Aside0.mk A60
   clear A60
   by_cases c7 : t286 = true
   ·subst c7
    have H1 : ((reclaimplan_Check.f k l0_0 l0_1).bind fun t287 => (if t287 = 0 then ((estoversref19_Check.f k l0_1).bind fun t288 => (estoverstop_TopSharesKept.j0 k (t288 != 0) l0_0 l0_1 a0_2 a0_3)) else (estoverstop_TopSharesKept.j0 k true l0_0 l0_1 a0_2 a0_3))) = some r := by rw [if_pos rfl] at H; exact H
    clear H
    have H := H1
    clear H1
    replace H := Option.bind_eq_some_iff.mp H
    obtain ⟨t287, A80, H⟩ := H
    replace H : (if t287 = 0 then ((estoversref19_Check.f k l0_1).bind fun t288 => (estoverstop_TopSharesKept.j0 k (t288 != 0) l0_0 l0_1 a0_2 a0_3)) else (estoverstop_TopSharesKept.j0 k true l0_0 l0_1 a0_2 a0_3)) = some r := H
    have A8 := Aside0.mk A80
    clear A80
    by_cases c9 : t287 = 0
    ·rw [if_pos c9] at H
     have c9b0 : (t287 == 0) = true := beq_iff_eq.mpr c9
     have c9b1 : (t287 != 0) = false := bne_eq_false_iff_eq.mpr c9
     clear c9
     (first | rw [c9b0] | (simp only [i64_w, i32_w]; rw [c9b0]) | skip)
     replace H := Option.bind_eq_some_iff.mp H
     obtain ⟨t288, A100, H⟩ := H
     replace H : (estoverstop_TopSharesKept.j0 k (t288 != 0) l0_0 l0_1 a0_2 a0_3) = some r := H
     have A10 := Aside0.mk A100
     clear A100
     have H' := Aside0.mk H
     clear H
     go_wp2_with (first | ((with_reducible refine gate_callee (f := 5) rfl ?_); refine goesL_ (some 8) rfl rfl Try.func5 (by kernel_rfl) rfl #[] rfl (by (try simp only [List.map_toArray, List.map_cons, List.map_nil]); first | done | rfl | (simp only [List.length_drop, List.length_take]; rfl)) ?_; (with_reducible refine (estoverstop_awake20.calls k  true _ A4.out).mono ?_); rintro e w11 ⟨rfl, hb⟩; refine ⟨_, rfl, ?_⟩; have n0_ := Aside0.mk (blk_below (g := gb284) (o := .cells #[.slice A0_0 l0_0.length c0_0, .slice A0_1 l0_1.length c0_1, .int .i64 a0_2, .bool a0_3] 25 (0, 0)) (by (with_reducible repeat (first | refine blk_drewN ?_ _ | refine blk_drew ?_ | refine blk_alloc ?_ _)); exact BK284.out) hb); have n1_ := Aside0.mk (below_step (by repeat (first | (with_reducible first | exact HB.out | apply below_alloc | apply pw_below_drewN | apply below_drew1 | refine below_set ?_ GE284.out) | exact HB.out)) hb); clear BK284; clear HB; have BK284 := n0_; have HB := n1_; clear n0_ n1_; (try clear hb); (try clear hb2); (try clear hk); (try clear hi); have hcz12_0 : w11.cell? ⟨gb284, 0, none⟩ = some (.slice A0_0 l0_0.length c0_0) := (blk_cell BK284.out 0).trans rfl; have hcz12_1 : w11.cell? ⟨gb284, 1, none⟩ = some (.slice A0_1 l0_1.length c0_1) := (blk_cell BK284.out 1).trans rfl; have hcz12_2 : w11.cell? ⟨gb284, 2, none⟩ = some (.int .i64 a0_2) := (blk_cell BK284.out 2).trans rfl; have hcz12_3 : w11.cell? ⟨gb284, 3, none⟩ = some (.bool a0_3) := (blk_cell BK284.out 3).trans rfl; have hfz12_0 := blk_frozen BK284.out 0; have hfz12_1 := blk_frozen BK284.out 1; have hfz12_2 := blk_frozen BK284.out 2; have hfz12_3 := blk_frozen BK284.out 3) | (go_at_call 6; (with_reducible refine (estoverslaw39_Few.calls _ _ l0_0 _ _ l0_1 a0_2 a0_3 true _ ?side1 ?side2 ?side3 ?side4 A6.out).mono ?_); (case side1 => repeat (first | exact (Kd.C_below HR0_0.out HB.out) | (with_reducible refine Kd.C_alloc ?_ _) | (with_reducible refine Kd.C_drewN ?_ _) | (with_reducible refine Kd.C_drew ?_))); (case side2 => exact HC0_0.out); (case side3 => repeat (first | exact (Kd.C_below HR0_1.out HB.out) | (with_reducible refine Kd.C_alloc ?_ _) | (with_reducible refine Kd.C_drewN ?_ _) | (with_reducible refine Kd.C_drew ?_))); (case side4 => exact HC0_1.out); rintro e w13 ⟨rfl, hb⟩; have n0_ := Aside0.mk (blk_below (g := gb284) (o := .cells #[.slice A0_0 l0_0.length c0_0, .slice A0_1 l0_1.length c0_1, .int .i64 a0_2, .bool a0_3] 25 (0, 0)) (by (with_reducible repeat (first | refine blk_drewN ?_ _ | refine blk_drew ?_ | refine blk_alloc ?_ _)); exact BK284.out) hb); have n1_ := Aside0.mk (below_step (by repeat (first | (with_reducible first | exact HB.out | apply below_alloc | apply pw_below_drewN | apply below_drew1 | refine below_set ?_ GE284.out) | exact HB.out)) hb); clear BK284; clear HB; have BK284 := n0_; have HB := n1_; clear n0_ n1_; (try clear hb); (try clear hb2); (try clear hk); (try clear hi); have hcz14_0 : w13.cell? ⟨gb284, 0, none⟩ = some (.slice A0_0 l0_0.length c0_0) := (blk_cell BK284.out 0).trans rfl; have hcz14_1 : w13.cell? ⟨gb284, 1, none⟩ = some (.slice A0_1 l0_1.length c0_1) := (blk_cell BK284.out 1).trans rfl; have hcz14_2 : w13.cell? ⟨gb284, 2, none⟩ = some (.int .i64 a0_2) := (blk_cell BK284.out 2).trans rfl; have hcz14_3 : w13.cell? ⟨gb284, 3, none⟩ = some (.bool a0_3) := (blk_cell BK284.out 3).trans rfl; have hfz14_0 := blk_frozen BK284.out 0; have hfz14_1 := blk_frozen BK284.out 1; have hfz14_2 := blk_frozen BK284.out 2; have hfz14_3 := blk_frozen BK284.out 3) | (go_at_call 7; (with_reducible refine (reclaimplan_Check.calls k _ _ l0_0 _ _ l0_1 t287 _ ?side1 ?side2 ?side3 ?side4 A8.out).mono ?_); (case side1 => repeat (first | exact (Kd.C_below HR0_0.out HB.out) | (with_reducible refine Kd.C_alloc ?_ _) | (with_reducible refine Kd.C_drewN ?_ _) | (with_reducible refine Kd.C_drew ?_))); (case side2 => exact HC0_0.out); (case side3 => repeat (first | exact (Kd.C_below HR0_1.out HB.out) | (with_reducible refine Kd.C_alloc ?_ _) | (with_reducible refine Kd.C_drewN ?_ _) | (with_reducible refine Kd.C_drew ?_))); (case side4 => exact HC0_1.out); rintro e w15 ⟨rfl, hb⟩; have n0_ := Aside0.mk (blk_below (g := gb284) (o := .cells #[.slice A0_0 l0_0.length c0_0, .slice A0_1 l0_1.length c0_1, .int .i64 a0_2, .bool a0_3] 25 (0, 0)) (by (with_reducible repeat (first | refine blk_drewN ?_ _ | refine blk_drew ?_ | refine blk_alloc ?_ _)); exact BK284.out) hb); have n1_ := Aside0.mk (below_step (by repeat (first | (with_reducible first | exact HB.out | apply below_alloc | apply pw_below_drewN | apply below_drew1 | refine below_set ?_ GE284.out) | exact HB.out)) hb); clear BK284; clear HB; have BK284 := n0_; have HB := n1_; clear n0_ n1_; (try clear hb); (try clear hb2); (try clear hk); (try clear hi); have hcz16_0 : w15.cell? ⟨gb284, 0, none⟩ = some (.slice A0_0 l0_0.length c0_0) := (blk_cell BK284.out 0).trans rfl; have hcz16_1 : w15.cell? ⟨gb284, 1, none⟩ = some (.slice A0_1 l0_1.length c0_1) := (blk_cell BK284.out 1).trans rfl; have hcz16_2 : w15.cell? ⟨gb284, 2, none⟩ = some (.int .i64 a0_2) := (blk_cell BK284.out 2).trans rfl; have hcz16_3 : w15.cell? ⟨gb284, 3, none⟩ = some (.bool a0_3) := (blk_cell BK284.out 3).trans rfl; have hfz16_0 := blk_frozen BK284.out 0; have hfz16_1 := blk_frozen BK284.out 1; have hfz16_2 := blk_frozen BK284.out 2; have hfz16_3 := blk_frozen BK284.out 3) | (go_at_call 8; (with_reducible refine (estoversref19_Check.calls k _ _ l0_1 t288 _ ?side1 ?side2 A10.out).mono ?_); (case side1 => repeat (first | exact (Kd.C_below HR0_1.out HB.out) | (with_reducible refine Kd.C_alloc ?_ _) | (with_reducible refine Kd.C_drewN ?_ _) | (with_reducible refine Kd.C_drew ?_))); (case side2 => exact HC0_1.out); rintro e w' ⟨rfl, ⟨nd, rfl⟩⟩))
     go_meet
     case rel => exact ⟨_, ((t288 != 0)), (by first | rfl | (simp; done) | (simp [*]; done)), H', ⟨by first | omega | exact Nat.le_refl _⟩, ⟨by (with_reducible repeat (first | refine blk_drewN ?_ _ | refine blk_drew ?_ | refine blk_alloc ?_ _)); exact BK284.out⟩, ⟨by repeat (first | (with_reducible first | exact HB.out | apply below_alloc | apply pw_below_drewN | apply below_drew1 | refine below_set ?_ GE284.out) | exact HB.out)⟩⟩
    ·rw [if_neg c9] at H
     have c9b0 : (t287 == 0) = false := beq_eq_false_iff_ne.mpr c9
     have c9b1 : (t287 != 0) = true := bne_iff_ne.mpr c9
     (first | rw [c9b0] | (simp only [i64_w, i32_w]; rw [c9b0]) | skip)
     have H' := Aside0.mk H
     clear H
     go_wp2_with (first | ((with_reducible refine gate_callee (f := 5) rfl ?_); refine goesL_ (some 8) rfl rfl Try.func5 (by kernel_rfl) rfl #[] rfl (by (try simp only [List.map_toArray, List.map_cons, List.map_nil]); first | done | rfl | (simp only [List.length_drop, List.length_take]; rfl)) ?_; (with_reducible refine (estoverstop_awake20.calls k  true _ A4.out).mono ?_); rintro e w17 ⟨rfl, hb⟩; refine ⟨_, rfl, ?_⟩; have n0_ := Aside0.mk (blk_below (g := gb284) (o := .cells #[.slice A0_0 l0_0.length c0_0, .slice A0_1 l0_1.length c0_1, .int .i64 a0_2, .bool a0_3] 25 (0, 0)) (by (with_reducible repeat (first | refine blk_drewN ?_ _ | refine blk_drew ?_ | refine blk_alloc ?_ _)); exact BK284.out) hb); have n1_ := Aside0.mk (below_step (by repeat (first | (with_reducible first | exact HB.out | apply below_alloc | apply pw_below_drewN | apply below_drew1 | refine below_set ?_ GE284.out) | exact HB.out)) hb); clear BK284; clear HB; have BK284 := n0_; have HB := n1_; clear n0_ n1_; (try clear hb); (try clear hb2); (try clear hk); (try clear hi); have hcz18_0 : w17.cell? ⟨gb284, 0, none⟩ = some (.slice A0_0 l0_0.length c0_0) := (blk_cell BK284.out 0).trans rfl; have hcz18_1 : w17.cell? ⟨gb284, 1, none⟩ = some (.slice A0_1 l0_1.length c0_1) := (blk_cell BK284.out 1).trans rfl; have hcz18_2 : w17.cell? ⟨gb284, 2, none⟩ = some (.int .i64 a0_2) := (blk_cell BK284.out 2).trans rfl; have hcz18_3 : w17.cell? ⟨gb284, 3, none⟩ = some (.bool a0_3) := (blk_cell BK284.out 3).trans rfl; have hfz18_0 := blk_frozen BK284.out 0; have hfz18_1 := blk_frozen BK284.out 1; have hfz18_2 := blk_frozen BK284.out 2; have hfz18_3 := blk_frozen BK284.out 3) | (go_at_call 6; (with_reducible refine (estoverslaw39_Few.calls _ _ l0_0 _ _ l0_1 a0_2 a0_3 true _ ?side1 ?side2 ?side3 ?side4 A6.out).mono ?_); (case side1 => repeat (first | exact (Kd.C_below HR0_0.out HB.out) | (with_reducible refine Kd.C_alloc ?_ _) | (with_reducible refine Kd.C_drewN ?_ _) | (with_reducible refine Kd.C_drew ?_))); (case side2 => exact HC0_0.out); (case side3 => repeat (first | exact (Kd.C_below HR0_1.out HB.out) | (with_reducible refine Kd.C_alloc ?_ _) | (with_reducible refine Kd.C_drewN ?_ _) | (with_reducible refine Kd.C_drew ?_))); (case side4 => exact HC0_1.out); rintro e w19 ⟨rfl, hb⟩; have n0_ := Aside0.mk (blk_below (g := gb284) (o := .cells #[.slice A0_0 l0_0.length c0_0, .slice A0_1 l0_1.length c0_1, .int .i64 a0_2, .bool a0_3] 25 (0, 0)) (by (with_reducible repeat (first | refine blk_drewN ?_ _ | refine blk_drew ?_ | refine blk_alloc ?_ _)); exact BK284.out) hb); have n1_ := Aside0.mk (below_step (by repeat (first | (with_reducible first | exact HB.out | apply below_alloc | apply pw_below_drewN | apply below_drew1 | refine below_set ?_ GE284.out) | exact HB.out)) hb); clear BK284; clear HB; have BK284 := n0_; have HB := n1_; clear n0_ n1_; (try clear hb); (try clear hb2); (try clear hk); (try clear hi); have hcz20_0 : w19.cell? ⟨gb284, 0, none⟩ = some (.slice A0_0 l0_0.length c0_0) := (blk_cell BK284.out 0).trans rfl; have hcz20_1 : w19.cell? ⟨gb284, 1, none⟩ = some (.slice A0_1 l0_1.length c0_1) := (blk_cell BK284.out 1).trans rfl; have hcz20_2 : w19.cell? ⟨gb284, 2, none⟩ = some (.int .i64 a0_2) := (blk_cell BK284.out 2).trans rfl; have hcz20_3 : w19.cell? ⟨gb284, 3, none⟩ = some (.bool a0_3) := (blk_cell BK284.out 3).trans rfl; have hfz20_0 := blk_frozen BK284.out 0; have hfz20_1 := blk_frozen BK284.out 1; have hfz20_2 := blk_frozen BK284.out 2; have hfz20_3 := blk_frozen BK284.out 3) | (go_at_call 7; (with_reducible refine (reclaimplan_Check.calls k _ _ l0_0 _ _ l0_1 t287 _ ?side1 ?side2 ?side3 ?side4 A8.out).mono ?_); (case side1 => repeat (first | exact (Kd.C_below HR0_0.out HB.out) | (with_reducible refine Kd.C_alloc ?_ _) | (with_reducible refine Kd.C_drewN ?_ _) | (with_reducible refine Kd.C_drew ?_))); (case side2 => exact HC0_0.out); (case side3 => repeat (first | exact (Kd.C_below HR0_1.out HB.out) | (with_reducible refine Kd.C_alloc ?_ _) | (with_reducible refine Kd.C_drewN ?_ _) | (with_reducible refine Kd.C_drew ?_))); (case side4 => exact HC0_1.out); rintro e w21 ⟨rfl, hb⟩; have n0_ := Aside0.mk (blk_below (g := gb284) (o := .cells #[.slice A0_0 l0_0.length c0_0, .slice A0_1 l0_1.length c0_1, .int .i64 a0_2, .bool a0_3] 25 (0, 0)) (by (with_reducible repeat (first | refine blk_drewN ?_ _ | refine blk_drew ?_ | refine blk_alloc ?_ _)); exact BK284.out) hb); have n1_ := Aside0.mk (below_step (by repeat (first | (with_reducible first | exact HB.out | apply below_alloc | apply pw_below_drewN | apply below_drew1 | refine below_set ?_ GE284.out) | exact HB.out)) hb); clear BK284; clear HB; have BK284 := n0_; have HB := n1_; clear n0_ n1_; (try clear hb); (try clear hb2); (try clear hk); (try clear hi)))
     go_meet
     case rel => exact ⟨_, (true), (by first | rfl | (simp; done) | (simp [*]; done)), H', ⟨by first | omega | exact Nat.le_refl _⟩, ⟨by (with_reducible repeat (first | refine blk_drewN ?_ _ | refine blk_drew ?_ | refine blk_alloc ?_ _)); exact BK284.out⟩, ⟨by repeat (first | (with_reducible first | exact HB.out | apply below_alloc | apply pw_below_drewN | apply below_drew1 | refine below_set ?_ GE284.out) | exact HB.out)⟩⟩
   ·replace c7 := Bool.eq_false_iff.mpr c7
    subst c7
    have H1 : (estoverstop_TopSharesKept.j0 k true l0_0 l0_1 a0_2 a0_3) = some r := by rw [if_neg (show ¬ (false = true) by decide)] at H; exact H
    clear H
    have H := H1
    clear H1
    have H' := Aside0.mk H
    clear H
    go_wp2_with (first | ((with_reducible refine gate_callee (f := 5) rfl ?_); refine goesL_ (some 8) rfl rfl Try.func5 (by kernel_rfl) rfl #[] rfl (by (try simp only [List.map_toArray, List.map_cons, List.map_nil]); first | done | rfl | (simp only [List.length_drop, List.length_take]; rfl)) ?_; (with_reducible refine (estoverstop_awake20.calls k  true _ A4.out).mono ?_); rintro e w22 ⟨rfl, hb⟩; refine ⟨_, rfl, ?_⟩; have n0_ := Aside0.mk (blk_below (g := gb284) (o := .cells #[.slice A0_0 l0_0.length c0_0, .slice A0_1 l0_1.length c0_1, .int .i64 a0_2, .bool a0_3] 25 (0, 0)) (by (with_reducible repeat (first | refine blk_drewN ?_ _ | refine blk_drew ?_ | refine blk_alloc ?_ _)); exact BK284.out) hb); have n1_ := Aside0.mk (below_step (by repeat (first | (with_reducible first | exact HB.out | apply below_alloc | apply pw_below_drewN | apply below_drew1 | refine below_set ?_ GE284.out) | exact HB.out)) hb); clear BK284; clear HB; have BK284 := n0_; have HB := n1_; clear n0_ n1_; (try clear hb); (try clear hb2); (try clear hk); (try clear hi); have hcz23_0 : w22.cell? ⟨gb284, 0, none⟩ = some (.slice A0_0 l0_0.length c0_0) := (blk_cell BK284.out 0).trans rfl; have hcz23_1 : w22.cell? ⟨gb284, 1, none⟩ = some (.slice A0_1 l0_1.length c0_1) := (blk_cell BK284.out 1).trans rfl; have hcz23_2 : w22.cell? ⟨gb284, 2, none⟩ = some (.int .i64 a0_2) := (blk_cell BK284.out 2).trans rfl; have hcz23_3 : w22.cell? ⟨gb284, 3, none⟩ = some (.bool a0_3) := (blk_cell BK284.out 3).trans rfl; have hfz23_0 := blk_frozen BK284.out 0; have hfz23_1 := blk_frozen BK284.out 1; have hfz23_2 := blk_frozen BK284.out 2; have hfz23_3 := blk_frozen BK284.out 3) | (go_at_call 6; (with_reducible refine (estoverslaw39_Few.calls _ _ l0_0 _ _ l0_1 a0_2 a0_3 false _ ?side1 ?side2 ?side3 ?side4 A6.out).mono ?_); (case side1 => repeat (first | exact (Kd.C_below HR0_0.out HB.out) | (with_reducible refine Kd.C_alloc ?_ _) | (with_reducible refine Kd.C_drewN ?_ _) | (with_reducible refine Kd.C_drew ?_))); (case side2 => exact HC0_0.out); (case side3 => repeat (first | exact (Kd.C_below HR0_1.out HB.out) | (with_reducible refine Kd.C_alloc ?_ _) | (with_reducible refine Kd.C_drewN ?_ _) | (with_reducible refine Kd.C_drew ?_))); (case side4 => exact HC0_1.out); rintro e w24 ⟨rfl, hb⟩; have n0_ := Aside0.mk (blk_below (g := gb284) (o := .cells #[.slice A0_0 l0_0.length c0_0, .slice A0_1 l0_1.length c0_1, .int .i64 a0_2, .bool a0_3] 25 (0, 0)) (by (with_reducible repeat (first | refine blk_drewN ?_ _ | refine blk_drew ?_ | refine blk_alloc ?_ _)); exact BK284.out) hb); have n1_ := Aside0.mk (below_step (by repeat (first | (with_reducible first | exact HB.out | apply below_alloc | apply pw_below_drewN | apply below_drew1 | refine below_set ?_ GE284.out) | exact HB.out)) hb); clear BK284; clear HB; have BK284 := n0_; have HB := n1_; clear n0_ n1_; (try clear hb); (try clear hb2); (try clear hk); (try clear hi)))
    go_meet
    case rel => exact ⟨_, (true), (by first | rfl | (simp; done) | (simp [*]; done)), H', ⟨by first | omega | exact Nat.le_refl _⟩, ⟨by (with_reducible repeat (first | refine blk_drewN ?_ _ | refine blk_drew ?_ | refine blk_alloc ?_ _)); exact BK284.out⟩, ⟨by repeat (first | (with_reducible first | exact HB.out | apply below_alloc | apply pw_below_drewN | apply below_drew1 | refine below_set ?_ GE284.out) | exact HB.out)⟩⟩
  ·replace c5 := Bool.eq_false_iff.mpr c5
   subst c5
   have H1 : (estoverstop_TopSharesKept.j0 k true l0_0 l0_1 a0_2 a0_3) = some r := by rw [if_neg (show ¬ (false = true) by decide)] at H; exact H
   clear H
   have H := H1
   clear H1
   have H' := Aside0.mk H
   clear H
   go_wp2_with (first | ((with_reducible refine gate_callee (f := 5) rfl ?_); refine goesL_ (some 8) rfl rfl Try.func5 (by kernel_rfl) rfl #[] rfl (by (try simp only [List.map_toArray, List.map_cons, List.map_nil]); first | done | rfl | (simp only [List.length_drop, List.length_take]; rfl)) ?_; (with_reducible refine (estoverstop_awake20.calls k  false _ A4.out).mono ?_); rintro e w25 ⟨rfl, hb⟩; refine ⟨_, rfl, ?_⟩; have n0_ := Aside0.mk (blk_below (g := gb284) (o := .cells #[.slice A0_0 l0_0.length c0_0, .slice A0_1 l0_1.length c0_1, .int .i64 a0_2, .bool a0_3] 25 (0, 0)) (by (with_reducible repeat (first | refine blk_drewN ?_ _ | refine blk_drew ?_ | refine blk_alloc ?_ _)); exact BK284.out) hb); have n1_ := Aside0.mk (below_step (by repeat (first | (with_reducible first | exact HB.out | apply below_alloc | apply pw_below_drewN | apply below_drew1 | refine below_set ?_ GE284.out) | exact HB.out)) hb); clear BK284; clear HB; have BK284 := n0_; have HB := n1_; clear n0_ n1_; (try clear hb); (try clear hb2); (try clear hk); (try clear hi)))
   go_meet
   case rel => exact ⟨_, (true), (by first | rfl | (simp; done) | (simp [*]; done)), H', ⟨by first | omega | exact Nat.le_refl _⟩, ⟨by (with_reducible repeat (first | refine blk_drewN ?_ _ | refine blk_drew ?_ | refine blk_alloc ?_ _)); exact BK284.out⟩, ⟨by repeat (first | (with_reducible first | exact HB.out | apply below_alloc | apply pw_below_drewN | apply below_drew1 | refine below_set ?_ GE284.out) | exact HB.out)⟩⟩
 case rest =>
  clear HC2
  try clear p2
  try clear c3
  try clear c5
  try clear c7
  try clear c9
  try clear c9b0
  try clear c9b1
  try clear hcz12_0
  try clear hcz12_1
  try clear hcz12_2
  try clear hcz12_3
  try clear hcz14_0
  try clear hcz14_1
  try clear hcz14_2
  try clear hcz14_3
  try clear hcz16_0
  try clear hcz16_1
  try clear hcz16_2
  try clear hcz16_3
  try clear hcz18_0
  try clear hcz18_1
  try clear hcz18_2
  try clear hcz18_3
  try clear hcz20_0
  try clear hcz20_1
  try clear hcz20_2
  try clear hcz20_3
  try clear hcz23_0
  try clear hcz23_1
  try clear hcz23_2
  try clear hcz23_3
  try clear hfz12_0
  try clear hfz12_1
  try clear hfz12_2
  try clear hfz12_3
  try clear hfz14_0
  try clear hfz14_1
  try clear hfz14_2
  try clear hfz14_3
  try clear hfz16_0
  try clear hfz16_1
  try clear hfz16_2
  try clear hfz16_3
  try clear hfz18_0
  try clear hfz18_1
  try clear hfz18_2
  try clear hfz18_3
  try clear hfz20_0
  try clear hfz20_1
  try clear hfz20_2
  try clear hfz20_3
  try clear hfz23_0
  try clear hfz23_1
  try clear hfz23_2
  try clear hfz23_3
  obtain ⟨kq, x28_1, rfl, HA, HJ1, BK284, HB⟩ := hcut
  cases kq with
  | zero => exact absurd HA.out (by simp [estoverstop_TopSharesKept.j0])
  | succ kj1 =>
   have H := HA.out
   clear HA
   simp only [estoverstop_TopSharesKept.j0] at H
   by_cases c26 : x28_1 = true
   ·subst c26
    have H1 : ((estoverstop_awake20.f kj1).bind fun t289 => (some t289)) = some r := by rw [if_pos rfl] at H; exact H
    clear H
    have H := H1
    clear H1
    replace H := Option.bind_eq_some_iff.mp H
    obtain ⟨t289, A270, H⟩ := H
    replace H : (some t289) = some r := H
    have A27 := Aside0.mk A270
    clear A270
    obtain rfl := Option.some.inj H
    go_wp2_with (first | ((with_reducible refine gate_callee (f := 5) rfl ?_); refine goesL_ (some 29) rfl rfl Try.func5 (by kernel_rfl) rfl #[] rfl (by (try simp only [List.map_toArray, List.map_cons, List.map_nil]); first | done | rfl | (simp only [List.length_drop, List.length_take]; rfl)) ?_; (with_reducible refine (estoverstop_awake20.calls kj1  t289 _ A27.out).mono ?_); rintro e w28 ⟨rfl, hb⟩; refine ⟨_, rfl, ?_⟩; have n0_ := Aside0.mk (blk_below (g := gb284) (o := .cells #[.slice A0_0 l0_0.length c0_0, .slice A0_1 l0_1.length c0_1, .int .i64 a0_2, .bool a0_3] 25 (0, 0)) (by (with_reducible repeat (first | refine blk_drewN ?_ _ | refine blk_drew ?_ | refine blk_alloc ?_ _)); exact BK284.out) hb); have n1_ := Aside0.mk (below_step (by repeat (first | (with_reducible first | exact HB.out | apply below_alloc | apply pw_below_drewN | apply below_drew1 | refine below_set ?_ GE284.out) | exact HB.out)) hb); clear BK284; clear HB; have BK284 := n0_; have HB := n1_; clear n0_ n1_; (try clear hb); (try clear hb2); (try clear hk); (try clear hi)))
    go_ret
    exact ⟨by first | rfl | (simp [errW_none, errW_some] <;> rfl) | (simp [*, errW_none, errW_some] <;> rfl), by repeat (first | (with_reducible first | exact HB.out | apply below_alloc | apply pw_below_drewN | apply below_drew1 | refine below_set ?_ GE284.out) | exact HB.out)⟩
   ·replace c26 := Bool.eq_false_iff.mpr c26
    subst c26
    have H1 : ((protection_Effective.f kj1 l0_1).bind fun bt290 => (if bt290.2 = 0 then (estoverstop_TopSharesKept.j1 kj1 bt290.1 ((bt290.1.length : Int) != (l0_1.length : Int)) l0_0 l0_1 a0_2 a0_3) else (estoverstop_TopSharesKept.j1 kj1 bt290.1 true l0_0 l0_1 a0_2 a0_3))) = some r := by rw [if_neg (show ¬ (false = true) by decide)] at H; exact H
    clear H
    have H := H1
    clear H1
    replace H := Option.bind_eq_some_iff.mp H
    obtain ⟨⟨t290, t291⟩, A290, H⟩ := H
    replace H : (if t291 = 0 then (estoverstop_TopSharesKept.j1 kj1 t290 ((t290.length : Int) != (l0_1.length : Int)) l0_0 l0_1 a0_2 a0_3) else (estoverstop_TopSharesKept.j1 kj1 t290 true l0_0 l0_1 a0_2 a0_3)) = some r := H
    have A29 := Aside0.mk A290
    clear A290
    have HC30 := Aside0.mk H
    clear H
    have hcz31_0 : wc.cell? ⟨gb284, 0, none⟩ = some (.slice A0_0 l0_0.length c0_0) := (blk_cell BK284.out 0).trans rfl
    have hcz31_1 : wc.cell? ⟨gb284, 1, none⟩ = some (.slice A0_1 l0_1.length c0_1) := (blk_cell BK284.out 1).trans rfl
    have hcz31_2 : wc.cell? ⟨gb284, 2, none⟩ = some (.int .i64 a0_2) := (blk_cell BK284.out 2).trans rfl
    have hcz31_3 : wc.cell? ⟨gb284, 3, none⟩ = some (.bool a0_3) := (blk_cell BK284.out 3).trans rfl
    have hfz31_0 := blk_frozen BK284.out 0
    have hfz31_1 := blk_frozen BK284.out 1
    have hfz31_2 := blk_frozen BK284.out 2
    have hfz31_3 := blk_frozen BK284.out 3
    go_upto_region 4 with (first | ((with_reducible refine gate_callee (f := 9) rfl ?_); refine goesL_ (some 33) rfl rfl Try.func9 (by kernel_rfl) rfl #[.slice A0_1 l0_1.length c0_1] rfl (by (try simp only [List.map_toArray, List.map_cons, List.map_nil]); first | done | rfl | (simp only [List.length_drop, List.length_take]; rfl)) ?_; (with_reducible refine (protection_Effective.calls kj1 _ _ l0_1 t290 t291 _ ?side1 ?side2 A29.out).mono ?_); (case side1 => repeat (first | exact (Kd.C_below HR0_1.out HB.out) | (with_reducible refine Kd.C_alloc ?_ _) | (with_reducible refine Kd.C_drewN ?_ _) | (with_reducible refine Kd.C_drew ?_))); (case side2 => exact HC0_1.out); rintro e w32 ⟨v292, rfl, ho0, hb⟩; refine ⟨_, rfl, ?_⟩; have n0_ := Aside0.mk (Kd.R_lower ho0 (below_size (by repeat (first | (with_reducible first | exact HB.out | apply below_alloc | apply pw_below_drewN | apply below_drew1 | refine below_set ?_ GE284.out) | exact HB.out)))); have n1_ := Aside0.mk (blk_below (g := gb284) (o := .cells #[.slice A0_0 l0_0.length c0_0, .slice A0_1 l0_1.length c0_1, .int .i64 a0_2, .bool a0_3] 25 (0, 0)) (by (with_reducible repeat (first | refine blk_drewN ?_ _ | refine blk_drew ?_ | refine blk_alloc ?_ _)); exact BK284.out) hb); have n2_ := Aside0.mk (below_step (by repeat (first | (with_reducible first | exact HB.out | apply below_alloc | apply pw_below_drewN | apply below_drew1 | refine below_set ?_ GE284.out) | exact HB.out)) hb); clear BK284; clear HB; have HO293 := n0_; have BK284 := n1_; have HB := n2_; clear n0_ n1_ n2_; (try clear hb); (try clear hb2); (try clear hk); (try clear hi); (try clear ho0)))
    (try simp only [Act.put, List.setIfInBounds_toArray, List.set_cons_zero, List.set_cons_succ])
    go_cut [45] (fun v45 wc => ∃ (kq : Nat) (x45_29 : Bool), v45 = .bool x45_29 ∧ Aside0 (estoverstop_TopSharesKept.j1 kq t290 x45_29 l0_0 l0_1 a0_2 a0_3 = some r) ∧ Aside0 (kq ≤ kj1) ∧ Aside0 (Kd.R (Kd.int .i64) 3 wc w.heap.size (fun _ => True) v292 t290) ∧ Aside0 (wc.heap[gb284]? = some (.cells #[(.slice A0_0 l0_0.length c0_0), (.slice A0_1 l0_1.length c0_1), .int .i64 a0_2, .bool a0_3] 25 (0, 0))) ∧ Aside0 (Below w.heap.size w wc))
    case first =>
     have H := HC30.out
     clear HC30
     by_cases c33 : t291 = 0
     ·rw [if_pos c33] at H
      have c33b0 : (t291 == 0) = true := beq_iff_eq.mpr c33
      have c33b1 : (t291 != 0) = false := bne_eq_false_iff_eq.mpr c33
      clear c33
      (first | rw [c33b0] | (simp only [i64_w, i32_w]; rw [c33b0]) | skip)
      have H' := Aside0.mk H
      clear H
      obtain ⟨Ao34, co34, eo34⟩ := Kd.R_slice HO293.out
      subst eo34
      have hcz35_0 : w32.cell? ⟨gb284, 0, none⟩ = some (.slice A0_0 l0_0.length c0_0) := (blk_cell BK284.out 0).trans rfl
      have hcz35_1 : w32.cell? ⟨gb284, 1, none⟩ = some (.slice A0_1 l0_1.length c0_1) := (blk_cell BK284.out 1).trans rfl
      have hcz35_2 : w32.cell? ⟨gb284, 2, none⟩ = some (.int .i64 a0_2) := (blk_cell BK284.out 2).trans rfl
      have hcz35_3 : w32.cell? ⟨gb284, 3, none⟩ = some (.bool a0_3) := (blk_cell BK284.out 3).trans rfl
      have hfz35_0 := blk_frozen BK284.out 0
      have hfz35_1 := blk_frozen BK284.out 1
      have hfz35_2 := blk_frozen BK284.out 2
      have hfz35_3 := blk_frozen BK284.out 3
      go_wp2
      go_meet
      case rel => exact ⟨_, (((t290.length : Int) != (l0_1.length : Int))), (by first | rfl | (simp; done) | (simp [*]; done)), H', ⟨by have := HJ1.out; first | omega | exact Nat.le_refl _⟩, ⟨by (with_reducible repeat (first | apply Kd.R_alloc | apply Kd.R_drewN | apply Kd.R_drew)); exact HO293.out⟩, ⟨by (with_reducible repeat (first | refine blk_drewN ?_ _ | refine blk_drew ?_ | refine blk_alloc ?_ _)); exact BK284.out⟩, ⟨by repeat (first | (with_reducible first | exact HB.out | apply below_alloc | apply pw_below_drewN | apply below_drew1 | refine below_set ?_ GE284.out) | exact HB.out)⟩⟩
     ·rw [if_neg c33] at H
      have c33b0 : (t291 == 0) = false := beq_eq_false_iff_ne.mpr c33
      have c33b1 : (t291 != 0) = true := bne_iff_ne.mpr c33
      (first | rw [c33b0] | (simp only [i64_w, i32_w]; rw [c33b0]) | skip)
      have H' := Aside0.mk H
      clear H
      go_wp2
      go_meet
      case rel => exact ⟨_, (true), (by first | rfl | (simp; done) | (simp [*]; done)), H', ⟨by have := HJ1.out; first | omega | exact Nat.le_refl _⟩, ⟨by (with_reducible repeat (first | apply Kd.R_alloc | apply Kd.R_drewN | apply Kd.R_drew)); exact HO293.out⟩, ⟨by (with_reducible repeat (first | refine blk_drewN ?_ _ | refine blk_drew ?_ | refine blk_alloc ?_ _)); exact BK284.out⟩, ⟨by repeat (first | (with_reducible first | exact HB.out | apply below_alloc | apply pw_below_drewN | apply below_drew1 | refine below_set ?_ GE284.out) | exact HB.out)⟩⟩
    case rest =>
     clear HC30
     try clear c2
     try clear p2
     try clear c3
     try clear c5
     try clear c7
     try clear c9
     try clear c9b0
     try clear c9b1
     try clear c26
     try clear c33
     try clear c33b0
     try clear c33b1
     try clear hcz12_0
     try clear hcz12_1
     try clear hcz12_2
     try clear hcz12_3
     try clear hcz14_0
     try clear hcz14_1
     try clear hcz14_2
     try clear hcz14_3
     try clear hcz16_0
     try clear hcz16_1
     try clear hcz16_2
     try clear hcz16_3
     try clear hcz18_0
     try clear hcz18_1
     try clear hcz18_2
     try clear hcz18_3
     try clear hcz20_0
     try clear hcz20_1
     try clear hcz20_2
     try clear hcz20_3
     try clear hcz23_0
     try clear hcz23_1
     try clear hcz23_2
     try clear hcz23_3
     try clear hcz31_0
     try clear hcz31_1
     try clear hcz31_2
     try clear hcz31_3
     try clear hcz35_0
     try clear hcz35_1
     try clear hcz35_2
     try clear hcz35_3
     try clear hfz12_0
     try clear hfz12_1
     try clear hfz12_2
     try clear hfz12_3
     try clear hfz14_0
     try clear hfz14_1
     try clear hfz14_2
     try clear hfz14_3
     try clear hfz16_0
     try clear hfz16_1
     try clear hfz16_2
     try clear hfz16_3
     try clear hfz18_0
     try clear hfz18_1
     try clear hfz18_2
     try clear hfz18_3
     try clear hfz20_0
     try clear hfz20_1
     try clear hfz20_2
     try clear hfz20_3
     try clear hfz23_0
     try clear hfz23_1
     try clear hfz23_2
     try clear hfz23_3
     try clear hfz31_0
     try clear hfz31_1
     try clear hfz31_2
     try clear hfz31_3
     try clear hfz35_0
     try clear hfz35_1
     try clear hfz35_2
     try clear hfz35_3
     try clear p2
     obtain ⟨kq, x45_29, rfl, HA, HJ29, HO_3, BK284, HB⟩ := hcut
     cases kq with
     | zero => exact absurd HA.out (by simp [estoverstop_TopSharesKept.j1])
     | succ kj29 =>
      have H := HA.out
      clear HA
      simp only [estoverstop_TopSharesKept.j1] at H
      by_cases c36 : x45_29 = true
      ·subst c36
       have H1 : (none) = some r := by rw [if_pos rfl] at H; exact H
       clear H
       have H := H1
       clear H1
       exact absurd H (by simp)
      ·replace c36 := Bool.eq_false_iff.mpr c36
       subst c36
       have H1 : ((some (([] : List (S35)) : List (S35))).bind fun y294 => (if y294.length + l0_0.length < 2932031007402 then ((some (y294 ++ l0_0 : List (S35))).bind fun y297 => (estoverstop_TopSharesKept.l0 kj29 t290 y297 (y297.length : Int) 0 l0_0 l0_1 a0_2 a0_3)) else (none))) = some r := by rw [if_neg (show ¬ (false = true) by decide)] at H; exact H
       clear H
       have H := H1
       clear H1
       obtain ⟨y294, hy294⟩ : ∃ y_ : List (S35), y_ = (([] : List (S35))) := ⟨_, rfl⟩
       replace H : (if y294.length + l0_0.length < 2932031007402 then ((some (y294 ++ l0_0 : List (S35))).bind fun y297 => (estoverstop_TopSharesKept.l0 kj29 t290 y297 (y297.length : Int) 0 l0_0 l0_1 a0_2 a0_3)) else (none)) = some r := by first | (rw [hy294]; with_reducible exact H) | (have H2_ := (Option.bind_some _ _).symm.trans H; rw [hy294]; with_reducible exact H2_) | (have H2_ := (Option.bind_some _ _).symm.trans H; with_reducible exact H2_) | with_reducible exact H | (rw [hy294]; exact H) | exact H
       have Ny294 := Aside0.mk hy294
       clear hy294
       by_cases c37 : y294.length + l0_0.length < 2932031007402
       ·rw [if_pos c37] at H
        have LMc37 := Aside0.mk c37
        clear c37
        obtain ⟨y297, hy297⟩ : ∃ y_ : List (S35), y_ = (y294 ++ l0_0) := ⟨_, rfl⟩
        replace H : (estoverstop_TopSharesKept.l0 kj29 t290 y297 (y297.length : Int) 0 l0_0 l0_1 a0_2 a0_3) = some r := by first | (rw [hy297]; with_reducible exact H) | (have H2_ := (Option.bind_some _ _).symm.trans H; rw [hy297]; with_reducible exact H2_) | (have H2_ := (Option.bind_some _ _).symm.trans H; with_reducible exact H2_) | with_reducible exact H | (rw [hy297]; exact H) | exact H
        have Ny297 := Aside0.mk hy297
        clear hy297
        have HC38 := Aside0.mk H
        clear H
        go_upto_block 0 with (first | ((with_reducible refine gate_dst (N := 46) rfl ?_); (try (refine gate_guard (by rfl) ?_; dsimp only)); refine Kd.R_lit k35 _ 35 ?hg (N := 46) ?hd (xs := ([] : List (S35))) (inner := []) (ok := fun _ => True) (okp := fun _ => True) ?hr ?hp (fun _ hk => hk) trivial (Below.refl _ _) (Nat.le_refl _) (by simp) ?_; (case hd => rfl); (case hg => rfl); (case hr => first | (go_simp; done) | (go_simp; rfl)); (case hp => exact (Reps.none _ _)); intro v295 w39 ho40 hb hg_ hnew_; clear hg_ hnew_; (first | rw [← Ny294.out] at ho40 | (simp only [Int.reduceToNat] at ho40; rw [← Ny294.out] at ho40)); have n0_ := Aside0.mk (Kd.R_below (by (with_reducible repeat (first | apply Kd.R_alloc | apply Kd.R_drewN | apply Kd.R_drew)); exact HO_3.out) hb); have n1_ := Aside0.mk (Kd.R_lower ho40 (below_size (by repeat (first | (with_reducible first | exact HB.out | apply below_alloc | apply pw_below_drewN | apply below_drew1 | refine below_set ?_ GE284.out) | exact HB.out)))); have n2_ := Aside0.mk (blk_below (g := gb284) (o := .cells #[.slice A0_0 l0_0.length c0_0, .slice A0_1 l0_1.length c0_1, .int .i64 a0_2, .bool a0_3] 25 (0, 0)) (by (with_reducible repeat (first | refine blk_drewN ?_ _ | refine blk_drew ?_ | refine blk_alloc ?_ _)); exact BK284.out) hb); have n3_ := Aside0.mk (below_step (by repeat (first | (with_reducible first | exact HB.out | apply below_alloc | apply pw_below_drewN | apply below_drew1 | refine below_set ?_ GE284.out) | exact HB.out)) hb); clear HO_3; clear BK284; clear HB; have HO_3 := n0_; have HO296 := n1_; have BK284 := n2_; have HB := n3_; clear n0_ n1_ n2_ n3_; clear hb ho40; have hcz41_0 : w39.cell? ⟨gb284, 0, none⟩ = some (.slice A0_0 l0_0.length c0_0) := (blk_cell BK284.out 0).trans rfl; have hcz41_1 : w39.cell? ⟨gb284, 1, none⟩ = some (.slice A0_1 l0_1.length c0_1) := (blk_cell BK284.out 1).trans rfl; have hcz41_2 : w39.cell? ⟨gb284, 2, none⟩ = some (.int .i64 a0_2) := (blk_cell BK284.out 2).trans rfl; have hcz41_3 : w39.cell? ⟨gb284, 3, none⟩ = some (.bool a0_3) := (blk_cell BK284.out 3).trans rfl; have hfz41_0 := blk_frozen BK284.out 0; have hfz41_1 := blk_frozen BK284.out 1; have hfz41_2 := blk_frozen BK284.out 2; have hfz41_3 := blk_frozen BK284.out 3) | ((with_reducible refine gate_builtin (b := .append) (xs := #[.tmp 46, .tmp 48]) rfl ?_); (try (refine gate_guard (by rfl) ?_; dsimp only)); at_builtin; refine Kd.R_append_rows k35 (w0 := w) w.heap.size rfl (.tmp 46) (.tmp 48) 22 35 (.agg #[(.int .i64 0), (.int .i64 0), (.int .i64 0), (.int .i64 0), (.int .i64 0), (.bool false), (.bool false)]) 48 rfl Try.underlying22 info35 rfl (by decide) (by omega) v295 y294 l0_0 _ _ _ (fun _ => True) (fun _ => False) rfl rfl ?aO ?aR (fun _ _ h => h) (fun _ h => h.elim) ?aF ?aB ?aS ?aL ?_; (case aR => repeat (first | exact (Kd.C_below HR0_0.out HB.out) | (with_reducible refine Kd.C_alloc ?_ _) | (with_reducible refine Kd.C_drewN ?_ _) | (with_reducible refine Kd.C_drew ?_))); (case aB => exact (by repeat (first | (with_reducible first | exact HB.out | apply below_alloc | apply pw_below_drewN | apply below_drew1 | refine below_set ?_ GE284.out) | exact HB.out))); (case aF => exact (fun _ _ => trivial)); (case aO => exact (by (with_reducible repeat (first | apply Kd.R_alloc | apply Kd.R_drewN | apply Kd.R_drew)); exact HO296.out)); (case aS => exact (below_size (by repeat (first | (with_reducible first | exact HB.out | apply below_alloc | apply pw_below_drewN | apply below_drew1 | refine below_set ?_ GE284.out) | exact HB.out)))); (case aL => have := LMc37.out; omega); intro v298 w42 ho hb hg hat; rw [← Ny297.out] at ho; have n0_ := Aside0.mk (Kd.R_over' (by (with_reducible repeat (first | apply Kd.R_alloc | apply Kd.R_drewN | apply Kd.R_drew)); exact HO_3.out) (Kd.R_typed (by (with_reducible repeat (first | apply Kd.R_alloc | apply Kd.R_drewN | apply Kd.R_drew)); exact HO296.out)) (by decide) hg); have n1_ := Aside0.mk (blk_grown (g := gb284) (o := .cells #[.slice A0_0 l0_0.length c0_0, .slice A0_1 l0_1.length c0_1, .int .i64 a0_2, .bool a0_3] 25 (0, 0)) (by (with_reducible repeat (first | refine blk_drewN ?_ _ | refine blk_drew ?_ | refine blk_alloc ?_ _)); exact BK284.out) hg (Kd.R_ne HO296.out BK284.out (by decide))); have n2_ := Aside0.mk (hb); have n3_ := Aside0.mk (ho); clear HO_3; clear BK284; clear HB; clear HO296; have HO_3 := n0_; have BK284 := n1_; have HB := n2_; have HO299 := n3_; clear n0_ n1_ n2_ n3_; clear ho hb hg hat; obtain ⟨Ao43, co43, eo43⟩ := Kd.R_slice HO299.out; subst eo43))
        (try simp only [Act.put, List.setIfInBounds_toArray, List.set_cons_zero, List.set_cons_succ])
        go_cut [] (fun wc => ∃ (kq : Nat) (x5_37 : List (S35)), Aside0 (estoverstop_TopSharesKept.j3 kq t290 x5_37 l0_0 l0_1 a0_2 a0_3 = some r) ∧ Aside0 (kq ≤ kj29) ∧ Aside0 (Kd.R (Kd.int .i64) 3 wc w.heap.size (fun _ => True) v292 t290) ∧ Aside0 (Kd.R k35 35 wc w.heap.size (fun _ => True) (.slice Ao43 y297.length co43) x5_37) ∧ Aside0 (wc.heap[gb284]? = some (.cells #[(.slice A0_0 l0_0.length c0_0), (.slice A0_1 l0_1.length c0_1), .int .i64 a0_2, .bool a0_3] 25 (0, 0))) ∧ Aside0 (Below w.heap.size w wc))
        case first =>
         have H := HC38.out
         clear HC38
         have H' := Aside0.mk H
         clear H
         go_wp2
         go_loopg [52] kj29 (fun kq v52 w' => ∃ (x5_3 : List (S35)) (x52_3 : Int), v52 = .int .i64 x52_3 ∧ Aside0 (estoverstop_TopSharesKept.l0 kq t290 x5_3 (y297.length : Int) x52_3 l0_0 l0_1 a0_2 a0_3 = some r) ∧ Aside0 (kq ≤ kj29) ∧ Aside0 (Kd.R (Kd.int .i64) 3 w' w.heap.size (fun _ => True) v292 t290) ∧ Aside0 (Kd.R k35 35 w' w.heap.size (fun _ => True) (.slice Ao43 y297.length co43) x5_3) ∧ Aside0 (w'.heap[gb284]? = some (.cells #[(.slice A0_0 l0_0.length c0_0), (.slice A0_1 l0_1.length c0_1), .int .i64 a0_2, .bool a0_3] 25 (0, 0))) ∧ Aside0 (Below w.heap.size w w'))
         case atStart => exact ⟨(y297), (0), (by first | rfl | (simp; done) | (simp [*]; done)), H', ⟨Nat.le_refl _⟩, ⟨by (with_reducible repeat (first | apply Kd.R_alloc | apply Kd.R_drewN | apply Kd.R_drew)); exact HO_3.out⟩, ⟨by (with_reducible repeat (first | apply Kd.R_alloc | apply Kd.R_drewN | apply Kd.R_drew)); exact HO299.out⟩, ⟨by (with_reducible repeat (first | refine blk_drewN ?_ _ | refine blk_drew ?_ | refine blk_alloc ?_ _)); exact BK284.out⟩, ⟨by repeat (first | (with_reducible first | exact HB.out | apply below_alloc | apply pw_below_drewN | apply below_drew1 | refine below_set ?_ GE284.out) | exact HB.out)⟩⟩
         case round =>
          clear H'
          try clear c2
          try clear p2
          try clear c3
          try clear c5
          try clear c7
          try clear c9
          try clear c9b0
          try clear c9b1
          try clear c26
          try clear c33
          try clear c33b0
          try clear c33b1
          try clear c36
          try clear c37
          try clear hcz12_0
          try clear hcz12_1
          try clear hcz12_2
          try clear hcz12_3
          try clear hcz14_0
          try clear hcz14_1
          try clear hcz14_2
          try clear hcz14_3
          try clear hcz16_0
          try clear hcz16_1
          try clear hcz16_2
          try clear hcz16_3
          try clear hcz18_0
          try clear hcz18_1
          try clear hcz18_2
          try clear hcz18_3
          try clear hcz20_0
          try clear hcz20_1
          try clear hcz20_2
          try clear hcz20_3
          try clear hcz23_0
          try clear hcz23_1
          try clear hcz23_2
          try clear hcz23_3
          try clear hcz31_0
          try clear hcz31_1
          try clear hcz31_2
          try clear hcz31_3
          try clear hcz35_0
          try clear hcz35_1
          try clear hcz35_2
          try clear hcz35_3
          try clear hcz41_0
          try clear hcz41_1
          try clear hcz41_2
          try clear hcz41_3
          try clear hfz12_0
          try clear hfz12_1
          try clear hfz12_2
          try clear hfz12_3
          try clear hfz14_0
          try clear hfz14_1
          try clear hfz14_2
          try clear hfz14_3
          try clear hfz16_0
          try clear hfz16_1
          try clear hfz16_2
          try clear hfz16_3
          try clear hfz18_0
          try clear hfz18_1
          try clear hfz18_2
          try clear hfz18_3
          try clear hfz20_0
          try clear hfz20_1
          try clear hfz20_2
          try clear hfz20_3
          try clear hfz23_0
          try clear hfz23_1
          try clear hfz23_2
          try clear hfz23_3
          try clear hfz31_0
          try clear hfz31_1
          try clear hfz31_2
          try clear hfz31_3
          try clear hfz35_0
          try clear hfz35_1
          try clear hfz35_2
          try clear hfz35_3
          try clear hfz41_0
          try clear hfz41_1
          try clear hfz41_2
          try clear hfz41_3
          try clear p2
          obtain ⟨x5_3, x52_3, rfl, HA, HK3, HO_3, HO_5, BK284, HB⟩ := hrel
          have hl5_3 := (Kd.R_reads' HO_5.out).1
          rw [hl5_3] at HO_5
          (try simp only [hl5_3])
          (try simp only [hl5_3] at BK284)
          (try simp only [hl5_3] at HO_3)
          cases gk with
          | zero => exact absurd HA.out (by simp [estoverstop_TopSharesKept.l0])
          | succ k3 =>
           have H := HA.out
           clear HA
           simp only [estoverstop_TopSharesKept.l0] at H
           by_cases c44 : x52_3 < (y297.length : Int)
           ·rw [if_pos c44] at H
            have c44b0 : decide (x52_3 < (y297.length : Int)) = true := decide_eq_true c44
            (try (have c44b0x := c44b0; simp only [hl5_3] at c44b0x))
            clear c44
            (first | rw [c44b0] | (simp only [i64_w, i32_w]; rw [c44b0]) | skip)
            replace H := Option.bind_eq_some_iff.mp H
            obtain ⟨t300, A450, H⟩ := H
            replace H : (if t300 < 0 then (estoverstop_TopSharesKept.j3 k3 t290 x5_3 l0_0 l0_1 a0_2 a0_3) else (if t300 ≥ (x5_3.length : Int) then (estoverstop_TopSharesKept.j3 k3 t290 x5_3 l0_0 l0_1 a0_2 a0_3) else (if 0 ≤ t300 then (if t300 < (x5_3.length : Int) then (estoverstop_TopSharesKept.l0 k3 t290 (x5_3.set (t300 : Int).toNat (⟨(rd_T35 x5_3 t300).f0, (rd_T35 x5_3 t300).f1, (rd_T35 x5_3 t300).f2, (rd_T35 x5_3 t300).f3, (rd_T35 x5_3 t300).f4, (rd_T35 x5_3 t300).f5, true⟩ : S35)) (y297.length : Int) (wrap64 (x52_3 + 1)) l0_0 l0_1 a0_2 a0_3) else (none)) else (none)))) = some r := H
            have A45 := Aside0.mk A450
            clear A450
            by_cases c46 : t300 < 0
            ·rw [if_pos c46] at H
             have c46b0 : decide (t300 < 0) = true := decide_eq_true c46
             clear c46
             have H' := Aside0.mk H
             clear H
             have hcz47_0 : wr.cell? ⟨gb284, 0, none⟩ = some (.slice A0_0 l0_0.length c0_0) := (blk_cell BK284.out 0).trans rfl
             have hcz47_1 : wr.cell? ⟨gb284, 1, none⟩ = some (.slice A0_1 l0_1.length c0_1) := (blk_cell BK284.out 1).trans rfl
             have hcz47_2 : wr.cell? ⟨gb284, 2, none⟩ = some (.int .i64 a0_2) := (blk_cell BK284.out 2).trans rfl
             have hcz47_3 : wr.cell? ⟨gb284, 3, none⟩ = some (.bool a0_3) := (blk_cell BK284.out 3).trans rfl
             have hfz47_0 := blk_frozen BK284.out 0
             have hfz47_1 := blk_frozen BK284.out 1
             have hfz47_2 := blk_frozen BK284.out 2
             have hfz47_3 := blk_frozen BK284.out 3
             go_wp2_with (first | ((with_reducible refine gate_callee (f := 10) rfl ?_); refine goesL_ (some 59) rfl rfl Try.func10 (by kernel_rfl) rfl #[.slice Ao43 x5_3.length co43, .slice A0_1 l0_1.length c0_1, .int .i64 (-1), .bool a0_3] rfl (by (try simp only [List.map_toArray, List.map_cons, List.map_nil]); first | done | rfl | (simp only [List.length_drop, List.length_take]; rfl)) ?_; (with_reducible refine (reclaimplan_Next.calls k3 _ _ x5_3 _ _ l0_1 (-1) a0_3 t300 _ ?side1 ?side2 ?side3 ?side4 A45.out).mono ?_); (case side1 => repeat (first | exact (Kd.R_reads' HO_5.out).2.2 | (with_reducible refine Kd.C_alloc ?_ _) | (with_reducible refine Kd.C_drewN ?_ _) | (with_reducible refine Kd.C_drew ?_))); (case side2 => exact (Kd.R_reads' HO_5.out).2.1); (case side3 => repeat (first | exact (Kd.C_below HR0_1.out HB.out) | (with_reducible refine Kd.C_alloc ?_ _) | (with_reducible refine Kd.C_drewN ?_ _) | (with_reducible refine Kd.C_drew ?_))); (case side4 => exact HC0_1.out); rintro e w48 ⟨rfl, hb⟩; refine ⟨_, rfl, ?_⟩; have n0_ := Aside0.mk (Kd.R_below (by (with_reducible repeat (first | apply Kd.R_alloc | apply Kd.R_drewN | apply Kd.R_drew)); exact HO_3.out) hb); have n1_ := Aside0.mk (Kd.R_below (by (with_reducible repeat (first | apply Kd.R_alloc | apply Kd.R_drewN | apply Kd.R_drew)); exact HO_5.out) hb); have n2_ := Aside0.mk (blk_below (g := gb284) (o := .cells #[.slice A0_0 l0_0.length c0_0, .slice A0_1 l0_1.length c0_1, .int .i64 a0_2, .bool a0_3] 25 (0, 0)) (by (with_reducible repeat (first | refine blk_drewN ?_ _ | refine blk_drew ?_ | refine blk_alloc ?_ _)); exact BK284.out) hb); have n3_ := Aside0.mk (below_step (by repeat (first | (with_reducible first | exact HB.out | apply below_alloc | apply pw_below_drewN | apply below_drew1 | refine below_set ?_ GE284.out) | exact HB.out)) hb); clear HO_3; clear HO_5; clear BK284; clear HB; have HO_3 := n0_; have HO_5 := n1_; have BK284 := n2_; have HB := n3_; clear n0_ n1_ n2_ n3_; (try clear hb); (try clear hb2); (try clear hk); (try clear hi)))
             (try simp only [← hl5_3])
             go_meet
             case rel => exact ⟨_, (x5_3), H', ⟨by have := HJ1.out; have := HJ29.out; have := HK3.out; first | omega | exact Nat.le_refl _⟩, ⟨by (try simp only [hl5_3]); (with_reducible repeat (first | apply Kd.R_alloc | apply Kd.R_drewN | apply Kd.R_drew)); exact HO_3.out⟩, ⟨by (try simp only [hl5_3]); (with_reducible repeat (first | apply Kd.R_alloc | apply Kd.R_drewN | apply Kd.R_drew)); exact HO_5.out⟩, ⟨by (try simp only [hl5_3]); (with_reducible repeat (first | refine blk_drewN ?_ _ | refine blk_drew ?_ | refine blk_alloc ?_ _)); exact BK284.out⟩, ⟨by repeat (first | (with_reducible first | exact HB.out | apply below_alloc | apply pw_below_drewN | apply below_drew1 | refine below_set ?_ GE284.out) | exact HB.out)⟩⟩
            ·rw [if_neg c46] at H
             have c46b0 : decide (t300 < 0) = false := decide_eq_false c46
             clear c46
             by_cases c49 : t300 ≥ (x5_3.length : Int)
             ·rw [if_pos c49] at H
              have c49b0 : decide ((x5_3.length : Int) ≤ t300) = true := decide_eq_true c49
              (try (have c49b0x := c49b0; simp only [hl5_3] at c49b0x))
              clear c49
              have H' := Aside0.mk H
              clear H
              have hcz50_0 : wr.cell? ⟨gb284, 0, none⟩ = some (.slice A0_0 l0_0.length c0_0) := (blk_cell BK284.out 0).trans rfl
              have hcz50_1 : wr.cell? ⟨gb284, 1, none⟩ = some (.slice A0_1 l0_1.length c0_1) := (blk_cell BK284.out 1).trans rfl
              have hcz50_2 : wr.cell? ⟨gb284, 2, none⟩ = some (.int .i64 a0_2) := (blk_cell BK284.out 2).trans rfl
              have hcz50_3 : wr.cell? ⟨gb284, 3, none⟩ = some (.bool a0_3) := (blk_cell BK284.out 3).trans rfl
              have hfz50_0 := blk_frozen BK284.out 0
              have hfz50_1 := blk_frozen BK284.out 1
              have hfz50_2 := blk_frozen BK284.out 2
              have hfz50_3 := blk_frozen BK284.out 3
              go_wp2_with (first | ((with_reducible refine gate_callee (f := 10) rfl ?_); refine goesL_ (some 59) rfl rfl Try.func10 (by kernel_rfl) rfl #[.slice Ao43 x5_3.length co43, .slice A0_1 l0_1.length c0_1, .int .i64 (-1), .bool a0_3] rfl (by (try simp only [List.map_toArray, List.map_cons, List.map_nil]); first | done | rfl | (simp only [List.length_drop, List.length_take]; rfl)) ?_; (with_reducible refine (reclaimplan_Next.calls k3 _ _ x5_3 _ _ l0_1 (-1) a0_3 t300 _ ?side1 ?side2 ?side3 ?side4 A45.out).mono ?_); (case side1 => repeat (first | exact (Kd.R_reads' HO_5.out).2.2 | (with_reducible refine Kd.C_alloc ?_ _) | (with_reducible refine Kd.C_drewN ?_ _) | (with_reducible refine Kd.C_drew ?_))); (case side2 => exact (Kd.R_reads' HO_5.out).2.1); (case side3 => repeat (first | exact (Kd.C_below HR0_1.out HB.out) | (with_reducible refine Kd.C_alloc ?_ _) | (with_reducible refine Kd.C_drewN ?_ _) | (with_reducible refine Kd.C_drew ?_))); (case side4 => exact HC0_1.out); rintro e w51 ⟨rfl, hb⟩; refine ⟨_, rfl, ?_⟩; have n0_ := Aside0.mk (Kd.R_below (by (with_reducible repeat (first | apply Kd.R_alloc | apply Kd.R_drewN | apply Kd.R_drew)); exact HO_3.out) hb); have n1_ := Aside0.mk (Kd.R_below (by (with_reducible repeat (first | apply Kd.R_alloc | apply Kd.R_drewN | apply Kd.R_drew)); exact HO_5.out) hb); have n2_ := Aside0.mk (blk_below (g := gb284) (o := .cells #[.slice A0_0 l0_0.length c0_0, .slice A0_1 l0_1.length c0_1, .int .i64 a0_2, .bool a0_3] 25 (0, 0)) (by (with_reducible repeat (first | refine blk_drewN ?_ _ | refine blk_drew ?_ | refine blk_alloc ?_ _)); exact BK284.out) hb); have n3_ := Aside0.mk (below_step (by repeat (first | (with_reducible first | exact HB.out | apply below_alloc | apply pw_below_drewN | apply below_drew1 | refine below_set ?_ GE284.out) | exact HB.out)) hb); clear HO_3; clear HO_5; clear BK284; clear HB; have HO_3 := n0_; have HO_5 := n1_; have BK284 := n2_; have HB := n3_; clear n0_ n1_ n2_ n3_; (try clear hb); (try clear hb2); (try clear hk); (try clear hi)))
              (try simp only [← hl5_3])
              go_meet
              case rel => exact ⟨_, (x5_3), H', ⟨by have := HJ1.out; have := HJ29.out; have := HK3.out; first | omega | exact Nat.le_refl _⟩, ⟨by (try simp only [hl5_3]); (with_reducible repeat (first | apply Kd.R_alloc | apply Kd.R_drewN | apply Kd.R_drew)); exact HO_3.out⟩, ⟨by (try simp only [hl5_3]); (with_reducible repeat (first | apply Kd.R_alloc | apply Kd.R_drewN | apply Kd.R_drew)); exact HO_5.out⟩, ⟨by (try simp only [hl5_3]); (with_reducible repeat (first | refine blk_drewN ?_ _ | refine blk_drew ?_ | refine blk_alloc ?_ _)); exact BK284.out⟩, ⟨by repeat (first | (with_reducible first | exact HB.out | apply below_alloc | apply pw_below_drewN | apply below_drew1 | refine below_set ?_ GE284.out) | exact HB.out)⟩⟩
             ·rw [if_neg c49] at H
              have c49b0 : decide ((x5_3.length : Int) ≤ t300) = false := decide_eq_false c49
              (try (have c49b0x := c49b0; simp only [hl5_3] at c49b0x))
              clear c49
              by_cases c52 : 0 ≤ t300
              ·rw [if_pos c52] at H
               have c52b0 : decide (0 ≤ t300) = true := decide_eq_true c52
               clear c52
               by_cases c53 : t300 < (x5_3.length : Int)
               ·rw [if_pos c53] at H
                have c53b0 : decide (t300 < (x5_3.length : Int)) = true := decide_eq_true c53
                (try (have c53b0x := c53b0; simp only [hl5_3] at c53b0x))
                clear c53
                obtain ⟨y301, hy301⟩ : ∃ y_ : List (S35), y_ = (x5_3.set (t300 : Int).toNat (⟨(rd_T35 x5_3 t300).f0, (rd_T35 x5_3 t300).f1, (rd_T35 x5_3 t300).f2, (rd_T35 x5_3 t300).f3, (rd_T35 x5_3 t300).f4, (rd_T35 x5_3 t300).f5, true⟩ : S35)) := ⟨_, rfl⟩
                replace H : (estoverstop_TopSharesKept.l0 k3 t290 y301 (y297.length : Int) (wrap64 (x52_3 + 1)) l0_0 l0_1 a0_2 a0_3) = some r := by first | (rw [hy301]; with_reducible exact H) | (have H2_ := (Option.bind_some _ _).symm.trans H; rw [hy301]; with_reducible exact H2_) | (have H2_ := (Option.bind_some _ _).symm.trans H; with_reducible exact H2_) | with_reducible exact H | (rw [hy301]; exact H) | exact H
                have Ny301 := Aside0.mk hy301
                clear hy301
                have H' := Aside0.mk H
                clear H
                have hcz55_0 : wr.cell? ⟨gb284, 0, none⟩ = some (.slice A0_0 l0_0.length c0_0) := (blk_cell BK284.out 0).trans rfl
                have hcz55_1 : wr.cell? ⟨gb284, 1, none⟩ = some (.slice A0_1 l0_1.length c0_1) := (blk_cell BK284.out 1).trans rfl
                have hcz55_2 : wr.cell? ⟨gb284, 2, none⟩ = some (.int .i64 a0_2) := (blk_cell BK284.out 2).trans rfl
                have hcz55_3 : wr.cell? ⟨gb284, 3, none⟩ = some (.bool a0_3) := (blk_cell BK284.out 3).trans rfl
                have hfz55_0 := blk_frozen BK284.out 0
                have hfz55_1 := blk_frozen BK284.out 1
                have hfz55_2 := blk_frozen BK284.out 2
                have hfz55_3 := blk_frozen BK284.out 3
                go_wp2_with (first | ((with_reducible refine gate_callee (f := 10) rfl ?_); refine goesL_ (some 59) rfl rfl Try.func10 (by kernel_rfl) rfl #[.slice Ao43 x5_3.length co43, .slice A0_1 l0_1.length c0_1, .int .i64 (-1), .bool a0_3] rfl (by (try simp only [List.map_toArray, List.map_cons, List.map_nil]); first | done | rfl | (simp only [List.length_drop, List.length_take]; rfl)) ?_; (with_reducible refine (reclaimplan_Next.calls k3 _ _ x5_3 _ _ l0_1 (-1) a0_3 t300 _ ?side1 ?side2 ?side3 ?side4 A45.out).mono ?_); (case side1 => repeat (first | exact (Kd.R_reads' HO_5.out).2.2 | (with_reducible refine Kd.C_alloc ?_ _) | (with_reducible refine Kd.C_drewN ?_ _) | (with_reducible refine Kd.C_drew ?_))); (case side2 => exact (Kd.R_reads' HO_5.out).2.1); (case side3 => repeat (first | exact (Kd.C_below HR0_1.out HB.out) | (with_reducible refine Kd.C_alloc ?_ _) | (with_reducible refine Kd.C_drewN ?_ _) | (with_reducible refine Kd.C_drew ?_))); (case side4 => exact HC0_1.out); rintro e w56 ⟨rfl, hb⟩; refine ⟨_, rfl, ?_⟩; have n0_ := Aside0.mk (Kd.R_below (by (with_reducible repeat (first | apply Kd.R_alloc | apply Kd.R_drewN | apply Kd.R_drew)); exact HO_3.out) hb); have n1_ := Aside0.mk (Kd.R_below (by (with_reducible repeat (first | apply Kd.R_alloc | apply Kd.R_drewN | apply Kd.R_drew)); exact HO_5.out) hb); have n2_ := Aside0.mk (blk_below (g := gb284) (o := .cells #[.slice A0_0 l0_0.length c0_0, .slice A0_1 l0_1.length c0_1, .int .i64 a0_2, .bool a0_3] 25 (0, 0)) (by (with_reducible repeat (first | refine blk_drewN ?_ _ | refine blk_drew ?_ | refine blk_alloc ?_ _)); exact BK284.out) hb); have n3_ := Aside0.mk (below_step (by repeat (first | (with_reducible first | exact HB.out | apply below_alloc | apply pw_below_drewN | apply below_drew1 | refine below_set ?_ GE284.out) | exact HB.out)) hb); clear HO_3; clear HO_5; clear BK284; clear HB; have HO_3 := n0_; have HO_5 := n1_; have BK284 := n2_; have HB := n3_; clear n0_ n1_ n2_ n3_; (try clear hb); (try clear hb2); (try clear hk); (try clear hi); have p54 : 0 ≤ (t300 : Int) := of_decide_eq_true (by first | (with_reducible assumption) | assumption); have q54 : (t300 : Int) < ((x5_3.length : Int) : Int) := of_decide_eq_true (by first | (with_reducible assumption) | assumption); obtain ⟨go54, co54, eo54, gb54, gl54, cl54, HG54⟩ := Kd.R_form HO_5.out (by omega); (first | cases eo54 | (injection eo54 with ea_ en_ ec_; (first | subst ea_ | (injection ea_ with ea_; subst ea_)); subst ec_; clear en_)); have GB54 := Aside0.mk gb54; have GG54 := Aside0.mk HG54; clear gb54 gl54 HG54; obtain ⟨ce54, hcl54, hM54, hcc54, hfr54⟩ := Kd.R_elem HO_5.out z35 (t300 : Int) p54 q54; obtain rfl := k35_openM hM54; have hx54_0 : w56.cell? ⟨go54, (t300 : Int).toNat * 7, none⟩ = some (.int .i64 ((rd_T35 x5_3 t300).f0)) := hcc54 0 _ rfl; have hx54_1 : w56.cell? ⟨go54, (t300 : Int).toNat * 7 + 1, none⟩ = some (.int .i64 ((rd_T35 x5_3 t300).f1)) := hcc54 1 _ rfl; have hx54_2 : w56.cell? ⟨go54, (t300 : Int).toNat * 7 + 2, none⟩ = some (.int .i64 ((rd_T35 x5_3 t300).f2)) := hcc54 2 _ rfl; have hx54_3 : w56.cell? ⟨go54, (t300 : Int).toNat * 7 + 3, none⟩ = some (.int .i64 ((rd_T35 x5_3 t300).f3)) := hcc54 3 _ rfl; have hx54_4 : w56.cell? ⟨go54, (t300 : Int).toNat * 7 + 4, none⟩ = some (.int .i64 ((rd_T35 x5_3 t300).f4)) := hcc54 4 _ rfl; have hx54_5 : w56.cell? ⟨go54, (t300 : Int).toNat * 7 + 5, none⟩ = some (.bool ((rd_T35 x5_3 t300).f5)) := hcc54 5 _ rfl; have hx54_6 : w56.cell? ⟨go54, (t300 : Int).toNat * 7 + 6, none⟩ = some (.bool ((rd_T35 x5_3 t300).f6)) := hcc54 6 _ rfl; have hf54_0 : w56.frozen? ⟨go54, (t300 : Int).toNat * 7, none⟩ = false := hfr54 0; have hf54_1 : w56.frozen? ⟨go54, (t300 : Int).toNat * 7 + 1, none⟩ = false := hfr54 1; have hf54_2 : w56.frozen? ⟨go54, (t300 : Int).toNat * 7 + 2, none⟩ = false := hfr54 2; have hf54_3 : w56.frozen? ⟨go54, (t300 : Int).toNat * 7 + 3, none⟩ = false := hfr54 3; have hf54_4 : w56.frozen? ⟨go54, (t300 : Int).toNat * 7 + 4, none⟩ = false := hfr54 4; have hf54_5 : w56.frozen? ⟨go54, (t300 : Int).toNat * 7 + 5, none⟩ = false := hfr54 5; have hf54_6 : w56.frozen? ⟨go54, (t300 : Int).toNat * 7 + 6, none⟩ = false := hfr54 6; (try clear hcl54); (try clear hcc54); (try clear hfr54); (try clear hM54); replace p54 := eq_true p54; replace q54 := eq_true q54; have HX57 := Aside0.mk (show Kd.R k35 35 w56 w.heap.size (fun _ => True) (.slice (some ⟨go54, 0, none⟩) x5_3.length co43) x5_3 from (by (with_reducible repeat (first | apply Kd.R_alloc | apply Kd.R_drewN | apply Kd.R_drew)); exact HO_5.out)); obtain ⟨ce57, hcl57, hM57, hcc57, hfr57⟩ := Kd.R_elem HX57.out z35 (t300 : Int) (of_decide_eq_true (by first | (with_reducible assumption) | assumption)) (by have h_ : (t300 : Int) < ((x5_3.length : Int) : Int) := of_decide_eq_true (by first | (with_reducible assumption) | assumption); first | exact h_ | (have e_ := (Kd.R_reads' HO_5.out).1; omega) | simpa using h_); obtain rfl := k35_openM hM57; have HP57 := Kd.R_seg HX57.out (t300 : Int) (of_decide_eq_true (by first | (with_reducible assumption) | assumption)) (by have h_ : (t300 : Int) < ((x5_3.length : Int) : Int) := of_decide_eq_true (by first | (with_reducible assumption) | assumption); first | exact h_ | (have e_ := (Kd.R_reads' HO_5.out).1; omega) | simpa using h_) (seg := [.bool true]) (j := 6) hcl57 hcc57 (show 7 ≤ 7 from by decide) (x' := (⟨(rd_T35 x5_3 t300).f0, (rd_T35 x5_3 t300).f1, (rd_T35 x5_3 t300).f2, (rd_T35 x5_3 t300).f3, (rd_T35 x5_3 t300).f4, (rd_T35 x5_3 t300).f5, true⟩ : S35)) (k35_mkM _ _ _ (⟨(rd_T35 x5_3 t300).f0, (rd_T35 x5_3 t300).f1, (rd_T35 x5_3 t300).f2, (rd_T35 x5_3 t300).f3, (rd_T35 x5_3 t300).f4, (rd_T35 x5_3 t300).f5, true⟩ : S35) ) (fun _ hk => hk); have hx57_6 := hcc57 6 _ rfl; (try simp only [show (k35).sz = 7 from rfl, Nat.mul_one, Nat.add_zero] at hx57_6); have hf57_6 := hfr57 6; (try simp only [show (k35).sz = 7 from rfl, Nat.mul_one, Nat.add_zero] at hf57_6); (try clear hcl57); (try clear hcc57); (try clear hfr57); (try clear hM57)) | ((with_reducible refine gate_store (t := 4) (p := 71) rfl ?_); refine store_event (t := 4) (p := 71) (v := ?vo_w58) (w1 := (w56.setCell ⟨go54, (t300 : Int).toNat * 7 + 6, none⟩ (.bool true))) ?hg ?ho ?hn ?hr ?_; (case ho => rfl); (case hg => rfl); (case hn => rfl); (case hr => first | (go_simp; done) | (go_simp; rfl)); intro w58 hw; have hg : w56.grownBy w58 (some go54) := (by rw [hw]; exact HP57.2); have hp_ : Kd.R k35 35 w58 w.heap.size (fun _ => True) (.slice (some ⟨go54, 0, none⟩) x5_3.length co43) y301 := (by rw [hw, Ny301.out]; exact HP57.1); clear HP57; have n0_ := Aside0.mk (Kd.R_over' (v := (.slice (some ⟨go54, 0, none⟩) x5_3.length co43)) (by (with_reducible repeat (first | apply Kd.R_alloc | apply Kd.R_drewN | apply Kd.R_drew)); exact HO_3.out) (Kd.R_typed HO_5.out) (by decide) hg); have n1_ := Aside0.mk (hp_); have n2_ := Aside0.mk (blk_grown (g := gb284) (o := .cells #[.slice A0_0 l0_0.length c0_0, .slice A0_1 l0_1.length c0_1, .int .i64 a0_2, .bool a0_3] 25 (0, 0)) (by (with_reducible repeat (first | refine blk_drewN ?_ _ | refine blk_drew ?_ | refine blk_alloc ?_ _)); exact BK284.out) hg (Kd.R_ne HO_5.out BK284.out (by decide))); have n3_ := Aside0.mk ((by rw [hw]; exact below_set (HB.out) GB54.out : Below w.heap.size w w58)); clear HO_3; clear HO_5; clear BK284; clear HB; have HO_3 := n0_; have HO_5 := n1_; have BK284 := n2_; have HB := n3_; clear n0_ n1_ n2_ n3_; clear hg hw hp_))
                (try simp only [← hl5_3])
                go_roundg k3
                case measure => have := HJ1.out; have := HJ29.out; have := HK3.out; omega
                case rel => exact ⟨(y301), (wrap64 (x52_3 + 1)), (by first | rfl | (simp; done) | (simp [*]; done)), H', ⟨by have := HJ1.out; have := HJ29.out; have := HK3.out; omega⟩, ⟨by (try simp only [hl5_3]); (with_reducible repeat (first | apply Kd.R_alloc | apply Kd.R_drewN | apply Kd.R_drew)); exact HO_3.out⟩, ⟨by (try simp only [hl5_3]); (with_reducible repeat (first | apply Kd.R_alloc | apply Kd.R_drewN | apply Kd.R_drew)); exact HO_5.out⟩, ⟨by (try simp only [hl5_3]); (with_reducible repeat (first | refine blk_drewN ?_ _ | refine blk_drew ?_ | refine blk_alloc ?_ _)); exact BK284.out⟩, ⟨by repeat (first | (with_reducible first | exact HB.out | apply below_alloc | apply pw_below_drewN | apply below_drew1 | refine below_set ?_ GE284.out) | exact HB.out)⟩⟩
               ·rw [if_neg c53] at H
                exact absurd H (by simp)
              ·rw [if_neg c52] at H
               exact absurd H (by simp)
           ·rw [if_neg c44] at H
            have c44b0 : decide (x52_3 < (y297.length : Int)) = false := decide_eq_false c44
            (try (have c44b0x := c44b0; simp only [hl5_3] at c44b0x))
            clear c44
            (first | rw [c44b0] | (simp only [i64_w, i32_w]; rw [c44b0]) | skip)
            have H' := Aside0.mk H
            clear H
            go_wp2
            (try simp only [← hl5_3])
            go_meet
            case rel => exact ⟨_, (x5_3), H', ⟨by have := HJ1.out; have := HJ29.out; have := HK3.out; first | omega | exact Nat.le_refl _⟩, ⟨by (try simp only [hl5_3]); (with_reducible repeat (first | apply Kd.R_alloc | apply Kd.R_drewN | apply Kd.R_drew)); exact HO_3.out⟩, ⟨by (try simp only [hl5_3]); (with_reducible repeat (first | apply Kd.R_alloc | apply Kd.R_drewN | apply Kd.R_drew)); exact HO_5.out⟩, ⟨by (try simp only [hl5_3]); (with_reducible repeat (first | refine blk_drewN ?_ _ | refine blk_drew ?_ | refine blk_alloc ?_ _)); exact BK284.out⟩, ⟨by repeat (first | (with_reducible first | exact HB.out | apply below_alloc | apply pw_below_drewN | apply below_drew1 | refine below_set ?_ GE284.out) | exact HB.out)⟩⟩
        case rest =>
         clear HC38
         try clear c1
         try clear c2
         try clear p2
         try clear c3
         try clear c4
         try clear c5
         try clear p5
         try clear q5
         try clear hx5
         try clear hf5
         try clear p6
         try clear c7
         try clear c9
         try clear c9b0
         try clear c9b1
         try clear c10
         try clear c26
         try clear c33
         try clear c33b0
         try clear c33b1
         try clear c36
         try clear c37
         try clear c44
         try clear c44b0
         try clear c46
         try clear c46b0
         try clear c49
         try clear c49b0
         try clear c52
         try clear c52b0
         try clear c53
         try clear c53b0
         try clear c54
         try clear p54
         try clear q54
         try clear hx54
         try clear hf54
         try clear c57
         try clear hx57
         try clear hf57
         try clear hcz12_0
         try clear hcz12_1
         try clear hcz12_2
         try clear hcz12_3
         try clear hcz14_0
         try clear hcz14_1
         try clear hcz14_2
         try clear hcz14_3
         try clear hcz16_0
         try clear hcz16_1
         try clear hcz16_2
         try clear hcz16_3
         try clear hcz18_0
         try clear hcz18_1
         try clear hcz18_2
         try clear hcz18_3
         try clear hcz20_0
         try clear hcz20_1
         try clear hcz20_2
         try clear hcz20_3
         try clear hcz23_0
         try clear hcz23_1
         try clear hcz23_2
         try clear hcz23_3
         try clear hcz31_0
         try clear hcz31_1
         try clear hcz31_2
         try clear hcz31_3
         try clear hcz35_0
         try clear hcz35_1
         try clear hcz35_2
         try clear hcz35_3
         try clear hcz41_0
         try clear hcz41_1
         try clear hcz41_2
         try clear hcz41_3
         try clear hcz47_0
         try clear hcz47_1
         try clear hcz47_2
         try clear hcz47_3
         try clear hcz50_0
         try clear hcz50_1
         try clear hcz50_2
         try clear hcz50_3
         try clear hcz55_0
         try clear hcz55_1
         try clear hcz55_2
         try clear hcz55_3
         try clear hfz12_0
         try clear hfz12_1
         try clear hfz12_2
         try clear hfz12_3
         try clear hfz14_0
         try clear hfz14_1
         try clear hfz14_2
         try clear hfz14_3
         try clear hfz16_0
         try clear hfz16_1
         try clear hfz16_2
         try clear hfz16_3
         try clear hfz18_0
         try clear hfz18_1
         try clear hfz18_2
         try clear hfz18_3
         try clear hfz20_0
         try clear hfz20_1
         try clear hfz20_2
         try clear hfz20_3
         try clear hfz23_0
         try clear hfz23_1
         try clear hfz23_2
         try clear hfz23_3
         try clear hfz31_0
         try clear hfz31_1
         try clear hfz31_2
         try clear hfz31_3
         try clear hfz35_0
         try clear hfz35_1
         try clear hfz35_2
         try clear hfz35_3
         try clear hfz41_0
         try clear hfz41_1
         try clear hfz41_2
         try clear hfz41_3
         try clear hfz47_0
         try clear hfz47_1
         try clear hfz47_2
         try clear hfz47_3
         try clear hfz50_0
         try clear hfz50_1
         try clear hfz50_2
         try clear hfz50_3
         try clear hfz55_0
         try clear hfz55_1
         try clear hfz55_2
         try clear hfz55_3
         try clear hx54_0
         try clear hx54_1
         try clear hx54_2
         try clear hx54_3
         try clear hx54_4
         try clear hx54_5
         try clear hx54_6
         try clear hx57_6
         try clear p2
         try clear p54
         try clear q54
         obtain ⟨kq, x5_37, HA, HJ37, HO_3, HO_5, BK284, HB⟩ := hcut
         have hl5_37 := (Kd.R_reads' HO_5.out).1
         rw [hl5_37] at HO_5
         (try simp only [hl5_37])
         (try simp only [hl5_37] at BK284)
         (try simp only [hl5_37] at HO_3)
         cases kq with
         | zero => exact absurd HA.out (by simp [estoverstop_TopSharesKept.j3])
         | succ kj37 =>
          have H := HA.out
          clear HA
          simp only [estoverstop_TopSharesKept.j3] at H
          have H' := Aside0.mk H
          clear H
          go_wp2
          go_loopg [7] kj37 (fun kq v7 w' => ∃ (x7_4 : Int), v7 = .int .i64 x7_4 ∧ Aside0 (estoverstop_TopSharesKept.l1 kq t290 x5_37 x7_4 l0_0 l0_1 a0_2 a0_3 = some r) ∧ Aside0 (kq ≤ kj37) ∧ Aside0 (Kd.R (Kd.int .i64) 3 w' w.heap.size (fun _ => True) v292 t290) ∧ Aside0 (Kd.R k35 35 w' w.heap.size (fun _ => True) (.slice Ao43 x5_37.length co43) x5_37) ∧ Aside0 (w'.heap[gb284]? = some (.cells #[(.slice A0_0 l0_0.length c0_0), (.slice A0_1 l0_1.length c0_1), .int .i64 a0_2, .bool a0_3] 25 (0, 0))) ∧ Aside0 (Below w.heap.size w w'))
          case atStart => exact ⟨(1), (by first | rfl | (simp; done) | (simp [*]; done)), H', ⟨Nat.le_refl _⟩, ⟨by (try simp only [hl5_37]); (with_reducible repeat (first | apply Kd.R_alloc | apply Kd.R_drewN | apply Kd.R_drew)); exact HO_3.out⟩, ⟨by (try simp only [hl5_37]); (with_reducible repeat (first | apply Kd.R_alloc | apply Kd.R_drewN | apply Kd.R_drew)); exact HO_5.out⟩, ⟨by (try simp only [hl5_37]); (with_reducible repeat (first | refine blk_drewN ?_ _ | refine blk_drew ?_ | refine blk_alloc ?_ _)); exact BK284.out⟩, ⟨by repeat (first | (with_reducible first | exact HB.out | apply below_alloc | apply pw_below_drewN | apply below_drew1 | refine below_set ?_ GE284.out) | exact HB.out)⟩⟩
          case round =>
           clear H'
           try clear c1
           try clear c2
           try clear p2
           try clear c3
           try clear c4
           try clear c5
           try clear p5
           try clear q5
           try clear hx5
           try clear hf5
           try clear p6
           try clear c7
           try clear c9
           try clear c9b0
           try clear c9b1
           try clear c10
           try clear c26
           try clear c33
           try clear c33b0
           try clear c33b1
           try clear c36
           try clear c37
           try clear c44
           try clear c44b0
           try clear c46
           try clear c46b0
           try clear c49
           try clear c49b0
           try clear c52
           try clear c52b0
           try clear c53
           try clear c53b0
           try clear c54
           try clear p54
           try clear q54
           try clear hx54
           try clear hf54
           try clear c57
           try clear hx57
           try clear hf57
           try clear hcz12_0
           try clear hcz12_1
           try clear hcz12_2
           try clear hcz12_3
           try clear hcz14_0
           try clear hcz14_1
           try clear hcz14_2
           try clear hcz14_3
           try clear hcz16_0
           try clear hcz16_1
           try clear hcz16_2
           try clear hcz16_3
           try clear hcz18_0
           try clear hcz18_1
           try clear hcz18_2
           try clear hcz18_3
           try clear hcz20_0
           try clear hcz20_1
           try clear hcz20_2
           try clear hcz20_3
           try clear hcz23_0
           try clear hcz23_1
           try clear hcz23_2
           try clear hcz23_3
           try clear hcz31_0
           try clear hcz31_1
           try clear hcz31_2
           try clear hcz31_3
           try clear hcz35_0
           try clear hcz35_1
           try clear hcz35_2
           try clear hcz35_3
           try clear hcz41_0
           try clear hcz41_1
           try clear hcz41_2
           try clear hcz41_3
           try clear hcz47_0
           try clear hcz47_1
           try clear hcz47_2
           try clear hcz47_3
           try clear hcz50_0
           try clear hcz50_1
           try clear hcz50_2
           try clear hcz50_3
           try clear hcz55_0
           try clear hcz55_1
           try clear hcz55_2
           try clear hcz55_3
           try clear hfz12_0
           try clear hfz12_1
           try clear hfz12_2
           try clear hfz12_3
           try clear hfz14_0
           try clear hfz14_1
           try clear hfz14_2
           try clear hfz14_3
           try clear hfz16_0
           try clear hfz16_1
           try clear hfz16_2
           try clear hfz16_3
           try clear hfz18_0
           try clear hfz18_1
           try clear hfz18_2
           try clear hfz18_3
           try clear hfz20_0
           try clear hfz20_1
           try clear hfz20_2
           try clear hfz20_3
           try clear hfz23_0
           try clear hfz23_1
           try clear hfz23_2
           try clear hfz23_3
           try clear hfz31_0
           try clear hfz31_1
           try clear hfz31_2
           try clear hfz31_3
           try clear hfz35_0
           try clear hfz35_1
           try clear hfz35_2
           try clear hfz35_3
           try clear hfz41_0
           try clear hfz41_1
           try clear hfz41_2
           try clear hfz41_3
           try clear hfz47_0
           try clear hfz47_1
           try clear hfz47_2
           try clear hfz47_3
           try clear hfz50_0
           try clear hfz50_1
           try clear hfz50_2
           try clear hfz50_3
           try clear hfz55_0
           try clear hfz55_1
           try clear hfz55_2
           try clear hfz55_3
           try clear hx54_0
           try clear hx54_1
           try clear hx54_2
           try clear hx54_3
           try clear hx54_4
           try clear hx54_5
           try clear hx54_6
           try clear hx57_6
           try clear p2
           try clear p5
           try clear p54
           try clear p6
           try clear q5
           try clear q54
           obtain ⟨x7_4, rfl, HA, HK4, HO_3, HO_5, BK284, HB⟩ := hrel
           cases gk with
           | zero => exact absurd HA.out (by simp [estoverstop_TopSharesKept.l1])
           | succ k4 =>
            have H := HA.out
            clear HA
            simp only [estoverstop_TopSharesKept.l1] at H
            by_cases c59 : x7_4 < (l0_1.length : Int)
            ·rw [if_pos c59] at H
             have c59b0 : decide (x7_4 < (l0_1.length : Int)) = true := decide_eq_true c59
             (try (have c59b0x := c59b0; simp only [hl5_37] at c59b0x))
             clear c59
             replace H := Option.bind_eq_some_iff.mp H
             obtain ⟨t302, A600, H⟩ := H
             replace H : (if 0 ≤ x7_4 then (if x7_4 < (t290.length : Int) then ((estoverstop_restOf.f k4 l0_0 l0_1 x7_4).bind fun t304 => (if t302 < (mn (rd t290 x7_4) t304) then (none) else (estoverstop_TopSharesKept.l1 k4 t290 x5_37 (wrap64 (x7_4 + 1)) l0_0 l0_1 a0_2 a0_3))) else (none)) else (none)) = some r := H
             have A60 := Aside0.mk A600
             clear A600
             by_cases c61 : 0 ≤ x7_4
             ·rw [if_pos c61] at H
              have c61b0 : decide (0 ≤ x7_4) = true := decide_eq_true c61
              clear c61
              by_cases c62 : x7_4 < (t290.length : Int)
              ·rw [if_pos c62] at H
               have c62b0 : decide (x7_4 < (t290.length : Int)) = true := decide_eq_true c62
               (try (have c62b0x := c62b0; simp only [hl5_37] at c62b0x))
               clear c62
               replace H := Option.bind_eq_some_iff.mp H
               obtain ⟨t304, A630, H⟩ := H
               replace H : (if t302 < (mn (rd t290 x7_4) t304) then (none) else (estoverstop_TopSharesKept.l1 k4 t290 x5_37 (wrap64 (x7_4 + 1)) l0_0 l0_1 a0_2 a0_3)) = some r := H
               have A63 := Aside0.mk A630
               clear A630
               obtain ⟨ji64, hji64⟩ : ∃ j_ : Int, (mn (rd t290 x7_4) t304) = j_ := ⟨_, rfl⟩
               replace H : (if t302 < (ji64) then (none) else (estoverstop_TopSharesKept.l1 k4 t290 x5_37 (wrap64 (x7_4 + 1)) l0_0 l0_1 a0_2 a0_3)) = some r := by first | (rw [hji64] at H; exact H) | (simp only [hji64] at H ⊢; exact H)
               (try rw [hji64] at A60)
               (try rw [hji64] at A63)
               have hji64_ : (if t304 < (rd t290 x7_4) then t304 else (rd t290 x7_4)) = ji64 := hji64
               by_cases c65 : t302 < (ji64)
               ·rw [if_pos c65] at H
                exact absurd H (by simp)
               ·rw [if_neg c65] at H
                have c65b0 : decide (t302 < (ji64)) = false := decide_eq_false c65
                clear c65
                have H' := Aside0.mk H
                clear H
                have hcz66_0 : wr.cell? ⟨gb284, 0, none⟩ = some (.slice A0_0 l0_0.length c0_0) := (blk_cell BK284.out 0).trans rfl
                have hcz66_1 : wr.cell? ⟨gb284, 1, none⟩ = some (.slice A0_1 l0_1.length c0_1) := (blk_cell BK284.out 1).trans rfl
                have hcz66_2 : wr.cell? ⟨gb284, 2, none⟩ = some (.int .i64 a0_2) := (blk_cell BK284.out 2).trans rfl
                have hcz66_3 : wr.cell? ⟨gb284, 3, none⟩ = some (.bool a0_3) := (blk_cell BK284.out 3).trans rfl
                have hfz66_0 := blk_frozen BK284.out 0
                have hfz66_1 := blk_frozen BK284.out 1
                have hfz66_2 := blk_frozen BK284.out 2
                have hfz66_3 := blk_frozen BK284.out 3
                try go_wp2
                have n0_ := Aside0.mk (Kd.R_drew HO_3.out)
                have n1_ := Aside0.mk (Kd.R_drew HO_5.out)
                have n2_ := Aside0.mk (blk_drew BK284.out)
                have n3_ := Aside0.mk (below_drew1 HB.out)
                clear HO_3
                clear HO_5
                clear BK284
                clear HB
                have HO_3 := n0_
                have HO_5 := n1_
                have BK284 := n2_
                have HB := n3_
                clear n0_ n1_ n2_ n3_
                obtain ⟨Ao68, co68, eo68⟩ := Kd.R_slice HO_3.out
                (first | subst eo68 | (injection eo68 with f1_ f2_ f3_; have f4_ := f1_.symm; have f5_ := f3_.symm; clear f1_ f2_ f3_; subst f4_; subst f5_))
                have p303 : 0 ≤ (x7_4 : Int) := of_decide_eq_true (by first | (with_reducible assumption) | assumption)
                have q303 : x7_4 < (t290.length : Int) := of_decide_eq_true (by first | (with_reducible assumption) | assumption)
                obtain ⟨ad303, e303, hx303_0⟩ := Kd.at_int (Kd.R_reads' HO_3.out).2.2 x7_4 p303 q303
                cases e303
                replace p303 := eq_true p303
                replace q303 := eq_true q303
                refine start_ (n := 17) (S := fun w' => w'.cell? ⟨gb284, 0, none⟩ = some (.slice A0_0 l0_0.length c0_0) ∧ w'.cell? ⟨gb284, 1, none⟩ = some (.slice A0_1 l0_1.length c0_1) ∧ w'.cell? ⟨gb284, 2, none⟩ = some (.int .i64 a0_2) ∧ w'.cell? ⟨gb284, 3, none⟩ = some (.bool a0_3) ∧ w'.cell? (ad303.add (x7_4).toNat) = some (.int .i64 (rd t290 x7_4))) (ds := []) #[false, false, false, false, false, false, false, false, false, false, false, false, false, false, false, false, false] (by kernel_rfl) rfl rfl ⟨(blk_cell BK284.out 0).trans rfl, (blk_cell BK284.out 1).trans rfl, (blk_cell BK284.out 2).trans rfl, (blk_cell BK284.out 3).trans rfl, hx303_0⟩ (fun hHeld => ?_); refine with_tabW estoverstop_TopSharesKept.tab16 estoverstop_TopSharesKept.bits16 (fun HT_ HW_ => ?_)
                generalize wr.drew = w67 at HO_3 HO_5 BK284 HB hx303_0 hHeld ⊢
                refine pure_ (i := 0) (N := some 80) (v := ?_) (a' := ?_) #[true, false, false, false, false, false, false, false, false, false, false, false, false, false, false, false, false] rfl rfl (any_of HT_.out (by kernel_rfl)) (fun _ _ _ h => h) (Or.inl ⟨by rfl, ?_⟩) ?_ ?_
                rotate_left
                ·intro w'
                 go_simp
                 with_reducible rfl
                rotate_left
                ·simp only [Act.put, List.setIfInBounds_toArray, List.set_cons_zero, List.set_cons_succ, i64_w, i32_w]
                 rfl
                refine pure_ (i := 1) (N := some 81) (v := ?_) (a' := ?_) #[true, true, false, false, false, false, false, false, false, false, false, false, false, false, false, false, false] rfl rfl (any_of HT_.out (by kernel_rfl)) (fun _ _ _ h => h) (Or.inl ⟨by rfl, ?_⟩) ?_ ?_
                rotate_left
                ·intro w'
                 go_simp
                 with_reducible rfl
                rotate_left
                ·simp only [Act.put, List.setIfInBounds_toArray, List.set_cons_zero, List.set_cons_succ, i64_w, i32_w]
                 rfl
                refine pure_ (i := 3) (N := some 83) (v := ?_) (a' := ?_) #[true, true, false, true, false, false, false, false, false, false, false, false, false, false, false, false, false] rfl rfl (any_of HT_.out (by kernel_rfl)) (fun _ _ _ h => h) (Or.inl ⟨by rfl, ?_⟩) ?_ ?_
                rotate_left
                ·intro w'
                 go_simp
                 with_reducible rfl
                rotate_left
                ·simp only [Act.put, List.setIfInBounds_toArray, List.set_cons_zero, List.set_cons_succ, i64_w, i32_w]
                 rfl
                refine pure_ (i := 5) (N := some 85) (v := ?_) (a' := ?_) #[true, true, false, true, false, true, false, false, false, false, false, false, false, false, false, false, false] rfl rfl (any_of HT_.out (by kernel_rfl)) (fun _ _ _ h => h) (Or.inl ⟨by rfl, ?_⟩) ?_ ?_
                rotate_left
                ·intro w'
                 go_simp
                 with_reducible rfl
                rotate_left
                ·simp only [Act.put, List.setIfInBounds_toArray, List.set_cons_zero, List.set_cons_succ, i64_w, i32_w]
                 rfl
                refine pure_ (i := 6) (N := some 86) (v := ?_) (a' := ?_) #[true, true, false, true, false, true, true, false, false, false, false, false, false, false, false, false, false] rfl rfl (any_of HT_.out (by kernel_rfl)) (fun _ _ _ h => h) (Or.inl ⟨by rfl, ?_⟩) ?_ ?_
                rotate_left
                ·intro w'
                 go_simp
                 with_reducible rfl
                rotate_left
                ·simp only [Act.put, List.setIfInBounds_toArray, List.set_cons_zero, List.set_cons_succ, i64_w, i32_w]
                 rfl
                refine pure_ (i := 7) (N := some 87) (v := ?_) (a' := ?_) #[true, true, false, true, false, true, true, true, false, false, false, false, false, false, false, false, false] rfl rfl (any_of HT_.out (by kernel_rfl)) (fun _ _ _ h => h) (Or.inl ⟨by rfl, ?_⟩) ?_ ?_
                rotate_left
                ·intro w'
                 go_simp
                 with_reducible rfl
                rotate_left
                ·simp only [Act.put, List.setIfInBounds_toArray, List.set_cons_zero, List.set_cons_succ, i64_w, i32_w]
                 rfl
                refine pure_ (i := 9) (N := some 89) (v := ?_) (a' := ?_) #[true, true, false, true, false, true, true, true, false, true, false, false, false, false, false, false, false] rfl rfl (any_of HT_.out (by kernel_rfl)) (fun _ _ _ h => h) (Or.inl ⟨by rfl, ?_⟩) ?_ ?_
                rotate_left
                ·intro w'
                 go_simp
                 with_reducible rfl
                rotate_left
                ·simp only [Act.put, List.setIfInBounds_toArray, List.set_cons_zero, List.set_cons_succ, i64_w, i32_w]
                 rfl
                refine pure_ (i := 11) (N := some 91) (v := ?_) (a' := ?_) #[true, true, false, true, false, true, true, true, false, true, false, true, false, false, false, false, false] rfl rfl (any_of HT_.out (by kernel_rfl)) (fun _ _ _ h => h) (Or.inl ⟨by rfl, ?_⟩) ?_ ?_
                rotate_left
                ·intro w'
                 go_simp
                 with_reducible rfl
                rotate_left
                ·simp only [Act.put, List.setIfInBounds_toArray, List.set_cons_zero, List.set_cons_succ, i64_w, i32_w]
                 rfl
                refine pure_ (i := 13) (N := some 93) (v := ?_) (a' := ?_) #[true, true, false, true, false, true, true, true, false, true, false, true, false, true, false, false, false] rfl rfl (any_of HT_.out (by kernel_rfl)) (fun _ _ _ h => h) (Or.inl ⟨by rfl, ?_⟩) ?_ ?_
                rotate_left
                ·intro w'
                 go_simp
                 with_reducible rfl
                rotate_left
                ·simp only [Act.put, List.setIfInBounds_toArray, List.set_cons_zero, List.set_cons_succ, i64_w, i32_w]
                 rfl
                refine take_ (i := 2) (N := some 82) (v := ?_) (a' := ?_) #[true, true, true, true, false, true, true, true, false, true, false, true, false, true, false, false, false] rfl rfl (take_ofW HT_.out HW_.out (by kernel_rfl)) (fun _ _ _ h => h) (Or.inl ⟨by rfl, ?_⟩) hHeld ?_ ?_
                rotate_left
                ·rintro w' ⟨s0, s1, s2, s3, s4⟩
                 go_simp
                 with_reducible rfl
                rotate_left
                ·simp only [Act.put, List.setIfInBounds_toArray, List.set_cons_zero, List.set_cons_succ, i64_w, i32_w]
                 rfl
                refine take_ (i := 8) (N := some 88) (v := ?_) (a' := ?_) #[true, true, true, true, false, true, true, true, true, true, false, true, false, true, false, false, false] rfl rfl (take_ofW HT_.out HW_.out (by kernel_rfl)) (fun _ _ _ h => h) (Or.inl ⟨by rfl, ?_⟩) hHeld ?_ ?_
                rotate_left
                ·rintro w' ⟨s0, s1, s2, s3, s4⟩
                 go_simp
                 with_reducible rfl
                rotate_left
                ·simp only [Act.put, List.setIfInBounds_toArray, List.set_cons_zero, List.set_cons_succ, i64_w, i32_w]
                 rfl
                refine take_ (i := 10) (N := some 90) (v := ?_) (a' := ?_) #[true, true, true, true, false, true, true, true, true, true, true, true, false, true, false, false, false] rfl rfl (take_ofW HT_.out HW_.out (by kernel_rfl)) (fun _ _ _ h => h) (Or.inl ⟨by rfl, ?_⟩) hHeld ?_ ?_
                rotate_left
                ·rintro w' ⟨s0, s1, s2, s3, s4⟩
                 go_simp
                 with_reducible rfl
                rotate_left
                ·simp only [Act.put, List.setIfInBounds_toArray, List.set_cons_zero, List.set_cons_succ, i64_w, i32_w]
                 rfl
                refine take_ (i := 12) (N := some 92) (v := ?_) (a' := ?_) #[true, true, true, true, false, true, true, true, true, true, true, true, true, true, false, false, false] rfl rfl (take_ofW HT_.out HW_.out (by kernel_rfl)) (fun _ _ _ h => h) (Or.inl ⟨by rfl, ?_⟩) hHeld ?_ ?_
                rotate_left
                ·rintro w' ⟨s0, s1, s2, s3, s4⟩
                 go_simp
                 with_reducible rfl
                rotate_left
                ·simp only [Act.put, List.setIfInBounds_toArray, List.set_cons_zero, List.set_cons_succ, i64_w, i32_w]
                 rfl
                refine one_ (i := 4) (N := some 84) #[true, true, true, true, true, true, true, true, true, true, true, true, true, true, false, false, false] rfl rfl (one_of HT_.out (by kernel_rfl)) (by decide) (fun K hK => ?_)
                refine goes_ Try.func11 (by kernel_rfl) rfl #[.slice Ao43 x5_37.length co43, .slice A0_1 l0_1.length c0_1, .int .i64 x7_4] (by rfl) rfl rfl (by (try simp only [List.map_toArray, List.map_cons, List.map_nil]); first | done | rfl | (simp only [List.length_drop, List.length_take]; rfl)) ?_
                with_reducible refine (estoverstop_restOf.calls k4 _ _ x5_37 _ _ l0_1 x7_4 t302 _ ?side1 ?side2 ?side3 ?side4 A60.out).mono ?_
                (case side1 => repeat (first | exact (Kd.R_reads' HO_5.out).2.2 | (with_reducible refine Kd.C_alloc ?_ _) | (with_reducible refine Kd.C_drewN ?_ _) | (with_reducible refine Kd.C_drew ?_)))
                (case side2 => exact (Kd.R_reads' HO_5.out).2.1)
                (case side3 => repeat (first | exact (Kd.C_below HR0_1.out HB.out) | (with_reducible refine Kd.C_alloc ?_ _) | (with_reducible refine Kd.C_drewN ?_ _) | (with_reducible refine Kd.C_drew ?_)))
                (case side4 => exact HC0_1.out)
                rintro e w69 ⟨rfl, hb⟩
                have HS4_ := (hb.cell (World.block_lt_of_cell? _ _ (hHeld.2.2.2.2))).trans (hHeld.2.2.2.2)
                refine ⟨_, rfl, ?_⟩
                have n0_ := Aside0.mk (Kd.R_below (by (with_reducible repeat (first | apply Kd.R_alloc | apply Kd.R_drewN | apply Kd.R_drew)); exact HO_3.out) hb)
                have n1_ := Aside0.mk (Kd.R_below (by (with_reducible repeat (first | apply Kd.R_alloc | apply Kd.R_drewN | apply Kd.R_drew)); exact HO_5.out) hb)
                have n2_ := Aside0.mk (blk_below (g := gb284) (o := .cells #[.slice A0_0 l0_0.length c0_0, .slice A0_1 l0_1.length c0_1, .int .i64 a0_2, .bool a0_3] 25 (0, 0)) (by (with_reducible repeat (first | refine blk_drewN ?_ _ | refine blk_drew ?_ | refine blk_alloc ?_ _)); exact BK284.out) hb)
                have n3_ := Aside0.mk (below_step (by repeat (first | (with_reducible first | exact HB.out | apply below_alloc | apply pw_below_drewN | apply below_drew1 | refine below_set ?_ GE284.out) | exact HB.out)) hb)
                clear HO_3
                clear HO_5
                clear BK284
                clear HB
                have HO_3 := n0_
                have HO_5 := n1_
                have BK284 := n2_
                have HB := n3_
                clear n0_ n1_ n2_ n3_
                (try clear hb)
                (try clear hb2)
                (try clear hk)
                (try clear hi)
                refine hK.out _ _ ⟨(blk_cell BK284.out 0).trans rfl, (blk_cell BK284.out 1).trans rfl, (blk_cell BK284.out 2).trans rfl, (blk_cell BK284.out 3).trans rfl, HS4_⟩ (fun hHeld => ?_)
                clear hK K
                refine norm_ (a' := ?_) ?_ ?_
                rotate_left
                ·show Act.put _ (some 84) _ = _
                 simp only [Act.put, List.setIfInBounds_toArray, List.set_cons_zero, List.set_cons_succ, i64_w, i32_w]
                 rfl
                refine one_ (i := 14) (N := some 94) #[true, true, true, true, true, true, true, true, true, true, true, true, true, true, true, false, false] rfl rfl (one_of HT_.out (by kernel_rfl)) (by decide) (fun K hK => ?_)
                refine goes_ Try.func11 (by kernel_rfl) rfl #[.slice A0_0 l0_0.length c0_0, .slice A0_1 l0_1.length c0_1, .int .i64 x7_4] (by rfl) rfl rfl (by (try simp only [List.map_toArray, List.map_cons, List.map_nil]); first | done | rfl | (simp only [List.length_drop, List.length_take]; rfl)) ?_
                with_reducible refine (estoverstop_restOf.calls k4 _ _ l0_0 _ _ l0_1 x7_4 t304 _ ?side1 ?side2 ?side3 ?side4 A63.out).mono ?_
                (case side1 => repeat (first | exact (Kd.C_below HR0_0.out HB.out) | (with_reducible refine Kd.C_alloc ?_ _) | (with_reducible refine Kd.C_drewN ?_ _) | (with_reducible refine Kd.C_drew ?_)))
                (case side2 => exact HC0_0.out)
                (case side3 => repeat (first | exact (Kd.C_below HR0_1.out HB.out) | (with_reducible refine Kd.C_alloc ?_ _) | (with_reducible refine Kd.C_drewN ?_ _) | (with_reducible refine Kd.C_drew ?_)))
                (case side4 => exact HC0_1.out)
                rintro e w70 ⟨rfl, hb⟩
                have HS4_ := (hb.cell (World.block_lt_of_cell? _ _ (hHeld.2.2.2.2))).trans (hHeld.2.2.2.2)
                refine ⟨_, rfl, ?_⟩
                have n0_ := Aside0.mk (Kd.R_below (by (with_reducible repeat (first | apply Kd.R_alloc | apply Kd.R_drewN | apply Kd.R_drew)); exact HO_3.out) hb)
                have n1_ := Aside0.mk (Kd.R_below (by (with_reducible repeat (first | apply Kd.R_alloc | apply Kd.R_drewN | apply Kd.R_drew)); exact HO_5.out) hb)
                have n2_ := Aside0.mk (blk_below (g := gb284) (o := .cells #[.slice A0_0 l0_0.length c0_0, .slice A0_1 l0_1.length c0_1, .int .i64 a0_2, .bool a0_3] 25 (0, 0)) (by (with_reducible repeat (first | refine blk_drewN ?_ _ | refine blk_drew ?_ | refine blk_alloc ?_ _)); exact BK284.out) hb)
                have n3_ := Aside0.mk (below_step (by repeat (first | (with_reducible first | exact HB.out | apply below_alloc | apply pw_below_drewN | apply below_drew1 | refine below_set ?_ GE284.out) | exact HB.out)) hb)
                clear HO_3
                clear HO_5
                clear BK284
                clear HB
                have HO_3 := n0_
                have HO_5 := n1_
                have BK284 := n2_
                have HB := n3_
                clear n0_ n1_ n2_ n3_
                (try clear hb)
                (try clear hb2)
                (try clear hk)
                (try clear hi)
                refine hK.out _ _ ⟨(blk_cell BK284.out 0).trans rfl, (blk_cell BK284.out 1).trans rfl, (blk_cell BK284.out 2).trans rfl, (blk_cell BK284.out 3).trans rfl, HS4_⟩ (fun hHeld => ?_)
                clear hK K
                refine norm_ (a' := ?_) ?_ ?_
                rotate_left
                ·show Act.put _ (some 94) _ = _
                 simp only [Act.put, List.setIfInBounds_toArray, List.set_cons_zero, List.set_cons_succ, i64_w, i32_w]
                 rfl
                refine pure_ (i := 15) (N := some 95) (v := ?_) (a' := ?_) #[true, true, true, true, true, true, true, true, true, true, true, true, true, true, true, true, false] rfl rfl (any_of HT_.out (by kernel_rfl)) (fun _ _ _ h => h) (Or.inl ⟨by rfl, ?_⟩) ?_ ?_
                rotate_left
                ·intro w'
                 go_simp
                 with_reducible rfl
                rotate_left
                ·simp only [Act.put, List.setIfInBounds_toArray, List.set_cons_zero, List.set_cons_succ, i64_w, i32_w]
                 rfl
                refine pure_ (i := 16) (N := some 96) (v := ?_) (a' := ?_) #[true, true, true, true, true, true, true, true, true, true, true, true, true, true, true, true, true] rfl rfl (any_of HT_.out (by kernel_rfl)) (fun _ _ _ h => h) (Or.inl ⟨by rfl, ?_⟩) ?_ ?_
                rotate_left
                ·intro w'
                 go_simp
                 with_reducible rfl
                rotate_left
                ·simp only [Act.put, List.setIfInBounds_toArray, List.set_cons_zero, List.set_cons_succ, i64_w, i32_w]
                 rfl
                refine done_ (done_of HT_.out (by kernel_rfl)) ?_
                try go_wp2
                first | go_roundg k4 | ((try simp only [← hji64]); go_roundg k4)
                case measure => have := HJ1.out; have := HJ29.out; have := HJ37.out; have := HK4.out; omega
                case rel => first | (exact ⟨(wrap64 (x7_4 + 1)), (by first | rfl | (simp; done) | (simp [*]; done)), H', ⟨by have := HJ1.out; have := HJ29.out; have := HJ37.out; have := HK4.out; omega⟩, ⟨by (try simp only [hl5_37]); (with_reducible repeat (first | apply Kd.R_alloc | apply Kd.R_drewN | apply Kd.R_drew)); exact HO_3.out⟩, ⟨by (try simp only [hl5_37]); (with_reducible repeat (first | apply Kd.R_alloc | apply Kd.R_drewN | apply Kd.R_drew)); exact HO_5.out⟩, ⟨by (try simp only [hl5_37]); (with_reducible repeat (first | refine blk_drewN ?_ _ | refine blk_drew ?_ | refine blk_alloc ?_ _)); exact BK284.out⟩, ⟨by repeat (first | (with_reducible first | exact HB.out | apply below_alloc | apply pw_below_drewN | apply below_drew1 | refine below_set ?_ GE284.out) | exact HB.out)⟩⟩) | ((try simp only [hji64]); exact ⟨(wrap64 (x7_4 + 1)), (by first | rfl | (simp; done) | (simp [*]; done)), H', ⟨by have := HJ1.out; have := HJ29.out; have := HJ37.out; have := HK4.out; omega⟩, ⟨by (try simp only [hl5_37]); (with_reducible repeat (first | apply Kd.R_alloc | apply Kd.R_drewN | apply Kd.R_drew)); exact HO_3.out⟩, ⟨by (try simp only [hl5_37]); (with_reducible repeat (first | apply Kd.R_alloc | apply Kd.R_drewN | apply Kd.R_drew)); exact HO_5.out⟩, ⟨by (try simp only [hl5_37]); (with_reducible repeat (first | refine blk_drewN ?_ _ | refine blk_drew ?_ | refine blk_alloc ?_ _)); exact BK284.out⟩, ⟨by repeat (first | (with_reducible first | exact HB.out | apply below_alloc | apply pw_below_drewN | apply below_drew1 | refine below_set ?_ GE284.out) | exact HB.out)⟩⟩)
              ·rw [if_neg c62] at H
               exact absurd H (by simp)
             ·rw [if_neg c61] at H
              exact absurd H (by simp)
            ·rw [if_neg c59] at H
             have c59b0 : decide (x7_4 < (l0_1.length : Int)) = false := decide_eq_false c59
             (try (have c59b0x := c59b0; simp only [hl5_37] at c59b0x))
             clear c59
             obtain rfl := Option.some.inj H
             have hcz71_0 : wr.cell? ⟨gb284, 0, none⟩ = some (.slice A0_0 l0_0.length c0_0) := (blk_cell BK284.out 0).trans rfl
             have hcz71_1 : wr.cell? ⟨gb284, 1, none⟩ = some (.slice A0_1 l0_1.length c0_1) := (blk_cell BK284.out 1).trans rfl
             have hcz71_2 : wr.cell? ⟨gb284, 2, none⟩ = some (.int .i64 a0_2) := (blk_cell BK284.out 2).trans rfl
             have hcz71_3 : wr.cell? ⟨gb284, 3, none⟩ = some (.bool a0_3) := (blk_cell BK284.out 3).trans rfl
             have hfz71_0 := blk_frozen BK284.out 0
             have hfz71_1 := blk_frozen BK284.out 1
             have hfz71_2 := blk_frozen BK284.out 2
             have hfz71_3 := blk_frozen BK284.out 3
             go_wp2
             go_ret
             exact ⟨by first | rfl | (simp [errW_none, errW_some] <;> rfl) | (simp [*, errW_none, errW_some] <;> rfl), by repeat (first | (with_reducible first | exact HB.out | apply below_alloc | apply pw_below_drewN | apply below_drew1 | refine below_set ?_ GE284.out) | exact HB.out)⟩
       ·rw [if_neg c37] at H
        exact absurd H (by simp)
end Go.Proofs.Ytpccpkpljlafcaa.PTopSharesKept
