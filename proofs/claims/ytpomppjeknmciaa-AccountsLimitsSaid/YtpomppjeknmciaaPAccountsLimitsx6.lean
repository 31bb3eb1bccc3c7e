-- Printed by a copy of the kit's printer that this session has patched (wip/tools/patch_print.py): the session's own text. Lean checks it.
import Derived.Test.YtpomppjeknmciaaPAccountsLimitsx0
import Derived.Test.YtpomppjeknmciaaPAccountsLimitsx2
import Derived.Test.YtpomppjeknmciaaPAccountsLimitsx3
import Derived.Test.YtpomppjeknmciaaPAccountsLimitsx4
import Derived.Test.YtpomppjeknmciaaPAccountsLimitsx5
namespace Go.Proofs.Ytpomppjeknmciaa.PAccountsLimits
open Go.RowKit Go.Proofs.YtpomppjeknmciaaW.PrintWords Go.Proofs.YtpomppjeknmciaaW.PrintLast Go.Proofs.YtpomppjeknmciaaW.PrintMore
attribute [local go_sem] max2_int min2_int max_two min_two max_three min_three max_four min_four   -- for this text's walks alone
set_option linter.unusedVariables false
set_option linter.unusedSimpArgs false

/-! ### estoverslaw19_AccountsLimits: function 12 -/
mutual
def estoverslaw19_AccountsLimits.j0 : Nat → List (S43) → List (S52) → Bool → Option (Bool)
  | 0, _, _, _ => none
  | k + 1, x0, x1, x32 => if x32 = true then ((estoverslaw19_awake.f k).bind fun t237 => (some t237)) else (estoverslaw19_AccountsLimits.l0 k x0 x1 (x1.length : Int) 0)
def estoverslaw19_AccountsLimits.l0 : Nat → List (S43) → List (S52) → Int → Int → Option (Bool)
  | 0, _, _, _, _ => none
  | k + 1, x0, x34, x35, x36 => if x36 < x35 then (if 0 ≤ x36 then (if x36 < (x34.length : Int) then ((accounts_Charge.f k x0 ((rd_T52 x34 x36).f1) ((rd_T52 x34 x36).f2)).bind fun bt240 => (if (rd_T52 x34 x36).f0 = true then ((accounts_Uncharge.f k x0 ((rd_T52 x34 x36).f1) ((rd_T52 x34 x36).f2)).bind fun bt245 => (estoverslaw19_AccountsLimits.j2 k x0 bt245.1 bt245.2 x34 x35 x36)) else (estoverslaw19_AccountsLimits.j2 k x0 bt240.1 bt240.2.2 x34 x35 x36))) else (none)) else (none)) else (some true)
def estoverslaw19_AccountsLimits.j2 : Nat → List (S43) → List (S43) → Int → List (S52) → Int → Int → Option (Bool)
  | 0, _, _, _, _, _, _ => none
  | k + 1, x0, x7, x9, x34, x35, x36 => if x9 = 0 then (if (x7.length : Int) = (x0.length : Int) then ((accounts_Check.f k x7).bind fun t249 => (estoverslaw19_AccountsLimits.j3 k x0 x7 x34 x35 x36 (t249 != 0))) else (estoverslaw19_AccountsLimits.j3 k x0 x7 x34 x35 x36 true)) else (estoverslaw19_AccountsLimits.l0 k x0 x34 x35 (wrap64 (x36 + 1)))
def estoverslaw19_AccountsLimits.j3 : Nat → List (S43) → List (S43) → List (S52) → Int → Int → Bool → Option (Bool)
  | 0, _, _, _, _, _, _ => none
  | k + 1, x0, x7, x34, x35, x36, x72 => if x72 = true then (none) else (estoverslaw19_AccountsLimits.l1 k x0 x7 0 x34 x35 x36 x7 (x7.length : Int) 0)
def estoverslaw19_AccountsLimits.l1 : Nat → List (S43) → List (S43) → Int → List (S52) → Int → Int → List (S43) → Int → Int → Option (Bool)
  | 0, _, _, _, _, _, _, _, _, _ => none
  | k + 1, x0, x7, x10, x34, x35, x36, x73, x74, x75 => if x75 < x74 then (if 0 ≤ x75 then (if x75 < (x73.length : Int) then (estoverslaw19_AccountsLimits.l2 k x0 x7 x10 x75 ((rd_T43 x73 x75).f1) x34 x35 x36 x73 x74 x75 x7 (x7.length : Int) 0 ((rd_T43 x73 x75).f0) ((rd_T43 x73 x75).f1) ((rd_T43 x73 x75).f2) ((rd_T43 x73 x75).f3) ((rd_T43 x73 x75).f4)) else (none)) else (none)) else ((accounts_Total.f k x7).bind fun t250 => (if x10 = t250 then (estoverslaw19_AccountsLimits.l0 k x7 x34 x35 (wrap64 (x36 + 1))) else (none)))
def estoverslaw19_AccountsLimits.l2 : Nat → List (S43) → List (S43) → Int → Int → Int → List (S52) → Int → Int → List (S43) → Int → Int → List (S43) → Int → Int → Int → Int → Int → Int → Int → Option (Bool)
  | 0, _, _, _, _, _, _, _, _, _, _, _, _, _, _, _, _, _, _, _ => none
  | k + 1, x0, x7, x10, x11, x13, x34, x35, x36, x73, x74, x75, x82, x83, x84, x253000, x253001, x253002, x253003, x253004 => if x84 < x83 then (if 0 ≤ x84 then (if x84 < (x82.length : Int) then (if x84 > 0 then (if ((rd_T43 x82 x84).f0) = x11 then (estoverslaw19_AccountsLimits.l2 k x0 x7 x10 x11 (wrap64 (x13 - ((rd_T43 x82 x84).f1))) x34 x35 x36 x73 x74 x75 x82 x83 (wrap64 (x84 + 1)) x253000 x253001 x253002 x253003 x253004) else (estoverslaw19_AccountsLimits.l2 k x0 x7 x10 x11 x13 x34 x35 x36 x73 x74 x75 x82 x83 (wrap64 (x84 + 1)) x253000 x253001 x253002 x253003 x253004)) else (estoverslaw19_AccountsLimits.l2 k x0 x7 x10 x11 x13 x34 x35 x36 x73 x74 x75 x82 x83 (wrap64 (x84 + 1)) x253000 x253001 x253002 x253003 x253004)) else (none)) else (none)) else (if x253001 > x253004 then (none) else (if x13 < 0 then (none) else ((accounts_Own.f k x7 x11).bind fun t255 => (if x13 = t255 then (if 0 ≤ x11 then (if x11 < (x0.length : Int) then (if x253002 = ((rd_T43 x0 x11).f2) then (if x253003 = ((rd_T43 x0 x11).f3) then (if x253004 = ((rd_T43 x0 x11).f4) then (if x253000 = ((rd_T43 x0 x11).f0) then (estoverslaw19_AccountsLimits.l1 k x0 x7 (wrap64 (x10 + x13)) x34 x35 x36 x73 x74 (wrap64 (x75 + 1))) else (none)) else (none)) else (none)) else (none)) else (none)) else (none)) else (none)))))
end
def estoverslaw19_AccountsLimits.f (k : Nat) (l0 : List (S43)) (l1 : List (S52)) : Option (Bool) := (estoverslaw19_awake.f k).bind fun t234 => (if t234 = true then ((estoverslaw19_Few.f l0).bind fun t235 => (if t235 = true then (if (l1.length : Int) > 40 then (estoverslaw19_AccountsLimits.j0 k l0 l1 true) else ((accounts_Check.f k l0).bind fun t236 => (estoverslaw19_AccountsLimits.j0 k l0 l1 (t236 != 0)))) else (estoverslaw19_AccountsLimits.j0 k l0 l1 true))) else (estoverslaw19_AccountsLimits.j0 k l0 l1 true))
theorem estoverslaw19_AccountsLimits.mono_l : ∀ k, (∀ y0 y1 y2, LeO (estoverslaw19_AccountsLimits.j0 k y0 y1 y2) (estoverslaw19_AccountsLimits.j0 (k + 1) y0 y1 y2)) ∧ (∀ y0 y1 y2 y3, LeO (estoverslaw19_AccountsLimits.l0 k y0 y1 y2 y3) (estoverslaw19_AccountsLimits.l0 (k + 1) y0 y1 y2 y3)) ∧ (∀ y0 y1 y2 y3 y4 y5, LeO (estoverslaw19_AccountsLimits.j2 k y0 y1 y2 y3 y4 y5) (estoverslaw19_AccountsLimits.j2 (k + 1) y0 y1 y2 y3 y4 y5)) ∧ (∀ y0 y1 y2 y3 y4 y5, LeO (estoverslaw19_AccountsLimits.j3 k y0 y1 y2 y3 y4 y5) (estoverslaw19_AccountsLimits.j3 (k + 1) y0 y1 y2 y3 y4 y5)) ∧ (∀ y0 y1 y2 y3 y4 y5 y6 y7 y8, LeO (estoverslaw19_AccountsLimits.l1 k y0 y1 y2 y3 y4 y5 y6 y7 y8) (estoverslaw19_AccountsLimits.l1 (k + 1) y0 y1 y2 y3 y4 y5 y6 y7 y8)) ∧ (∀ y0 y1 y2 y3 y4 y5 y6 y7 y8 y9 y10 y11 y12 y13 y14 y15 y16 y17 y18, LeO (estoverslaw19_AccountsLimits.l2 k y0 y1 y2 y3 y4 y5 y6 y7 y8 y9 y10 y11 y12 y13 y14 y15 y16 y17 y18) (estoverslaw19_AccountsLimits.l2 (k + 1) y0 y1 y2 y3 y4 y5 y6 y7 y8 y9 y10 y11 y12 y13 y14 y15 y16 y17 y18))
  | 0 => ⟨fun _ _ _ r h => by simp [estoverslaw19_AccountsLimits.j0] at h, fun _ _ _ _ r h => by simp [estoverslaw19_AccountsLimits.l0] at h, fun _ _ _ _ _ _ r h => by simp [estoverslaw19_AccountsLimits.j2] at h, fun _ _ _ _ _ _ r h => by simp [estoverslaw19_AccountsLimits.j3] at h, fun _ _ _ _ _ _ _ _ _ r h => by simp [estoverslaw19_AccountsLimits.l1] at h, fun _ _ _ _ _ _ _ _ _ _ _ _ _ _ _ _ _ _ _ r h => by simp [estoverslaw19_AccountsLimits.l2] at h⟩
  | k + 1 => by
    obtain ⟨ih0, ih1, ih2, ih3, ih4, ih5⟩ := estoverslaw19_AccountsLimits.mono_l k
    refine ⟨?_, ?_, ?_, ?_, ?_, ?_⟩
    · intro y0 y1 y2
      unfold estoverslaw19_AccountsLimits.j0
      repeat' first
      | (with_reducible exact ih0 _ _ _)
      | (with_reducible exact ih1 _ _ _ _)
      | (with_reducible exact ih2 _ _ _ _ _ _)
      | (with_reducible exact ih3 _ _ _ _ _ _)
      | (with_reducible exact ih4 _ _ _ _ _ _ _ _ _)
      | (with_reducible exact ih5 _ _ _ _ _ _ _ _ _ _ _ _ _ _ _ _ _ _ _)
      | (with_reducible exact accounts_Charge.mono _ _ _ _)
      | (with_reducible exact accounts_Check.mono _ _)
      | (with_reducible exact accounts_Own.mono _ _ _)
      | (with_reducible exact accounts_Total.mono _ _)
      | (with_reducible exact accounts_Uncharge.mono _ _ _ _)
      | (with_reducible exact estoverslaw19_awake.mono _)
      | (with_reducible exact LeO.refl _)
      | (with_reducible exact LeO.none _)
      | (with_reducible refine LeO.ite ?_ ?_)
      | (with_reducible refine LeO.bind ?_ (fun _ => ?_))
      | exact ih0 _ _ _
      | exact ih1 _ _ _ _
      | exact ih2 _ _ _ _ _ _
      | exact ih3 _ _ _ _ _ _
      | exact ih4 _ _ _ _ _ _ _ _ _
      | exact ih5 _ _ _ _ _ _ _ _ _ _ _ _ _ _ _ _ _ _ _
      | exact accounts_Charge.mono _ _ _ _
      | exact accounts_Check.mono _ _
      | exact accounts_Own.mono _ _ _
      | exact accounts_Total.mono _ _
      | exact accounts_Uncharge.mono _ _ _ _
      | exact estoverslaw19_awake.mono _
      | exact LeO.none _
      | refine LeO.ite ?_ ?_
      | refine LeO.bind ?_ (fun _ => ?_)
    · intro y0 y1 y2 y3
      unfold estoverslaw19_AccountsLimits.l0
      repeat' first
      | (with_reducible exact ih0 _ _ _)
      | (with_reducible exact ih1 _ _ _ _)
      | (with_reducible exact ih2 _ _ _ _ _ _)
      | (with_reducible exact ih3 _ _ _ _ _ _)
      | (with_reducible exact ih4 _ _ _ _ _ _ _ _ _)
      | (with_reducible exact ih5 _ _ _ _ _ _ _ _ _ _ _ _ _ _ _ _ _ _ _)
      | (with_reducible exact accounts_Charge.mono _ _ _ _)
      | (with_reducible exact accounts_Check.mono _ _)
      | (with_reducible exact accounts_Own.mono _ _ _)
      | (with_reducible exact accounts_Total.mono _ _)
      | (with_reducible exact accounts_Uncharge.mono _ _ _ _)
      | (with_reducible exact estoverslaw19_awake.mono _)
      | (with_reducible exact LeO.refl _)
      | (with_reducible exact LeO.none _)
      | (with_reducible refine LeO.ite ?_ ?_)
      | (with_reducible refine LeO.bind ?_ (fun _ => ?_))
      | exact ih0 _ _ _
      | exact ih1 _ _ _ _
      | exact ih2 _ _ _ _ _ _
      | exact ih3 _ _ _ _ _ _
      | exact ih4 _ _ _ _ _ _ _ _ _
      | exact ih5 _ _ _ _ _ _ _ _ _ _ _ _ _ _ _ _ _ _ _
      | exact accounts_Charge.mono _ _ _ _
      | exact accounts_Check.mono _ _
      | exact accounts_Own.mono _ _ _
      | exact accounts_Total.mono _ _
      | exact accounts_Uncharge.mono _ _ _ _
      | exact estoverslaw19_awake.mono _
      | exact LeO.none _
      | refine LeO.ite ?_ ?_
      | refine LeO.bind ?_ (fun _ => ?_)
    · intro y0 y1 y2 y3 y4 y5
      unfold estoverslaw19_AccountsLimits.j2
      repeat' first
      | (with_reducible exact ih0 _ _ _)
      | (with_reducible exact ih1 _ _ _ _)
      | (with_reducible exact ih2 _ _ _ _ _ _)
      | (with_reducible exact ih3 _ _ _ _ _ _)
      | (with_reducible exact ih4 _ _ _ _ _ _ _ _ _)
      | (with_reducible exact ih5 _ _ _ _ _ _ _ _ _ _ _ _ _ _ _ _ _ _ _)
      | (with_reducible exact accounts_Charge.mono _ _ _ _)
      | (with_reducible exact accounts_Check.mono _ _)
      | (with_reducible exact accounts_Own.mono _ _ _)
      | (with_reducible exact accounts_Total.mono _ _)
      | (with_reducible exact accounts_Uncharge.mono _ _ _ _)
      | (with_reducible exact estoverslaw19_awake.mono _)
      | (with_reducible exact LeO.refl _)
      | (with_reducible exact LeO.none _)
      | (with_reducible refine LeO.ite ?_ ?_)
      | (with_reducible refine LeO.bind ?_ (fun _ => ?_))
      | exact ih0 _ _ _
      | exact ih1 _ _ _ _
      | exact ih2 _ _ _ _ _ _
      | exact ih3 _ _ _ _ _ _
      | exact ih4 _ _ _ _ _ _ _ _ _
      | exact ih5 _ _ _ _ _ _ _ _ _ _ _ _ _ _ _ _ _ _ _
      | exact accounts_Charge.mono _ _ _ _
      | exact accounts_Check.mono _ _
      | exact accounts_Own.mono _ _ _
      | exact accounts_Total.mono _ _
      | exact accounts_Uncharge.mono _ _ _ _
      | exact estoverslaw19_awake.mono _
      | exact LeO.none _
      | refine LeO.ite ?_ ?_
      | refine LeO.bind ?_ (fun _ => ?_)
    · intro y0 y1 y2 y3 y4 y5
      unfold estoverslaw19_AccountsLimits.j3
      repeat' first
      | (with_reducible exact ih0 _ _ _)
      | (with_reducible exact ih1 _ _ _ _)
      | (with_reducible exact ih2 _ _ _ _ _ _)
      | (with_reducible exact ih3 _ _ _ _ _ _)
      | (with_reducible exact ih4 _ _ _ _ _ _ _ _ _)
      | (with_reducible exact ih5 _ _ _ _ _ _ _ _ _ _ _ _ _ _ _ _ _ _ _)
      | (with_reducible exact accounts_Charge.mono _ _ _ _)
      | (with_reducible exact accounts_Check.mono _ _)
      | (with_reducible exact accounts_Own.mono _ _ _)
      | (with_reducible exact accounts_Total.mono _ _)
      | (with_reducible exact accounts_Uncharge.mono _ _ _ _)
      | (with_reducible exact estoverslaw19_awake.mono _)
      | (with_reducible exact LeO.refl _)
      | (with_reducible exact LeO.none _)
      | (with_reducible refine LeO.ite ?_ ?_)
      | (with_reducible refine LeO.bind ?_ (fun _ => ?_))
      | exact ih0 _ _ _
      | exact ih1 _ _ _ _
      | exact ih2 _ _ _ _ _ _
      | exact ih3 _ _ _ _ _ _
      | exact ih4 _ _ _ _ _ _ _ _ _
      | exact ih5 _ _ _ _ _ _ _ _ _ _ _ _ _ _ _ _ _ _ _
      | exact accounts_Charge.mono _ _ _ _
      | exact accounts_Check.mono _ _
      | exact accounts_Own.mono _ _ _
      | exact accounts_Total.mono _ _
      | exact accounts_Uncharge.mono _ _ _ _
      | exact estoverslaw19_awake.mono _
      | exact LeO.none _
      | refine LeO.ite ?_ ?_
      | refine LeO.bind ?_ (fun _ => ?_)
    · intro y0 y1 y2 y3 y4 y5 y6 y7 y8
      unfold estoverslaw19_AccountsLimits.l1
      repeat' first
      | (with_reducible exact ih0 _ _ _)
      | (with_reducible exact ih1 _ _ _ _)
      | (with_reducible exact ih2 _ _ _ _ _ _)
      | (with_reducible exact ih3 _ _ _ _ _ _)
      | (with_reducible exact ih4 _ _ _ _ _ _ _ _ _)
      | (with_reducible exact ih5 _ _ _ _ _ _ _ _ _ _ _ _ _ _ _ _ _ _ _)
      | (with_reducible exact accounts_Charge.mono _ _ _ _)
      | (with_reducible exact accounts_Check.mono _ _)
      | (with_reducible exact accounts_Own.mono _ _ _)
      | (with_reducible exact accounts_Total.mono _ _)
      | (with_reducible exact accounts_Uncharge.mono _ _ _ _)
      | (with_reducible exact estoverslaw19_awake.mono _)
      | (with_reducible exact LeO.refl _)
      | (with_reducible exact LeO.none _)
      | (with_reducible refine LeO.ite ?_ ?_)
      | (with_reducible refine LeO.bind ?_ (fun _ => ?_))
      | exact ih0 _ _ _
      | exact ih1 _ _ _ _
      | exact ih2 _ _ _ _ _ _
      | exact ih3 _ _ _ _ _ _
      | exact ih4 _ _ _ _ _ _ _ _ _
      | exact ih5 _ _ _ _ _ _ _ _ _ _ _ _ _ _ _ _ _ _ _
      | exact accounts_Charge.mono _ _ _ _
      | exact accounts_Check.mono _ _
      | exact accounts_Own.mono _ _ _
      | exact accounts_Total.mono _ _
      | exact accounts_Uncharge.mono _ _ _ _
      | exact estoverslaw19_awake.mono _
      | exact LeO.none _
      | refine LeO.ite ?_ ?_
      | refine LeO.bind ?_ (fun _ => ?_)
    · intro y0 y1 y2 y3 y4 y5 y6 y7 y8 y9 y10 y11 y12 y13 y14 y15 y16 y17 y18
      unfold estoverslaw19_AccountsLimits.l2
      repeat' first
      | (with_reducible exact ih0 _ _ _)
      | (with_reducible exact ih1 _ _ _ _)
      | (with_reducible exact ih2 _ _ _ _ _ _)
      | (with_reducible exact ih3 _ _ _ _ _ _)
      | (with_reducible exact ih4 _ _ _ _ _ _ _ _ _)
      | (with_reducible exact ih5 _ _ _ _ _ _ _ _ _ _ _ _ _ _ _ _ _ _ _)
      | (with_reducible exact accounts_Charge.mono _ _ _ _)
      | (with_reducible exact accounts_Check.mono _ _)
      | (with_reducible exact accounts_Own.mono _ _ _)
      | (with_reducible exact accounts_Total.mono _ _)
      | (with_reducible exact accounts_Uncharge.mono _ _ _ _)
      | (with_reducible exact estoverslaw19_awake.mono _)
      | (with_reducible exact LeO.refl _)
      | (with_reducible exact LeO.none _)
      | (with_reducible refine LeO.ite ?_ ?_)
      | (with_reducible refine LeO.bind ?_ (fun _ => ?_))
      | exact ih0 _ _ _
      | exact ih1 _ _ _ _
      | exact ih2 _ _ _ _ _ _
      | exact ih3 _ _ _ _ _ _
      | exact ih4 _ _ _ _ _ _ _ _ _
      | exact ih5 _ _ _ _ _ _ _ _ _ _ _ _ _ _ _ _ _ _ _
      | exact accounts_Charge.mono _ _ _ _
      | exact accounts_Check.mono _ _
      | exact accounts_Own.mono _ _ _
      | exact accounts_Total.mono _ _
      | exact accounts_Uncharge.mono _ _ _ _
      | exact estoverslaw19_awake.mono _
      | exact LeO.none _
      | refine LeO.ite ?_ ?_
      | refine LeO.bind ?_ (fun _ => ?_)
theorem estoverslaw19_AccountsLimits.mono : ∀ a0 a1 k, LeO (estoverslaw19_AccountsLimits.f k a0 a1) (estoverslaw19_AccountsLimits.f (k + 1) a0 a1) := by
  intro a0 a1 k
  obtain ⟨ih0, ih1, ih2, ih3, ih4, ih5⟩ := estoverslaw19_AccountsLimits.mono_l k
  unfold estoverslaw19_AccountsLimits.f
  repeat' first
      | (with_reducible exact ih0 _ _ _)
      | (with_reducible exact ih1 _ _ _ _)
      | (with_reducible exact ih2 _ _ _ _ _ _)
      | (with_reducible exact ih3 _ _ _ _ _ _)
      | (with_reducible exact ih4 _ _ _ _ _ _ _ _ _)
      | (with_reducible exact ih5 _ _ _ _ _ _ _ _ _ _ _ _ _ _ _ _ _ _ _)
      | (with_reducible exact accounts_Charge.mono _ _ _ _)
      | (with_reducible exact accounts_Check.mono _ _)
      | (with_reducible exact accounts_Own.mono _ _ _)
      | (with_reducible exact accounts_Total.mono _ _)
      | (with_reducible exact accounts_Uncharge.mono _ _ _ _)
      | (with_reducible exact estoverslaw19_awake.mono _)
      | (with_reducible exact LeO.refl _)
      | (with_reducible exact LeO.none _)
      | (with_reducible refine LeO.ite ?_ ?_)
      | (with_reducible refine LeO.bind ?_ (fun _ => ?_))
      | exact ih0 _ _ _
      | exact ih1 _ _ _ _
      | exact ih2 _ _ _ _ _ _
      | exact ih3 _ _ _ _ _ _
      | exact ih4 _ _ _ _ _ _ _ _ _
      | exact ih5 _ _ _ _ _ _ _ _ _ _ _ _ _ _ _ _ _ _ _
      | exact accounts_Charge.mono _ _ _ _
      | exact accounts_Check.mono _ _
      | exact accounts_Own.mono _ _ _
      | exact accounts_Total.mono _ _
      | exact accounts_Uncharge.mono _ _ _ _
      | exact estoverslaw19_awake.mono _
      | exact LeO.none _
      | refine LeO.ite ?_ ?_
      | refine LeO.bind ?_ (fun _ => ?_)
def estoverslaw19_AccountsLimits.T23 : Bool × List (List Nat × List Nat) := (true, [([], []), ([0], [0]), ([], []), ([2], [2]), ([1, 3], [1, 3]), ([4], [4]), ([5], [5]), ([6, 5], [5, 6]), ([5, 7], [5, 7]), ([8, 5], [8]), ([9], [9]), ([9], [9]), ([9], [9]), ([11, 12, 9, 9], [9, 11, 12]), ([10, 13, 9], [9, 10, 13]), ([9, 14], [9, 14]), ([15, 13], [15]), ([16], [16]), ([17, 16], [16, 17]), ([16], [16]), ([16], [16]), ([19, 20, 16], [16, 19, 20]), ([21, 16], [16, 21]), ([22, 16], [16, 22]), ([18, 23, 16], [16, 18, 23]), ([16, 24], [16, 24]), ([25, 16], [25]), ([26], [26]), ([27, 26], [26, 27]), ([26], [26]), ([26], [26]), ([29, 30, 26], [26, 29, 30]), ([31, 26], [26, 31]), ([32, 26], [26, 32]), ([28, 33, 26], [26, 28, 33]), ([26, 34], [26, 34]), ([35, 26], [35]), ([36], [36]), ([37, 36], [36, 37]), ([36], [36]), ([36], [36]), ([39, 40, 36], [36, 39, 40]), ([41, 36], [36, 41]), ([42, 36], [36, 42]), ([38, 43, 36], [36, 38, 43]), ([36, 44], [36, 44]), ([45, 36], [45]), ([46], [46]), ([47, 46], [46, 47]), ([46], [46]), ([46], [46]), ([49, 50, 46], [46, 49, 50]), ([51, 46], [46, 51]), ([52, 46], [46, 52]), ([48, 53, 46], [46, 48, 53]), ([46, 54], [46, 54])])
def estoverslaw19_AccountsLimits.B23 : List Nat := [0, 1, 0, 4, 15, 31, 63, 127, 255, 511, 1023, 1023, 1023, 7167, 16383, 32767, 65535, 131071, 262143, 131071, 131071, 1703935, 3801087, 7995391, 16777215, 33554431, 67108863, 134217727, 268435455, 134217727, 134217727, 1744830463, 3892314111, 8187281407, 17179869183, 34359738367, 68719476735, 137438953471, 274877906943, 137438953471, 137438953471, 1786706395135, 3985729650687, 8383776161791, 17592186044415, 35184372088831, 70368744177663, 140737488355327, 281474976710655, 140737488355327, 140737488355327, 1829587348619263, 4081387162304511, 8584986789675007, 18014398509481983, 36028797018963967]
theorem estoverslaw19_AccountsLimits.tab23 : rtab .any (opsOf Try.f12 23) = estoverslaw19_AccountsLimits.T23 := by kernel_rfl
theorem estoverslaw19_AccountsLimits.bits23 : waitsOk estoverslaw19_AccountsLimits.T23.2 estoverslaw19_AccountsLimits.B23 = true := by kernel_rfl
set_option maxHeartbeats 8000000 in
set_option maxRecDepth 100000 in
theorem estoverslaw19_AccountsLimits.calls (k : Nat) (P0_ : Nat → Prop) (A0 : Option Addr) (c0 : Nat) (l0 : List (S43)) (A1 : Option Addr) (c1 : Nat) (l1 : List (S52)) (r : Bool) (w : World) (hs0 : Kd.V k43 43 w w.heap.size (fun k_ => P0_ k_) (.slice A0 l0.length c0) l0) (hr1 : Kd.C k52 w A1 l1.length l1) (hc1 : l1.length ≤ c1) (h : estoverslaw19_AccountsLimits.f k l0 l1 = some r) :
    Calls Try.prog 12 #[.slice A0 l0.length c0, .slice A1 l1.length c1] w fun e w' => e = .returned (.bool r) ∧ Below w.heap.size w w' := by
  have hu52 := Try.underlying52
  have hu43 := Try.underlying43
  have HO0 := Aside0.mk (show Kd.V k43 43 w w.heap.size (fun k_ => (P0_ k_ ∨ w.heap.size ≤ k_)) (.slice A0 l0.length c0) l0 from Kd.V_mono hs0 (fun k_ hk => .inl hk))
  have HR1 := Aside0.mk hr1
  have HC1 := Aside0.mk hc1
  clear hr1 hc1
  have HB := Aside0.mk (Below.refl w.heap.size w)
  have H : ((estoverslaw19_awake.f k).bind fun t234 => (if t234 = true then ((estoverslaw19_Few.f l0).bind fun t235 => (if t235 = true then (if (l1.length : Int) > 40 then (estoverslaw19_AccountsLimits.j0 k l0 l1 true) else ((accounts_Check.f k l0).bind fun t236 => (estoverslaw19_AccountsLimits.j0 k l0 l1 (t236 != 0)))) else (estoverslaw19_AccountsLimits.j0 k l0 l1 true))) else (estoverslaw19_AccountsLimits.j0 k l0 l1 true))) = some r := h
  clear h
  have HC3 := Aside0.mk H
  clear H
  go_enter Try.func12, Try.ntmps12
  go_upto_region 1 with (fail)
  go_cut [32] (fun v32 wc => ∃ (kq : Nat) (x32_2 : Bool), v32 = .bool x32_2 ∧ Aside0 (estoverslaw19_AccountsLimits.j0 kq l0 l1 x32_2 = some r) ∧ Aside0 (kq ≤ k) ∧ Aside0 (Kd.V k43 43 wc w.heap.size (fun k_ => (P0_ k_ ∨ w.heap.size ≤ k_)) (.slice A0 l0.length c0) l0) ∧ Aside0 (Below w.heap.size w wc))
  case first =>
    have H := HC3.out
    clear HC3
    replace H := Option.bind_eq_some_iff.mp H
    obtain ⟨t234, A40, H⟩ := H
    replace H : (if t234 = true then ((estoverslaw19_Few.f l0).bind fun t235 => (if t235 = true then (if (l1.length : Int) > 40 then (estoverslaw19_AccountsLimits.j0 k l0 l1 true) else ((accounts_Check.f k l0).bind fun t236 => (estoverslaw19_AccountsLimits.j0 k l0 l1 (t236 != 0)))) else (estoverslaw19_AccountsLimits.j0 k l0 l1 true))) else (estoverslaw19_AccountsLimits.j0 k l0 l1 true)) = some r := H
    have A4 := Aside0.mk A40
    clear A40
    by_cases c5 : t234 = true
    · subst c5
      have H1 : ((estoverslaw19_Few.f l0).bind fun t235 => (if t235 = true then (if (l1.length : Int) > 40 then (estoverslaw19_AccountsLimits.j0 k l0 l1 true) else ((accounts_Check.f k l0).bind fun t236 => (estoverslaw19_AccountsLimits.j0 k l0 l1 (t236 != 0)))) else (estoverslaw19_AccountsLimits.j0 k l0 l1 true))) = some r := by rw [if_pos rfl] at H; exact H
      clear H
      have H := H1
      clear H1
      replace H := Option.bind_eq_some_iff.mp H
      obtain ⟨t235, A60, H⟩ := H
      replace H : (if t235 = true then (if (l1.length : Int) > 40 then (estoverslaw19_AccountsLimits.j0 k l0 l1 true) else ((accounts_Check.f k l0).bind fun t236 => (estoverslaw19_AccountsLimits.j0 k l0 l1 (t236 != 0)))) else (estoverslaw19_AccountsLimits.j0 k l0 l1 true)) = some r := H
      have A6 := Aside0.mk A60
      clear A60
      by_cases c7 : t235 = true
      · subst c7
        have H1 : (if (l1.length : Int) > 40 then (estoverslaw19_AccountsLimits.j0 k l0 l1 true) else ((accounts_Check.f k l0).bind fun t236 => (estoverslaw19_AccountsLimits.j0 k l0 l1 (t236 != 0)))) = some r := by rw [if_pos rfl] at H; exact H
        clear H
        have H := H1
        clear H1
        by_cases c8 : (l1.length : Int) > 40
        · rw [if_pos c8] at H
          have c8b0 : decide (40 < (l1.length : Int)) = true := decide_eq_true c8
          have c8b1 : decide (40 < l1.length) = true := decide_eq_true (by omega)
          clear c8
          (first | rw [c8b0] | (simp only [i64_w, i32_w]; rw [c8b0]) | skip)
          have H' := Aside0.mk H
          clear H
          go_wp2_with (first | ((with_reducible refine gate_callee (f := 26) rfl ?_); refine goesL_ (some 16) rfl rfl Try.func26 (by kernel_rfl) rfl #[] rfl (by (try simp only [List.map_toArray, List.map_cons, List.map_nil]); first | done | rfl | (simp only [List.length_drop, List.length_take]; rfl)) ?_; (with_reducible refine (estoverslaw19_awake.calls k  true _ A4.out).mono ?_); rintro e w9 ⟨rfl, hb⟩; refine ⟨_, rfl, ?_⟩; have n0_ := Aside0.mk (Kd.V_below (by (with_reducible repeat (first | apply Kd.V_alloc | apply Kd.V_drewN | apply Kd.V_drew)); exact HO0.out) hb); have n1_ := Aside0.mk (below_step (by repeat (first | (with_reducible first | exact HB.out | apply below_alloc | apply pw_below_drewN | apply below_drew1) | exact HB.out)) hb); clear HO0; clear HB; have HO0 := n0_; have HB := n1_; clear n0_ n1_; (try clear hb); (try clear hb2); (try clear hk); (try clear hi)) | (go_at_call 27; (with_reducible refine (estoverslaw19_Few.calls _ _ l0 true _ ?side1 ?side2 A6.out).mono ?_); (case side1 => repeat (first | exact (Kd.V_reads' HO0.out).2.2 | (with_reducible refine Kd.C_alloc ?_ _) | (with_reducible refine Kd.C_drewN ?_ _) | (with_reducible refine Kd.C_drew ?_))); (case side2 => exact (Kd.V_reads' HO0.out).2.1); rintro e w' ⟨rfl, ⟨nd, rfl⟩⟩))
          go_meet
          case rel => exact ⟨_, (true), (by first | rfl | (simp; done) | (simp [*]; done)), H', ⟨by first | omega | exact Nat.le_refl _⟩, ⟨by (with_reducible repeat (first | apply Kd.V_alloc | apply Kd.V_drewN | apply Kd.V_drew)); exact HO0.out⟩, ⟨by repeat (first | (with_reducible first | exact HB.out | apply below_alloc | apply pw_below_drewN | apply below_drew1) | exact HB.out)⟩⟩
        · rw [if_neg c8] at H
          have c8b0 : decide (40 < (l1.length : Int)) = false := decide_eq_false c8
          have c8b1 : decide (40 < l1.length) = false := decide_eq_false (by omega)
          clear c8
          (first | rw [c8b0] | (simp only [i64_w, i32_w]; rw [c8b0]) | skip)
          replace H := Option.bind_eq_some_iff.mp H
          obtain ⟨t236, A100, H⟩ := H
          replace H : (estoverslaw19_AccountsLimits.j0 k l0 l1 (t236 != 0)) = some r := H
          have A10 := Aside0.mk A100
          clear A100
          have H' := Aside0.mk H
          clear H
          go_wp2_with (first | ((with_reducible refine gate_callee (f := 26) rfl ?_); refine goesL_ (some 16) rfl rfl Try.func26 (by kernel_rfl) rfl #[] rfl (by (try simp only [List.map_toArray, List.map_cons, List.map_nil]); first | done | rfl | (simp only [List.length_drop, List.length_take]; rfl)) ?_; (with_reducible refine (estoverslaw19_awake.calls k  true _ A4.out).mono ?_); rintro e w11 ⟨rfl, hb⟩; refine ⟨_, rfl, ?_⟩; have n0_ := Aside0.mk (Kd.V_below (by (with_reducible repeat (first | apply Kd.V_alloc | apply Kd.V_drewN | apply Kd.V_drew)); exact HO0.out) hb); have n1_ := Aside0.mk (below_step (by repeat (first | (with_reducible first | exact HB.out | apply below_alloc | apply pw_below_drewN | apply below_drew1) | exact HB.out)) hb); clear HO0; clear HB; have HO0 := n0_; have HB := n1_; clear n0_ n1_; (try clear hb); (try clear hb2); (try clear hk); (try clear hi)) | (go_at_call 27; (with_reducible refine (estoverslaw19_Few.calls _ _ l0 true _ ?side1 ?side2 A6.out).mono ?_); (case side1 => repeat (first | exact (Kd.V_reads' HO0.out).2.2 | (with_reducible refine Kd.C_alloc ?_ _) | (with_reducible refine Kd.C_drewN ?_ _) | (with_reducible refine Kd.C_drew ?_))); (case side2 => exact (Kd.V_reads' HO0.out).2.1); rintro e w' ⟨rfl, ⟨nd, rfl⟩⟩) | (go_at_call 28; (with_reducible refine (accounts_Check.calls k _ _ l0 t236 _ ?side1 ?side2 A10.out).mono ?_); (case side1 => repeat (first | exact (Kd.V_reads' HO0.out).2.2 | (with_reducible refine Kd.C_alloc ?_ _) | (with_reducible refine Kd.C_drewN ?_ _) | (with_reducible refine Kd.C_drew ?_))); (case side2 => exact (Kd.V_reads' HO0.out).2.1); rintro e w12 ⟨rfl, hb⟩; have n0_ := Aside0.mk (Kd.V_below (by (with_reducible repeat (first | apply Kd.V_alloc | apply Kd.V_drewN | apply Kd.V_drew)); exact HO0.out) hb); have n1_ := Aside0.mk (below_step (by repeat (first | (with_reducible first | exact HB.out | apply below_alloc | apply pw_below_drewN | apply below_drew1) | exact HB.out)) hb); clear HO0; clear HB; have HO0 := n0_; have HB := n1_; clear n0_ n1_; (try clear hb); (try clear hb2); (try clear hk); (try clear hi)))
          go_meet
          case rel => exact ⟨_, ((t236 != 0)), (by first | rfl | (simp; done) | (simp [*]; done)), H', ⟨by first | omega | exact Nat.le_refl _⟩, ⟨by (with_reducible repeat (first | apply Kd.V_alloc | apply Kd.V_drewN | apply Kd.V_drew)); exact HO0.out⟩, ⟨by repeat (first | (with_reducible first | exact HB.out | apply below_alloc | apply pw_below_drewN | apply below_drew1) | exact HB.out)⟩⟩
      · replace c7 := Bool.eq_false_iff.mpr c7
        subst c7
        have H1 : (estoverslaw19_AccountsLimits.j0 k l0 l1 true) = some r := by rw [if_neg (show ¬ (false = true) by decide)] at H; exact H
        clear H
        have H := H1
        clear H1
        have H' := Aside0.mk H
        clear H
        go_wp2_with (first | ((with_reducible refine gate_callee (f := 26) rfl ?_); refine goesL_ (some 16) rfl rfl Try.func26 (by kernel_rfl) rfl #[] rfl (by (try simp only [List.map_toArray, List.map_cons, List.map_nil]); first | done | rfl | (simp only [List.length_drop, List.length_take]; rfl)) ?_; (with_reducible refine (estoverslaw19_awake.calls k  true _ A4.out).mono ?_); rintro e w13 ⟨rfl, hb⟩; refine ⟨_, rfl, ?_⟩; have n0_ := Aside0.mk (Kd.V_below (by (with_reducible repeat (first | apply Kd.V_alloc | apply Kd.V_drewN | apply Kd.V_drew)); exact HO0.out) hb); have n1_ := Aside0.mk (below_step (by repeat (first | (with_reducible first | exact HB.out | apply below_alloc | apply pw_below_drewN | apply below_drew1) | exact HB.out)) hb); clear HO0; clear HB; have HO0 := n0_; have HB := n1_; clear n0_ n1_; (try clear hb); (try clear hb2); (try clear hk); (try clear hi)) | (go_at_call 27; (with_reducible refine (estoverslaw19_Few.calls _ _ l0 false _ ?side1 ?side2 A6.out).mono ?_); (case side1 => repeat (first | exact (Kd.V_reads' HO0.out).2.2 | (with_reducible refine Kd.C_alloc ?_ _) | (with_reducible refine Kd.C_drewN ?_ _) | (with_reducible refine Kd.C_drew ?_))); (case side2 => exact (Kd.V_reads' HO0.out).2.1); rintro e w' ⟨rfl, ⟨nd, rfl⟩⟩))
        go_meet
        case rel => exact ⟨_, (true), (by first | rfl | (simp; done) | (simp [*]; done)), H', ⟨by first | omega | exact Nat.le_refl _⟩, ⟨by (with_reducible repeat (first | apply Kd.V_alloc | apply Kd.V_drewN | apply Kd.V_drew)); exact HO0.out⟩, ⟨by repeat (first | (with_reducible first | exact HB.out | apply below_alloc | apply pw_below_drewN | apply below_drew1) | exact HB.out)⟩⟩
    · replace c5 := Bool.eq_false_iff.mpr c5
      subst c5
      have H1 : (estoverslaw19_AccountsLimits.j0 k l0 l1 true) = some r := by rw [if_neg (show ¬ (false = true) by decide)] at H; exact H
      clear H
      have H := H1
      clear H1
      have H' := Aside0.mk H
      clear H
      go_wp2_with (first | ((with_reducible refine gate_callee (f := 26) rfl ?_); refine goesL_ (some 16) rfl rfl Try.func26 (by kernel_rfl) rfl #[] rfl (by (try simp only [List.map_toArray, List.map_cons, List.map_nil]); first | done | rfl | (simp only [List.length_drop, List.length_take]; rfl)) ?_; (with_reducible refine (estoverslaw19_awake.calls k  false _ A4.out).mono ?_); rintro e w14 ⟨rfl, hb⟩; refine ⟨_, rfl, ?_⟩; have n0_ := Aside0.mk (Kd.V_below (by (with_reducible repeat (first | apply Kd.V_alloc | apply Kd.V_drewN | apply Kd.V_drew)); exact HO0.out) hb); have n1_ := Aside0.mk (below_step (by repeat (first | (with_reducible first | exact HB.out | apply below_alloc | apply pw_below_drewN | apply below_drew1) | exact HB.out)) hb); clear HO0; clear HB; have HO0 := n0_; have HB := n1_; clear n0_ n1_; (try clear hb); (try clear hb2); (try clear hk); (try clear hi)))
      go_meet
      case rel => exact ⟨_, (true), (by first | rfl | (simp; done) | (simp [*]; done)), H', ⟨by first | omega | exact Nat.le_refl _⟩, ⟨by (with_reducible repeat (first | apply Kd.V_alloc | apply Kd.V_drewN | apply Kd.V_drew)); exact HO0.out⟩, ⟨by repeat (first | (with_reducible first | exact HB.out | apply below_alloc | apply pw_below_drewN | apply below_drew1) | exact HB.out)⟩⟩
  case rest =>
    clear HC3
    try clear c1
    try clear c2
    try clear p2
    try clear c5
    try clear c7
    try clear c8
    try clear c8b0
    try clear c8b1
    try clear c12
    obtain ⟨kq, x32_2, rfl, HA, HJ2, HO_0, HB⟩ := hcut
    cases kq with
    | zero => exact absurd HA.out (by simp [estoverslaw19_AccountsLimits.j0])
    | succ kj2 =>
      have H := HA.out
      clear HA
      simp only [estoverslaw19_AccountsLimits.j0] at H
      by_cases c15 : x32_2 = true
      · subst c15
        have H1 : ((estoverslaw19_awake.f kj2).bind fun t237 => (some t237)) = some r := by rw [if_pos rfl] at H; exact H
        clear H
        have H := H1
        clear H1
        replace H := Option.bind_eq_some_iff.mp H
        obtain ⟨t237, A160, H⟩ := H
        replace H : (some t237) = some r := H
        have A16 := Aside0.mk A160
        clear A160
        obtain rfl := Option.some.inj H
        go_wp2_with (first | ((with_reducible refine gate_callee (f := 26) rfl ?_); refine goesL_ (some 33) rfl rfl Try.func26 (by kernel_rfl) rfl #[] rfl (by (try simp only [List.map_toArray, List.map_cons, List.map_nil]); first | done | rfl | (simp only [List.length_drop, List.length_take]; rfl)) ?_; (with_reducible refine (estoverslaw19_awake.calls kj2  t237 _ A16.out).mono ?_); rintro e w17 ⟨rfl, hb⟩; refine ⟨_, rfl, ?_⟩; have n0_ := Aside0.mk (Kd.V_below (by (with_reducible repeat (first | apply Kd.V_alloc | apply Kd.V_drewN | apply Kd.V_drew)); exact HO_0.out) hb); have n1_ := Aside0.mk (below_step (by repeat (first | (with_reducible first | exact HB.out | apply below_alloc | apply pw_below_drewN | apply below_drew1) | exact HB.out)) hb); clear HO_0; clear HB; have HO_0 := n0_; have HB := n1_; clear n0_ n1_; (try clear hb); (try clear hb2); (try clear hk); (try clear hi)))
        go_ret
        exact ⟨by first | rfl | (simp [errW_none, errW_some] <;> rfl) | (simp [*, errW_none, errW_some] <;> rfl), by repeat (first | (with_reducible first | exact HB.out | apply below_alloc | apply pw_below_drewN | apply below_drew1) | exact HB.out)⟩
      · replace c15 := Bool.eq_false_iff.mpr c15
        subst c15
        have H1 : (estoverslaw19_AccountsLimits.l0 kj2 l0 l1 (l1.length : Int) 0) = some r := by rw [if_neg (show ¬ (false = true) by decide)] at H; exact H
        clear H
        have H := H1
        clear H1
        have H' := Aside0.mk H
        clear H
        go_wp2
        go_loopg [0, 36] kj2 (fun kq v0 v36 w' => ∃ (x0_2 : List (S43)) (x36_2 : Int), v36 = .int .i64 x36_2 ∧ Aside0 (estoverslaw19_AccountsLimits.l0 kq x0_2 l1 (l1.length : Int) x36_2 = some r) ∧ Aside0 (kq ≤ kj2) ∧ Aside0 (Kd.V k43 43 w' w.heap.size (fun k_ => (P0_ k_ ∨ w.heap.size ≤ k_)) v0 x0_2) ∧ Aside0 (Below w.heap.size w w'))
        case atStart => exact ⟨(l0), (0), (by first | rfl | (simp; done) | (simp [*]; done)), H', ⟨Nat.le_refl _⟩, ⟨by (with_reducible repeat (first | apply Kd.V_alloc | apply Kd.V_drewN | apply Kd.V_drew)); exact HO_0.out⟩, ⟨by repeat (first | (with_reducible first | exact HB.out | apply below_alloc | apply pw_below_drewN | apply below_drew1) | exact HB.out)⟩⟩
        case round =>
          clear H'
          try clear c1
          try clear c2
          try clear p2
          try clear c5
          try clear c7
          try clear c8
          try clear c8b0
          try clear c8b1
          try clear c12
          try clear c15
          try clear p2
          obtain ⟨x0_2, x36_2, rfl, HA, HK2, HO_0, HB⟩ := hrel
          cases gk with
          | zero => exact absurd HA.out (by simp [estoverslaw19_AccountsLimits.l0])
          | succ k2 =>
            have H := HA.out
            clear HA
            simp only [estoverslaw19_AccountsLimits.l0] at H
            by_cases c18 : x36_2 < (l1.length : Int)
            · rw [if_pos c18] at H
              have c18b0 : decide (x36_2 < (l1.length : Int)) = true := decide_eq_true c18
              clear c18
              by_cases c19 : 0 ≤ x36_2
              · rw [if_pos c19] at H
                have c19b0 : decide (0 ≤ x36_2) = true := decide_eq_true c19
                clear c19
                by_cases c20 : x36_2 < (l1.length : Int)
                · rw [if_pos c20] at H
                  have c20b0 : decide (x36_2 < (l1.length : Int)) = true := decide_eq_true c20
                  clear c20
                  replace H := Option.bind_eq_some_iff.mp H
                  obtain ⟨⟨t240, t241, t242⟩, A210, H⟩ := H
                  replace H : (if (rd_T52 l1 x36_2).f0 = true then ((accounts_Uncharge.f k2 x0_2 ((rd_T52 l1 x36_2).f1) ((rd_T52 l1 x36_2).f2)).bind fun bt245 => (estoverslaw19_AccountsLimits.j2 k2 x0_2 bt245.1 bt245.2 l1 (l1.length : Int) x36_2)) else (estoverslaw19_AccountsLimits.j2 k2 x0_2 t240 t242 l1 (l1.length : Int) x36_2)) = some r := H
                  have A21 := Aside0.mk A210
                  clear A210
                  have HC22 := Aside0.mk H
                  clear H
                  have p238 : 0 ≤ (x36_2 : Int) := of_decide_eq_true (by first | (with_reducible assumption) | assumption)
                  have q238 : x36_2 < (l1.length : Int) := of_decide_eq_true (by first | (with_reducible assumption) | assumption)
                  obtain ⟨ad238, e238, hx238_0, hx238_1, hx238_2⟩ := at_T52 HR1.out x36_2 p238 q238
                  cases e238
                  replace hx238_0 := (HB.out.cell (World.block_lt_of_cell? w _ hx238_0)).trans hx238_0
                  replace hx238_1 := (HB.out.cell (World.block_lt_of_cell? w _ hx238_1)).trans hx238_1
                  replace hx238_2 := (HB.out.cell (World.block_lt_of_cell? w _ hx238_2)).trans hx238_2
                  replace p238 := eq_true p238
                  replace q238 := eq_true q238
                  go_upto_if 51 with (first | ((with_reducible refine gate_dst (N := 6) rfl ?_); (try (refine gate_guard (by rfl) ?_; dsimp only)); refine box_event ?hg (N := 6) ?hd (cs := #[.bool false, .int .i64 0, .int .i64 0]) (t := 52) ?hr ?_; (case hd => rfl); (case hg => rfl); (case hr => first | (go_simp; done) | (go_simp; rfl)); intro gb239 hg w23 hbox hb; have n0_ := Aside0.mk (Kd.V_below (Kd.V_elderB (by (with_reducible repeat (first | apply Kd.V_alloc | apply Kd.V_drewN | apply Kd.V_drew)); exact HO_0.out) gb239 (Nat.le_of_eq hg.symm)) hb); have n1_ := Aside0.mk (below_step (by repeat (first | (with_reducible first | exact HB.out | apply below_alloc | apply pw_below_drewN | apply below_drew1) | exact HB.out)) hb); have n2_ := Aside0.mk (hbox); have n3_ := Aside0.mk ((by rw [hg]; exact (below_size (by repeat (first | (with_reducible first | exact HB.out | apply below_alloc | apply pw_below_drewN | apply below_drew1) | exact HB.out))) : w.heap.size ≤ gb239)); have n4_ := Aside0.mk ((by rw [hg]; exact (below_size (by repeat (first | (with_reducible first | exact HB.out | apply below_alloc | apply pw_below_drewN | apply below_drew1) | exact HB.out))) : w.heap.size ≤ gb239)); clear HO_0; clear HB; have HO_0 := n0_; have HB := n1_; have BK239 := n2_; have GW239 := n3_; have GE239 := n4_; clear n0_ n1_ n2_ n3_ n4_; clear hb hbox hg; have hcz24_0 : w23.cell? ⟨gb239, 0, none⟩ = some (.bool false) := (blk_cell BK239.out 0).trans rfl; have hcz24_1 : w23.cell? ⟨gb239, 1, none⟩ = some (.int .i64 0) := (blk_cell BK239.out 1).trans rfl; have hcz24_2 : w23.cell? ⟨gb239, 2, none⟩ = some (.int .i64 0) := (blk_cell BK239.out 2).trans rfl; have hfz24_0 := blk_frozen BK239.out 0; have hfz24_1 := blk_frozen BK239.out 1; have hfz24_2 := blk_frozen BK239.out 2; obtain ⟨Ao25, co25, eo25⟩ := Kd.V_slice HO_0.out; subst eo25) | ((with_reducible refine gate_callee (f := 39) rfl ?_); refine goesL_ (some 46) rfl rfl Try.func39 (by kernel_rfl) rfl #[.slice Ao25 x0_2.length co25, .int .i64 ((rd_T52 l1 x36_2).f1), .int .i64 ((rd_T52 l1 x36_2).f2)] rfl (by (try simp only [List.map_toArray, List.map_cons, List.map_nil]); first | done | rfl | (simp only [List.length_drop, List.length_take]; rfl)) ?_; (with_reducible refine (accounts_Charge.calls k2 _ _ x0_2 ((rd_T52 l1 x36_2).f1) ((rd_T52 l1 x36_2).f2) t240 t241 t242 _ ?side1 ?side2 A21.out).mono ?_); (case side1 => refine (Kd.V_reads' (e := 43) (base := w.heap.size) (ok := fun k_ => ((P0_ k_ ∨ w.heap.size ≤ k_) ∧ k_ ≠ gb239)) (n := x0_2.length) (c := co25) ?_).2.2; exact (by (with_reducible repeat (first | apply Kd.V_alloc | apply Kd.V_drewN | apply Kd.V_drew)); exact (Kd.V_mono (Kd.V_far (p := ⟨gb239, 2, none⟩) (Kd.V_far (p := ⟨gb239, 1, none⟩) (Kd.V_far (p := ⟨gb239, 0, none⟩) (Kd.V_mono HO_0.out (fun k_ hk => (⟨hk, hk.2⟩ : _ ∧ k_ ≠ gb239))) (fun _ hk => hk.2) (.bool ((rd_T52 l1 x36_2).f0))) (fun _ hk => hk.2) (.int .i64 ((rd_T52 l1 x36_2).f1))) (fun _ hk => hk.2) (.int .i64 ((rd_T52 l1 x36_2).f2))) (fun _ h_ => h_.1)))); (case side2 => exact (Kd.V_reads' HO_0.out).2.1); rintro e w26 ⟨v243, rfl, ho0, hb⟩; refine ⟨_, rfl, ?_⟩; have n0_ := Aside0.mk (Kd.V_elder' (by (with_reducible repeat (first | apply Kd.V_alloc | apply Kd.V_drewN | apply Kd.V_drew)); exact (Kd.V_mono (Kd.V_far (p := ⟨gb239, 2, none⟩) (Kd.V_far (p := ⟨gb239, 1, none⟩) (Kd.V_far (p := ⟨gb239, 0, none⟩) (Kd.V_mono HO_0.out (fun k_ hk => (⟨hk, hk.2⟩ : _ ∧ k_ ≠ gb239))) (fun _ hk => hk.2) (.bool ((rd_T52 l1 x36_2).f0))) (fun _ hk => hk.2) (.int .i64 ((rd_T52 l1 x36_2).f1))) (fun _ hk => hk.2) (.int .i64 ((rd_T52 l1 x36_2).f2))) (fun _ h_ => h_.1))) (Kd.R_base ho0) hb); have n1_ := Aside0.mk (Kd.R_lower (Kd.R_newM (M := fun k_ => (w.heap.size ≤ k_)) ho0 (below_size (by repeat (first | (with_reducible first | exact HB.out | apply below_alloc | apply pw_below_drewN | apply below_drew1 | refine below_set ?_ GE239.out) | exact HB.out))) (fun k_ h_ => h_)) (below_size (by repeat (first | (with_reducible first | exact HB.out | apply below_alloc | apply pw_below_drewN | apply below_drew1 | refine below_set ?_ GE239.out) | exact HB.out)))); have n2_ := Aside0.mk (blk_below (g := gb239) (o := .cells #[.bool ((rd_T52 l1 x36_2).f0), .int .i64 ((rd_T52 l1 x36_2).f1), .int .i64 ((rd_T52 l1 x36_2).f2)] 52 (0, 0)) (by (with_reducible repeat (first | refine blk_drewN ?_ _ | refine blk_drew ?_ | refine blk_alloc ?_ _)); refine blk_put (cs := #[.bool ((rd_T52 l1 x36_2).f0), .int .i64 ((rd_T52 l1 x36_2).f1), .int .i64 0]) ?_ 2 _ rfl; (with_reducible repeat (first | refine blk_drewN ?_ _ | refine blk_drew ?_ | refine blk_alloc ?_ _)); refine blk_put (cs := #[.bool ((rd_T52 l1 x36_2).f0), .int .i64 0, .int .i64 0]) ?_ 1 _ rfl; (with_reducible repeat (first | refine blk_drewN ?_ _ | refine blk_drew ?_ | refine blk_alloc ?_ _)); refine blk_put (cs := #[.bool false, .int .i64 0, .int .i64 0]) ?_ 0 _ rfl; (with_reducible repeat (first | refine blk_drewN ?_ _ | refine blk_drew ?_ | refine blk_alloc ?_ _)); exact BK239.out) hb); have n3_ := Aside0.mk (below_step (by repeat (first | (with_reducible first | exact HB.out | apply below_alloc | apply pw_below_drewN | apply below_drew1 | refine below_set ?_ GE239.out) | exact HB.out)) hb); clear HO_0; clear BK239; clear HB; have HO_0 := n0_; have HO244 := n1_; have BK239 := n2_; have HB := n3_; clear n0_ n1_ n2_ n3_; (try clear hb); (try clear hb2); (try clear hk); (try clear hi); (try clear ho0); have hcz27_0 : w26.cell? ⟨gb239, 0, none⟩ = some (.bool ((rd_T52 l1 x36_2).f0)) := (blk_cell BK239.out 0).trans rfl; have hcz27_1 : w26.cell? ⟨gb239, 1, none⟩ = some (.int .i64 ((rd_T52 l1 x36_2).f1)) := (blk_cell BK239.out 1).trans rfl; have hcz27_2 : w26.cell? ⟨gb239, 2, none⟩ = some (.int .i64 ((rd_T52 l1 x36_2).f2)) := (blk_cell BK239.out 2).trans rfl; have hfz27_0 := blk_frozen BK239.out 0; have hfz27_1 := blk_frozen BK239.out 1; have hfz27_2 := blk_frozen BK239.out 2))
                  (try simp only [Act.put, List.setIfInBounds_toArray, List.set_cons_zero, List.set_cons_succ])
                  go_cut [7, 9] (fun v7 v9 wc => ∃ (kq : Nat) (x7_21 : List (S43)) (x9_21 : Int), v9 = .int .i64 x9_21 ∧ Aside0 (estoverslaw19_AccountsLimits.j2 kq x0_2 x7_21 x9_21 l1 (l1.length : Int) x36_2 = some r) ∧ Aside0 (kq ≤ k2) ∧ Aside0 (Kd.V k43 43 wc w.heap.size (fun k_ => (P0_ k_ ∨ w.heap.size ≤ k_) ∧ some k_ ≠ (v7 : Value).ownBlock ∧ k_ ≠ gb239) (.slice Ao25 x0_2.length co25) x0_2) ∧ Aside0 (Kd.R k43 43 wc w.heap.size (fun k_ => (w.heap.size ≤ k_)) v7 x7_21) ∧ Aside0 (wc.heap[gb239]? = some (.cells #[.bool ((rd_T52 l1 x36_2).f0), .int .i64 ((rd_T52 l1 x36_2).f1), .int .i64 ((rd_T52 l1 x36_2).f2)] 52 (0, 0))) ∧ Aside0 (Below w.heap.size w wc))
                  case first =>
                    have H := HC22.out
                    clear HC22
                    obtain ⟨bq28, hbq28⟩ : ∃ b_ : Bool, b_ = ((rd_T52 l1 x36_2).f0) := ⟨_, rfl⟩
                    replace H : (if bq28 = true then ((accounts_Uncharge.f k2 x0_2 ((rd_T52 l1 x36_2).f1) ((rd_T52 l1 x36_2).f2)).bind fun bt245 => (estoverslaw19_AccountsLimits.j2 k2 x0_2 bt245.1 bt245.2 l1 (l1.length : Int) x36_2)) else (estoverslaw19_AccountsLimits.j2 k2 x0_2 t240 t242 l1 (l1.length : Int) x36_2)) = some r := by rw [← hbq28] at H; exact H
                    have Nbq28 := Aside0.mk hbq28
                    clear hbq28
                    (try rw [← Nbq28.out])
                    by_cases c29 : bq28 = true
                    · subst c29
                      have H1 : ((accounts_Uncharge.f k2 x0_2 ((rd_T52 l1 x36_2).f1) ((rd_T52 l1 x36_2).f2)).bind fun bt245 => (estoverslaw19_AccountsLimits.j2 k2 x0_2 bt245.1 bt245.2 l1 (l1.length : Int) x36_2)) = some r := by rw [if_pos rfl] at H; exact H
                      clear H
                      have H := H1
                      clear H1
                      (try rw [← Nbq28.out] at BK239)
                      replace H := Option.bind_eq_some_iff.mp H
                      obtain ⟨⟨t245, t246⟩, A300, H⟩ := H
                      replace H : (estoverslaw19_AccountsLimits.j2 k2 x0_2 t245 t246 l1 (l1.length : Int) x36_2) = some r := H
                      have A30 := Aside0.mk A300
                      clear A300
                      have H' := Aside0.mk H
                      clear H
                      have hcz31_0 : w26.cell? ⟨gb239, 0, none⟩ = some (.bool true) := (blk_cell BK239.out 0).trans rfl
                      have hcz31_1 : w26.cell? ⟨gb239, 1, none⟩ = some (.int .i64 ((rd_T52 l1 x36_2).f1)) := (blk_cell BK239.out 1).trans rfl
                      have hcz31_2 : w26.cell? ⟨gb239, 2, none⟩ = some (.int .i64 ((rd_T52 l1 x36_2).f2)) := (blk_cell BK239.out 2).trans rfl
                      have hfz31_0 := blk_frozen BK239.out 0
                      have hfz31_1 := blk_frozen BK239.out 1
                      have hfz31_2 := blk_frozen BK239.out 2
                      (try rw [← Nbq28.out])
                      (try rw [← Nbq28.out] at BK239)
                      go_wp2_with (first | ((with_reducible refine gate_callee (f := 41) rfl ?_); refine goesL_ (some 58) rfl rfl Try.func41 (by kernel_rfl) rfl #[.slice Ao25 x0_2.length co25, .int .i64 ((rd_T52 l1 x36_2).f1), .int .i64 ((rd_T52 l1 x36_2).f2)] rfl (by (try simp only [List.map_toArray, List.map_cons, List.map_nil]); first | done | rfl | (simp only [List.length_drop, List.length_take]; rfl)) ?_; (with_reducible refine (accounts_Uncharge.calls k2 _ _ x0_2 ((rd_T52 l1 x36_2).f1) ((rd_T52 l1 x36_2).f2) t245 t246 _ ?side1 ?side2 A30.out).mono ?_); (case side1 => repeat (first | exact (Kd.V_reads' HO_0.out).2.2 | (with_reducible refine Kd.C_alloc ?_ _) | (with_reducible refine Kd.C_drewN ?_ _) | (with_reducible refine Kd.C_drew ?_))); (case side2 => exact (Kd.V_reads' HO_0.out).2.1); rintro e w32 ⟨v247, rfl, ho0, hb⟩; refine ⟨_, rfl, ?_⟩; have n0_ := Aside0.mk (Kd.V_elder' (by (with_reducible repeat (first | apply Kd.V_alloc | apply Kd.V_drewN | apply Kd.V_drew)); exact HO_0.out) (Kd.R_base ho0) hb); have n1_ := Aside0.mk (Kd.R_elder' (by (with_reducible repeat (first | apply Kd.R_alloc | apply Kd.R_drewN | apply Kd.R_drew)); exact HO244.out) (Kd.R_base ho0) hb); have n2_ := Aside0.mk (Kd.R_lower (Kd.R_new' (Kd.R_newM (M := fun k_ => (w.heap.size ≤ k_)) ho0 (below_size (by repeat (first | (with_reducible first | exact HB.out | apply below_alloc | apply pw_below_drewN | apply below_drew1 | refine below_set ?_ GE239.out) | exact HB.out))) (fun k_ h_ => h_)) (Kd.R_lt (by (with_reducible repeat (first | apply Kd.R_alloc | apply Kd.R_drewN | apply Kd.R_drew)); exact HO244.out))) (below_size (by repeat (first | (with_reducible first | exact HB.out | apply below_alloc | apply pw_below_drewN | apply below_drew1 | refine below_set ?_ GE239.out) | exact HB.out)))); have n3_ := Aside0.mk (blk_below (g := gb239) (o := .cells #[.bool true, .int .i64 ((rd_T52 l1 x36_2).f1), .int .i64 ((rd_T52 l1 x36_2).f2)] 52 (0, 0)) (by (with_reducible repeat (first | refine blk_drewN ?_ _ | refine blk_drew ?_ | refine blk_alloc ?_ _)); exact BK239.out) hb); have n4_ := Aside0.mk (below_step (by repeat (first | (with_reducible first | exact HB.out | apply below_alloc | apply pw_below_drewN | apply below_drew1 | refine below_set ?_ GE239.out) | exact HB.out)) hb); clear HO_0; clear HO244; clear BK239; clear HB; have HO_0 := n0_; have HO244 := n1_; have HO248 := n2_; have BK239 := n3_; have HB := n4_; clear n0_ n1_ n2_ n3_ n4_; (try clear hb); (try clear hb2); (try clear hk); (try clear hi); (try clear ho0)))
                      go_meet
                      case rel => (try rw [← Nbq28.out]); exact ⟨_, (t245), (t246), (by first | rfl | (simp; done) | (simp [*]; done)), H', ⟨by have := HJ2.out; have := HK2.out; first | omega | exact Nat.le_refl _⟩, ⟨by (with_reducible repeat (first | apply Kd.V_alloc | apply Kd.V_drewN | apply Kd.V_drew)); exact Kd.V_mono HO_0.out (fun _ hk => ⟨hk.1.1.1, ⟨hk.2, hk.1.1.2⟩⟩)⟩, ⟨by (with_reducible repeat (first | apply Kd.R_alloc | apply Kd.R_drewN | apply Kd.R_drew)); exact Kd.R_mono HO248.out (fun _ hk => hk.1.1)⟩, ⟨by (with_reducible repeat (first | refine blk_drewN ?_ _ | refine blk_drew ?_ | refine blk_alloc ?_ _)); exact BK239.out⟩, ⟨by repeat (first | (with_reducible first | exact HB.out | apply below_alloc | apply pw_below_drewN | apply below_drew1 | refine below_set ?_ GE239.out) | exact HB.out)⟩⟩
                    · replace c29 := Bool.eq_false_iff.mpr c29
                      subst c29
                      have H1 : (estoverslaw19_AccountsLimits.j2 k2 x0_2 t240 t242 l1 (l1.length : Int) x36_2) = some r := by rw [if_neg (show ¬ (false = true) by decide)] at H; exact H
                      clear H
                      have H := H1
                      clear H1
                      (try rw [← Nbq28.out] at BK239)
                      have H' := Aside0.mk H
                      clear H
                      (try rw [← Nbq28.out])
                      (try rw [← Nbq28.out] at BK239)
                      go_wp2
                      go_meet
                      case rel => (try rw [← Nbq28.out]); exact ⟨_, (t240), (t242), (by first | rfl | (simp; done) | (simp [*]; done)), H', ⟨by have := HJ2.out; have := HK2.out; first | omega | exact Nat.le_refl _⟩, ⟨by (with_reducible repeat (first | apply Kd.V_alloc | apply Kd.V_drewN | apply Kd.V_drew)); exact Kd.V_mono HO_0.out (fun _ hk => ⟨hk.1.1, ⟨hk.2, hk.1.2⟩⟩)⟩, ⟨by (with_reducible repeat (first | apply Kd.R_alloc | apply Kd.R_drewN | apply Kd.R_drew)); exact Kd.R_mono HO244.out (fun _ hk => hk.1)⟩, ⟨by (with_reducible repeat (first | refine blk_drewN ?_ _ | refine blk_drew ?_ | refine blk_alloc ?_ _)); exact BK239.out⟩, ⟨by repeat (first | (with_reducible first | exact HB.out | apply below_alloc | apply pw_below_drewN | apply below_drew1 | refine below_set ?_ GE239.out) | exact HB.out)⟩⟩
                  case rest =>
                    clear HC22
                    try clear c1
                    try clear c2
                    try clear p2
                    try clear q2
                    try clear hx2
                    try clear c3
                    try clear c4
                    try clear c5
                    try clear c7
                    try clear c8
                    try clear c8b0
                    try clear c8b1
                    try clear c12
                    try clear c15
                    try clear c18
                    try clear c18b0
                    try clear c19
                    try clear c19b0
                    try clear c20
                    try clear c20b0
                    try clear p23
                    try clear q23
                    try clear hx23
                    try clear c26
                    try clear q28
                    try clear c29
                    try clear hcz24_0
                    try clear hcz24_1
                    try clear hcz24_2
                    try clear hcz27_0
                    try clear hcz27_1
                    try clear hcz27_2
                    try clear hcz31_0
                    try clear hcz31_1
                    try clear hcz31_2
                    try clear hfz24_0
                    try clear hfz24_1
                    try clear hfz24_2
                    try clear hfz27_0
                    try clear hfz27_1
                    try clear hfz27_2
                    try clear hfz31_0
                    try clear hfz31_1
                    try clear hfz31_2
                    try clear hx238_0
                    try clear hx238_1
                    try clear hx238_2
                    try clear p2
                    try clear p238
                    try clear q238
                    obtain ⟨kq, x7_21, x9_21, rfl, HA, HJ21, HO_0, HO_7, BK239, HB⟩ := hcut
                    cases kq with
                    | zero => exact absurd HA.out (by simp [estoverslaw19_AccountsLimits.j2])
                    | succ kj21 =>
                      have H := HA.out
                      clear HA
                      simp only [estoverslaw19_AccountsLimits.j2] at H
                      by_cases c33 : x9_21 = 0
                      · rw [if_pos c33] at H
                        have c33b0 : (x9_21 == 0) = true := beq_iff_eq.mpr c33
                        have c33b1 : (x9_21 != 0) = false := bne_eq_false_iff_eq.mpr c33
                        clear c33
                        have HC34 := Aside0.mk H
                        clear H
                        go_upto_region 10 with (fail)
                        go_cut [72] (fun v72 wc => ∃ (kq : Nat) (x72_33 : Bool), v72 = .bool x72_33 ∧ Aside0 (estoverslaw19_AccountsLimits.j3 kq x0_2 x7_21 l1 (l1.length : Int) x36_2 x72_33 = some r) ∧ Aside0 (kq ≤ kj21) ∧ Aside0 (Kd.V k43 43 wc w.heap.size (fun k_ => (P0_ k_ ∨ w.heap.size ≤ k_) ∧ some k_ ≠ (u7 : Value).ownBlock ∧ k_ ≠ gb239) (.slice Ao25 x0_2.length co25) x0_2) ∧ Aside0 (Kd.R k43 43 wc w.heap.size (fun k_ => (w.heap.size ≤ k_)) u7 x7_21) ∧ Aside0 (wc.heap[gb239]? = some (.cells #[.bool ((rd_T52 l1 x36_2).f0), .int .i64 ((rd_T52 l1 x36_2).f1), .int .i64 ((rd_T52 l1 x36_2).f2)] 52 (0, 0))) ∧ Aside0 (Below w.heap.size w wc))
                        case first =>
                          have H := HC34.out
                          clear HC34
                          by_cases c35 : (x7_21.length : Int) = (x0_2.length : Int)
                          · rw [if_pos c35] at H
                            have c35b0 : ((x7_21.length : Int) == (x0_2.length : Int)) = true := beq_iff_eq.mpr c35
                            have c35b1 : ((x7_21.length : Int) != (x0_2.length : Int)) = false := bne_eq_false_iff_eq.mpr c35
                            have c35b2 : (x7_21.length == x0_2.length) = true := by first | simpa using c35 | (simp at c35 ⊢; omega)
                            clear c35
                            (first | rw [c35b0] | (simp only [i64_w, i32_w]; rw [c35b0]) | skip)
                            replace H := Option.bind_eq_some_iff.mp H
                            obtain ⟨t249, A360, H⟩ := H
                            replace H : (estoverslaw19_AccountsLimits.j3 kj21 x0_2 x7_21 l1 (l1.length : Int) x36_2 (t249 != 0)) = some r := H
                            have A36 := Aside0.mk A360
                            clear A360
                            have H' := Aside0.mk H
                            clear H
                            obtain ⟨Ao37, co37, eo37⟩ := Kd.R_slice HO_7.out
                            subst eo37
                            go_wp2_with (first | (go_at_call 28; (with_reducible refine (accounts_Check.calls kj21 _ _ x7_21 t249 _ ?side1 ?side2 A36.out).mono ?_); (case side1 => repeat (first | exact (Kd.R_reads' HO_7.out).2.2 | (with_reducible refine Kd.C_alloc ?_ _) | (with_reducible refine Kd.C_drewN ?_ _) | (with_reducible refine Kd.C_drew ?_))); (case side2 => exact (Kd.R_reads' HO_7.out).2.1); rintro e w38 ⟨rfl, hb⟩; have n0_ := Aside0.mk (Kd.V_below (by (with_reducible repeat (first | apply Kd.V_alloc | apply Kd.V_drewN | apply Kd.V_drew)); exact HO_0.out) hb); have n1_ := Aside0.mk (Kd.R_below (by (with_reducible repeat (first | apply Kd.R_alloc | apply Kd.R_drewN | apply Kd.R_drew)); exact HO_7.out) hb); have n2_ := Aside0.mk (blk_below (g := gb239) (o := .cells #[.bool ((rd_T52 l1 x36_2).f0), .int .i64 ((rd_T52 l1 x36_2).f1), .int .i64 ((rd_T52 l1 x36_2).f2)] 52 (0, 0)) (by (with_reducible repeat (first | refine blk_drewN ?_ _ | refine blk_drew ?_ | refine blk_alloc ?_ _)); exact BK239.out) hb); have n3_ := Aside0.mk (below_step (by repeat (first | (with_reducible first | exact HB.out | apply below_alloc | apply pw_below_drewN | apply below_drew1 | refine below_set ?_ GE239.out) | exact HB.out)) hb); clear HO_0; clear HO_7; clear BK239; clear HB; have HO_0 := n0_; have HO_7 := n1_; have BK239 := n2_; have HB := n3_; clear n0_ n1_ n2_ n3_; (try clear hb); (try clear hb2); (try clear hk); (try clear hi)))
                            go_meet
                            case rel => exact ⟨_, ((t249 != 0)), (by first | rfl | (simp; done) | (simp [*]; done)), H', ⟨by have := HJ2.out; have := HK2.out; have := HJ21.out; first | omega | exact Nat.le_refl _⟩, ⟨by (with_reducible repeat (first | apply Kd.V_alloc | apply Kd.V_drewN | apply Kd.V_drew)); exact HO_0.out⟩, ⟨by (with_reducible repeat (first | apply Kd.R_alloc | apply Kd.R_drewN | apply Kd.R_drew)); exact HO_7.out⟩, ⟨by (with_reducible repeat (first | refine blk_drewN ?_ _ | refine blk_drew ?_ | refine blk_alloc ?_ _)); exact BK239.out⟩, ⟨by repeat (first | (with_reducible first | exact HB.out | apply below_alloc | apply pw_below_drewN | apply below_drew1 | refine below_set ?_ GE239.out) | exact HB.out)⟩⟩
                          · rw [if_neg c35] at H
                            have c35b0 : ((x7_21.length : Int) == (x0_2.length : Int)) = false := beq_eq_false_iff_ne.mpr c35
                            have c35b1 : ((x7_21.length : Int) != (x0_2.length : Int)) = true := bne_iff_ne.mpr c35
                            have c35b2 : (x7_21.length == x0_2.length) = false := by first | simpa using c35 | (simp at c35 ⊢; omega)
                            (first | rw [c35b0] | (simp only [i64_w, i32_w]; rw [c35b0]) | skip)
                            have H' := Aside0.mk H
                            clear H
                            obtain ⟨Ao39, co39, eo39⟩ := Kd.R_slice HO_7.out
                            subst eo39
                            go_wp2
                            go_meet
                            case rel => exact ⟨_, (true), (by first | rfl | (simp; done) | (simp [*]; done)), H', ⟨by have := HJ2.out; have := HK2.out; have := HJ21.out; first | omega | exact Nat.le_refl _⟩, ⟨by (with_reducible repeat (first | apply Kd.V_alloc | apply Kd.V_drewN | apply Kd.V_drew)); exact HO_0.out⟩, ⟨by (with_reducible repeat (first | apply Kd.R_alloc | apply Kd.R_drewN | apply Kd.R_drew)); exact HO_7.out⟩, ⟨by (with_reducible repeat (first | refine blk_drewN ?_ _ | refine blk_drew ?_ | refine blk_alloc ?_ _)); exact BK239.out⟩, ⟨by repeat (first | (with_reducible first | exact HB.out | apply below_alloc | apply pw_below_drewN | apply below_drew1 | refine below_set ?_ GE239.out) | exact HB.out)⟩⟩
                        case rest =>
                          clear HC34
                          try clear c1
                          try clear c2
                          try clear p2
                          try clear q2
                          try clear hx2
                          try clear c3
                          try clear c4
                          try clear c5
                          try clear c7
                          try clear c8
                          try clear c8b0
                          try clear c8b1
                          try clear c12
                          try clear c15
                          try clear c18
                          try clear c18b0
                          try clear c19
                          try clear c19b0
                          try clear c20
                          try clear c20b0
                          try clear p23
                          try clear q23
                          try clear hx23
                          try clear c26
                          try clear q28
                          try clear c29
                          try clear c33
                          try clear c33b0
                          try clear c33b1
                          try clear c35
                          try clear c35b0
                          try clear c35b1
                          try clear c35b2
                          try clear c39
                          try clear hcz24_0
                          try clear hcz24_1
                          try clear hcz24_2
                          try clear hcz27_0
                          try clear hcz27_1
                          try clear hcz27_2
                          try clear hcz31_0
                          try clear hcz31_1
                          try clear hcz31_2
                          try clear hfz24_0
                          try clear hfz24_1
                          try clear hfz24_2
                          try clear hfz27_0
                          try clear hfz27_1
                          try clear hfz27_2
                          try clear hfz31_0
                          try clear hfz31_1
                          try clear hfz31_2
                          try clear hx238_0
                          try clear hx238_1
                          try clear hx238_2
                          try clear p2
                          try clear p23
                          try clear p238
                          try clear q2
                          try clear q23
                          try clear q238
                          try clear q28
                          obtain ⟨kq, x72_33, rfl, HA, HJ33, HO_0, HO_7, BK239, HB⟩ := hcut
                          cases kq with
                          | zero => exact absurd HA.out (by simp [estoverslaw19_AccountsLimits.j3])
                          | succ kj33 =>
                            have H := HA.out
                            clear HA
                            simp only [estoverslaw19_AccountsLimits.j3] at H
                            by_cases c40 : x72_33 = true
                            · subst c40
                              have H1 : (none) = some r := by rw [if_pos rfl] at H; exact H
                              clear H
                              have H := H1
                              clear H1
                              exact absurd H (by simp)
                            · replace c40 := Bool.eq_false_iff.mpr c40
                              subst c40
                              have H1 : (estoverslaw19_AccountsLimits.l1 kj33 x0_2 x7_21 0 l1 (l1.length : Int) x36_2 x7_21 (x7_21.length : Int) 0) = some r := by rw [if_neg (show ¬ (false = true) by decide)] at H; exact H
                              clear H
                              have H := H1
                              clear H1
                              have H' := Aside0.mk H
                              clear H
                              obtain ⟨Ao41, co41, eo41⟩ := Kd.R_slice HO_7.out
                              subst eo41
                              go_wp2
                              go_loopg [10, 75] kj33 (fun kq v10 v75 w' => ∃ (x10_5 : Int) (x75_5 : Int), v10 = .int .i64 x10_5 ∧ v75 = .int .i64 x75_5 ∧ Aside0 (estoverslaw19_AccountsLimits.l1 kq x0_2 x7_21 x10_5 l1 (l1.length : Int) x36_2 x7_21 (x7_21.length : Int) x75_5 = some r) ∧ Aside0 (kq ≤ kj33) ∧ Aside0 (Kd.V k43 43 w' w.heap.size (fun k_ => (P0_ k_ ∨ w.heap.size ≤ k_) ∧ some k_ ≠ ((.slice Ao41 x7_21.length co41) : Value).ownBlock ∧ some k_ ≠ ((.slice Ao41 x7_21.length co41) : Value).ownBlock ∧ k_ ≠ gb239) (.slice Ao25 x0_2.length co25) x0_2) ∧ Aside0 (Kd.R k43 43 w' w.heap.size (fun k_ => (w.heap.size ≤ k_)) (.slice Ao41 x7_21.length co41) x7_21) ∧ Aside0 (Kd.R k43 43 w' w.heap.size (fun k_ => (w.heap.size ≤ k_)) (.slice Ao41 x7_21.length co41) x7_21) ∧ Aside0 (w'.heap[gb239]? = some (.cells #[.bool ((rd_T52 l1 x36_2).f0), .int .i64 ((rd_T52 l1 x36_2).f1), .int .i64 ((rd_T52 l1 x36_2).f2)] 52 (0, 0))) ∧ Aside0 (Below w.heap.size w w'))
                              case atStart => exact ⟨(0), (0), (by first | rfl | (simp; done) | (simp [*]; done)), (by first | rfl | (simp; done) | (simp [*]; done)), H', ⟨Nat.le_refl _⟩, ⟨by (with_reducible repeat (first | apply Kd.V_alloc | apply Kd.V_drewN | apply Kd.V_drew)); exact Kd.V_mono HO_0.out (fun _ hk => ⟨hk.1, ⟨hk.2.1, ⟨hk.2.1, hk.2.2⟩⟩⟩)⟩, ⟨by (with_reducible repeat (first | apply Kd.R_alloc | apply Kd.R_drewN | apply Kd.R_drew)); exact HO_7.out⟩, ⟨by (with_reducible repeat (first | apply Kd.R_alloc | apply Kd.R_drewN | apply Kd.R_drew)); exact HO_7.out⟩, ⟨by (with_reducible repeat (first | refine blk_drewN ?_ _ | refine blk_drew ?_ | refine blk_alloc ?_ _)); exact BK239.out⟩, ⟨by repeat (first | (with_reducible first | exact HB.out | apply below_alloc | apply pw_below_drewN | apply below_drew1 | refine below_set ?_ GE239.out) | exact HB.out)⟩⟩
                              case round =>
                                clear H'
                                try clear c1
                                try clear c2
                                try clear p2
                                try clear q2
                                try clear hx2
                                try clear c3
                                try clear c4
                                try clear c5
                                try clear c7
                                try clear c8
                                try clear c8b0
                                try clear c8b1
                                try clear c12
                                try clear c15
                                try clear c18
                                try clear c18b0
                                try clear c19
                                try clear c19b0
                                try clear c20
                                try clear c20b0
                                try clear p23
                                try clear q23
                                try clear hx23
                                try clear c26
                                try clear q28
                                try clear c29
                                try clear c33
                                try clear c33b0
                                try clear c33b1
                                try clear c35
                                try clear c35b0
                                try clear c35b1
                                try clear c35b2
                                try clear c39
                                try clear c40
                                try clear c41
                                try clear hcz24_0
                                try clear hcz24_1
                                try clear hcz24_2
                                try clear hcz27_0
                                try clear hcz27_1
                                try clear hcz27_2
                                try clear hcz31_0
                                try clear hcz31_1
                                try clear hcz31_2
                                try clear hfz24_0
                                try clear hfz24_1
                                try clear hfz24_2
                                try clear hfz27_0
                                try clear hfz27_1
                                try clear hfz27_2
                                try clear hfz31_0
                                try clear hfz31_1
                                try clear hfz31_2
                                try clear hx238_0
                                try clear hx238_1
                                try clear hx238_2
                                try clear p2
                                try clear p23
                                try clear p238
                                try clear q2
                                try clear q23
                                try clear q238
                                try clear q28
                                obtain ⟨x10_5, x75_5, rfl, rfl, HA, HK5, HO_0, HO_7, HO_73, BK239, HB⟩ := hrel
                                cases gk with
                                | zero => exact absurd HA.out (by simp [estoverslaw19_AccountsLimits.l1])
                                | succ k5 =>
                                  have H := HA.out
                                  clear HA
                                  simp only [estoverslaw19_AccountsLimits.l1] at H
                                  by_cases c42 : x75_5 < (x7_21.length : Int)
                                  · rw [if_pos c42] at H
                                    have c42b0 : decide (x75_5 < (x7_21.length : Int)) = true := decide_eq_true c42
                                    clear c42
                                    by_cases c43 : 0 ≤ x75_5
                                    · rw [if_pos c43] at H
                                      have c43b0 : decide (0 ≤ x75_5) = true := decide_eq_true c43
                                      clear c43
                                      by_cases c44 : x75_5 < (x7_21.length : Int)
                                      · rw [if_pos c44] at H
                                        have c44b0 : decide (x75_5 < (x7_21.length : Int)) = true := decide_eq_true c44
                                        clear c44
                                        have H' := Aside0.mk H
                                        clear H
                                        have p251 : 0 ≤ (x75_5 : Int) := of_decide_eq_true (by first | (with_reducible assumption) | assumption)
                                        have q251 : x75_5 < (x7_21.length : Int) := of_decide_eq_true (by first | (with_reducible assumption) | assumption)
                                        obtain ⟨ad251, e251, hx251_0, hx251_1, hx251_2, hx251_3, hx251_4⟩ := at_T43 (Kd.R_reads' HO_73.out).2.2 x75_5 p251 q251
                                        cases e251
                                        replace p251 := eq_true p251
                                        replace q251 := eq_true q251
                                        go_wp2_with (first | ((with_reducible refine gate_dst (N := 12) rfl ?_); (try (refine gate_guard (by rfl) ?_; dsimp only)); refine box_event ?hg (N := 12) ?hd (cs := #[.int .i64 0, .int .i64 0, .int .i64 0, .int .i64 0, .int .i64 0]) (t := 43) ?hr ?_; (case hd => rfl); (case hg => rfl); (case hr => first | (go_simp; done) | (go_simp; rfl)); intro gb252 hg w45 hbox hb; have n0_ := Aside0.mk (Kd.V_below (Kd.V_elderB (by (with_reducible repeat (first | apply Kd.V_alloc | apply Kd.V_drewN | apply Kd.V_drew)); exact HO_0.out) gb252 (Nat.le_of_eq hg.symm)) hb); have n1_ := Aside0.mk (Kd.R_below (Kd.R_elderB (by (with_reducible repeat (first | apply Kd.R_alloc | apply Kd.R_drewN | apply Kd.R_drew)); exact HO_7.out) gb252 (Nat.le_of_eq hg.symm)) hb); have n2_ := Aside0.mk (Kd.R_below (Kd.R_elderB (by (with_reducible repeat (first | apply Kd.R_alloc | apply Kd.R_drewN | apply Kd.R_drew)); exact HO_73.out) gb252 (Nat.le_of_eq hg.symm)) hb); have n3_ := Aside0.mk (blk_below (g := gb239) (o := .cells #[.bool ((rd_T52 l1 x36_2).f0), .int .i64 ((rd_T52 l1 x36_2).f1), .int .i64 ((rd_T52 l1 x36_2).f2)] 52 (0, 0)) (by (with_reducible repeat (first | refine blk_drewN ?_ _ | refine blk_drew ?_ | refine blk_alloc ?_ _)); exact BK239.out) hb); have n4_ := Aside0.mk (below_step (by repeat (first | (with_reducible first | exact HB.out | apply below_alloc | apply pw_below_drewN | apply below_drew1 | refine below_set ?_ GE239.out) | exact HB.out)) hb); have n5_ := Aside0.mk (hbox); have n6_ := Aside0.mk ((by rw [hg]; exact (below_size (by repeat (first | (with_reducible first | exact HB.out | apply below_alloc | apply pw_below_drewN | apply below_drew1 | refine below_set ?_ GE239.out) | exact HB.out))) : w.heap.size ≤ gb252)); have n7_ := Aside0.mk ((by rw [hg]; exact (below_size (by repeat (first | (with_reducible first | exact HB.out | apply below_alloc | apply pw_below_drewN | apply below_drew1 | refine below_set ?_ GE239.out) | exact HB.out))) : w.heap.size ≤ gb252)); have n8_ := Aside0.mk ((by rw [hg]; exact Nat.ne_of_lt (blk_lt (g := gb239) (o := .cells #[.bool ((rd_T52 l1 x36_2).f0), .int .i64 ((rd_T52 l1 x36_2).f1), .int .i64 ((rd_T52 l1 x36_2).f2)] 52 (0, 0)) (by (with_reducible repeat (first | refine blk_drewN ?_ _ | refine blk_drew ?_ | refine blk_alloc ?_ _)); exact BK239.out)) : gb239 ≠ gb252)); have n9_ := Aside0.mk ((by rw [hg]; exact Nat.ne_of_gt (blk_lt (g := gb239) (o := .cells #[.bool ((rd_T52 l1 x36_2).f0), .int .i64 ((rd_T52 l1 x36_2).f1), .int .i64 ((rd_T52 l1 x36_2).f2)] 52 (0, 0)) (by (with_reducible repeat (first | refine blk_drewN ?_ _ | refine blk_drew ?_ | refine blk_alloc ?_ _)); exact BK239.out)) : gb252 ≠ gb239)); clear HO_0; clear HO_7; clear HO_73; clear BK239; clear HB; have HO_0 := n0_; have HO_7 := n1_; have HO_73 := n2_; have BK239 := n3_; have HB := n4_; have BK252 := n5_; have GW252 := n6_; have GE252 := n7_; have NB239_252 := n8_; have NB252_239 := n9_; clear n0_ n1_ n2_ n3_ n4_ n5_ n6_ n7_ n8_ n9_; clear hb hbox hg; have hnb46 := NB252_239.out; have hnc46 := NB239_252.out; have hcz47_0 : w45.cell? ⟨gb252, 0, none⟩ = some (.int .i64 0) := (blk_cell BK252.out 0).trans rfl; have hcz47_1 : w45.cell? ⟨gb252, 1, none⟩ = some (.int .i64 0) := (blk_cell BK252.out 1).trans rfl; have hcz47_2 : w45.cell? ⟨gb252, 2, none⟩ = some (.int .i64 0) := (blk_cell BK252.out 2).trans rfl; have hcz47_3 : w45.cell? ⟨gb252, 3, none⟩ = some (.int .i64 0) := (blk_cell BK252.out 3).trans rfl; have hcz47_4 : w45.cell? ⟨gb252, 4, none⟩ = some (.int .i64 0) := (blk_cell BK252.out 4).trans rfl; have hfz47_0 := blk_frozen BK252.out 0; have hfz47_1 := blk_frozen BK252.out 1; have hfz47_2 := blk_frozen BK252.out 2; have hfz47_3 := blk_frozen BK252.out 3; have hfz47_4 := blk_frozen BK252.out 4))
                                        go_loopg [13, 84] k5 (fun kq v13 v84 w' => ∃ (x13_6 : Int) (x84_6 : Int), v13 = .int .i64 x13_6 ∧ v84 = .int .i64 x84_6 ∧ Aside0 (estoverslaw19_AccountsLimits.l2 kq x0_2 x7_21 x10_5 x75_5 x13_6 l1 (l1.length : Int) x36_2 x7_21 (x7_21.length : Int) x75_5 x7_21 (x7_21.length : Int) x84_6 ((rd_T43 x7_21 x75_5).f0) ((rd_T43 x7_21 x75_5).f1) ((rd_T43 x7_21 x75_5).f2) ((rd_T43 x7_21 x75_5).f3) ((rd_T43 x7_21 x75_5).f4) = some r) ∧ Aside0 (kq ≤ k5) ∧ Aside0 (Kd.V k43 43 w' w.heap.size (fun k_ => (P0_ k_ ∨ w.heap.size ≤ k_) ∧ some k_ ≠ ((.slice (some ad251) x7_21.length co41) : Value).ownBlock ∧ some k_ ≠ ((.slice (some ad251) x7_21.length co41) : Value).ownBlock ∧ some k_ ≠ ((.slice (some ad251) x7_21.length co41) : Value).ownBlock ∧ k_ ≠ gb239 ∧ k_ ≠ gb252) (.slice Ao25 x0_2.length co25) x0_2) ∧ Aside0 (Kd.R k43 43 w' w.heap.size (fun k_ => (w.heap.size ≤ k_) ∧ k_ ≠ gb252) (.slice (some ad251) x7_21.length co41) x7_21) ∧ Aside0 (Kd.R k43 43 w' w.heap.size (fun k_ => (w.heap.size ≤ k_) ∧ k_ ≠ gb252) (.slice (some ad251) x7_21.length co41) x7_21) ∧ Aside0 (Kd.R k43 43 w' w.heap.size (fun k_ => (w.heap.size ≤ k_) ∧ k_ ≠ gb252) (.slice (some ad251) x7_21.length co41) x7_21) ∧ Aside0 (w'.heap[gb239]? = some (.cells #[.bool ((rd_T52 l1 x36_2).f0), .int .i64 ((rd_T52 l1 x36_2).f1), .int .i64 ((rd_T52 l1 x36_2).f2)] 52 (0, 0))) ∧ Aside0 (w'.heap[gb252]? = some (.cells #[.int .i64 ((rd_T43 x7_21 x75_5).f0), .int .i64 ((rd_T43 x7_21 x75_5).f1), .int .i64 ((rd_T43 x7_21 x75_5).f2), .int .i64 ((rd_T43 x7_21 x75_5).f3), .int .i64 ((rd_T43 x7_21 x75_5).f4)] 43 (0, 0))) ∧ Aside0 (Below w.heap.size w w'))
                                        case atStart => exact ⟨((rd_T43 x7_21 x75_5).f1), (0), (by first | rfl | (simp; done) | (simp [*]; done)), (by first | rfl | (simp; done) | (simp [*]; done)), H', ⟨Nat.le_refl _⟩, ⟨by (with_reducible repeat (first | apply Kd.V_alloc | apply Kd.V_drewN | apply Kd.V_drew)); exact Kd.V_mono (Kd.V_far (p := ⟨gb252, 4, none⟩) (Kd.V_far (p := ⟨gb252, 3, none⟩) (Kd.V_far (p := ⟨gb252, 2, none⟩) (Kd.V_far (p := ⟨gb252, 1, none⟩) (Kd.V_far (p := ⟨gb252, 0, none⟩) (Kd.V_mono HO_0.out (fun k_ hk => (⟨hk, hk.2⟩ : _ ∧ k_ ≠ gb252))) (fun _ hk => hk.2) (.int .i64 ((rd_T43 x7_21 x75_5).f0))) (fun _ hk => hk.2) (.int .i64 ((rd_T43 x7_21 x75_5).f1))) (fun _ hk => hk.2) (.int .i64 ((rd_T43 x7_21 x75_5).f2))) (fun _ hk => hk.2) (.int .i64 ((rd_T43 x7_21 x75_5).f3))) (fun _ hk => hk.2) (.int .i64 ((rd_T43 x7_21 x75_5).f4))) (fun _ hk => ⟨hk.1.1.1, ⟨hk.1.1.2.1, ⟨hk.1.1.2.2.1, ⟨hk.1.1.2.1, ⟨hk.1.1.2.2.2, hk.1.2⟩⟩⟩⟩⟩)⟩, ⟨by (with_reducible repeat (first | apply Kd.R_alloc | apply Kd.R_drewN | apply Kd.R_drew)); exact Kd.R_mono (Kd.R_far (p := ⟨gb252, 4, none⟩) (Kd.R_far (p := ⟨gb252, 3, none⟩) (Kd.R_far (p := ⟨gb252, 2, none⟩) (Kd.R_far (p := ⟨gb252, 1, none⟩) (Kd.R_far (p := ⟨gb252, 0, none⟩) (Kd.R_mono HO_7.out (fun k_ hk => (⟨hk, hk.2⟩ : _ ∧ k_ ≠ gb252))) (fun _ hk => hk.2) (.int .i64 ((rd_T43 x7_21 x75_5).f0))) (fun _ hk => hk.2) (.int .i64 ((rd_T43 x7_21 x75_5).f1))) (fun _ hk => hk.2) (.int .i64 ((rd_T43 x7_21 x75_5).f2))) (fun _ hk => hk.2) (.int .i64 ((rd_T43 x7_21 x75_5).f3))) (fun _ hk => hk.2) (.int .i64 ((rd_T43 x7_21 x75_5).f4))) (fun _ hk => ⟨hk.1.1, hk.1.2⟩)⟩, ⟨by (with_reducible repeat (first | apply Kd.R_alloc | apply Kd.R_drewN | apply Kd.R_drew)); exact Kd.R_mono (Kd.R_far (p := ⟨gb252, 4, none⟩) (Kd.R_far (p := ⟨gb252, 3, none⟩) (Kd.R_far (p := ⟨gb252, 2, none⟩) (Kd.R_far (p := ⟨gb252, 1, none⟩) (Kd.R_far (p := ⟨gb252, 0, none⟩) (Kd.R_mono HO_73.out (fun k_ hk => (⟨hk, hk.2⟩ : _ ∧ k_ ≠ gb252))) (fun _ hk => hk.2) (.int .i64 ((rd_T43 x7_21 x75_5).f0))) (fun _ hk => hk.2) (.int .i64 ((rd_T43 x7_21 x75_5).f1))) (fun _ hk => hk.2) (.int .i64 ((rd_T43 x7_21 x75_5).f2))) (fun _ hk => hk.2) (.int .i64 ((rd_T43 x7_21 x75_5).f3))) (fun _ hk => hk.2) (.int .i64 ((rd_T43 x7_21 x75_5).f4))) (fun _ hk => ⟨hk.1.1, hk.1.2⟩)⟩, ⟨by (with_reducible repeat (first | apply Kd.R_alloc | apply Kd.R_drewN | apply Kd.R_drew)); exact Kd.R_mono (Kd.R_far (p := ⟨gb252, 4, none⟩) (Kd.R_far (p := ⟨gb252, 3, none⟩) (Kd.R_far (p := ⟨gb252, 2, none⟩) (Kd.R_far (p := ⟨gb252, 1, none⟩) (Kd.R_far (p := ⟨gb252, 0, none⟩) (Kd.R_mono HO_7.out (fun k_ hk => (⟨hk, hk.2⟩ : _ ∧ k_ ≠ gb252))) (fun _ hk => hk.2) (.int .i64 ((rd_T43 x7_21 x75_5).f0))) (fun _ hk => hk.2) (.int .i64 ((rd_T43 x7_21 x75_5).f1))) (fun _ hk => hk.2) (.int .i64 ((rd_T43 x7_21 x75_5).f2))) (fun _ hk => hk.2) (.int .i64 ((rd_T43 x7_21 x75_5).f3))) (fun _ hk => hk.2) (.int .i64 ((rd_T43 x7_21 x75_5).f4))) (fun _ hk => ⟨hk.1.1, hk.1.2⟩)⟩, ⟨by (with_reducible repeat (first | refine blk_drewN ?_ _ | refine blk_drew ?_ | refine blk_alloc ?_ _)); refine blk_far ?_ NB239_252.out _; (with_reducible repeat (first | refine blk_drewN ?_ _ | refine blk_drew ?_ | refine blk_alloc ?_ _)); refine blk_far ?_ NB239_252.out _; (with_reducible repeat (first | refine blk_drewN ?_ _ | refine blk_drew ?_ | refine blk_alloc ?_ _)); refine blk_far ?_ NB239_252.out _; (with_reducible repeat (first | refine blk_drewN ?_ _ | refine blk_drew ?_ | refine blk_alloc ?_ _)); refine blk_far ?_ NB239_252.out _; (with_reducible repeat (first | refine blk_drewN ?_ _ | refine blk_drew ?_ | refine blk_alloc ?_ _)); refine blk_far ?_ NB239_252.out _; (with_reducible repeat (first | refine blk_drewN ?_ _ | refine blk_drew ?_ | refine blk_alloc ?_ _)); exact BK239.out⟩, ⟨by (with_reducible repeat (first | refine blk_drewN ?_ _ | refine blk_drew ?_ | refine blk_alloc ?_ _)); refine blk_put (cs := #[.int .i64 ((rd_T43 x7_21 x75_5).f0), .int .i64 ((rd_T43 x7_21 x75_5).f1), .int .i64 ((rd_T43 x7_21 x75_5).f2), .int .i64 ((rd_T43 x7_21 x75_5).f3), .int .i64 0]) ?_ 4 _ rfl; (with_reducible repeat (first | refine blk_drewN ?_ _ | refine blk_drew ?_ | refine blk_alloc ?_ _)); refine blk_put (cs := #[.int .i64 ((rd_T43 x7_21 x75_5).f0), .int .i64 ((rd_T43 x7_21 x75_5).f1), .int .i64 ((rd_T43 x7_21 x75_5).f2), .int .i64 0, .int .i64 0]) ?_ 3 _ rfl; (with_reducible repeat (first | refine blk_drewN ?_ _ | refine blk_drew ?_ | refine blk_alloc ?_ _)); refine blk_put (cs := #[.int .i64 ((rd_T43 x7_21 x75_5).f0), .int .i64 ((rd_T43 x7_21 x75_5).f1), .int .i64 0, .int .i64 0, .int .i64 0]) ?_ 2 _ rfl; (with_reducible repeat (first | refine blk_drewN ?_ _ | refine blk_drew ?_ | refine blk_alloc ?_ _)); refine blk_put (cs := #[.int .i64 ((rd_T43 x7_21 x75_5).f0), .int .i64 0, .int .i64 0, .int .i64 0, .int .i64 0]) ?_ 1 _ rfl; (with_reducible repeat (first | refine blk_drewN ?_ _ | refine blk_drew ?_ | refine blk_alloc ?_ _)); refine blk_put (cs := #[.int .i64 0, .int .i64 0, .int .i64 0, .int .i64 0, .int .i64 0]) ?_ 0 _ rfl; (with_reducible repeat (first | refine blk_drewN ?_ _ | refine blk_drew ?_ | refine blk_alloc ?_ _)); exact BK252.out⟩, ⟨by repeat (first | (with_reducible first | exact HB.out | apply below_alloc | apply pw_below_drewN | apply below_drew1 | refine below_set ?_ GE239.out | refine below_set ?_ GE252.out) | exact HB.out)⟩⟩
                                        case round =>
                                          clear H'
                                          try clear c1
                                          try clear c2
                                          try clear p2
                                          try clear q2
                                          try clear hx2
                                          try clear c3
                                          try clear c4
                                          try clear c5
                                          try clear c7
                                          try clear c8
                                          try clear c8b0
                                          try clear c8b1
                                          try clear c12
                                          try clear c15
                                          try clear c18
                                          try clear c18b0
                                          try clear c19
                                          try clear c19b0
                                          try clear c20
                                          try clear c20b0
                                          try clear p23
                                          try clear q23
                                          try clear hx23
                                          try clear p25
                                          try clear q25
                                          try clear hx25
                                          try clear c26
                                          try clear q28
                                          try clear c29
                                          try clear c33
                                          try clear c33b0
                                          try clear c33b1
                                          try clear c35
                                          try clear c35b0
                                          try clear c35b1
                                          try clear c35b2
                                          try clear c39
                                          try clear c40
                                          try clear c41
                                          try clear c42
                                          try clear c42b0
                                          try clear c43
                                          try clear c43b0
                                          try clear c44
                                          try clear c44b0
                                          try clear c46
                                          try clear hcz24_0
                                          try clear hcz24_1
                                          try clear hcz24_2
                                          try clear hcz27_0
                                          try clear hcz27_1
                                          try clear hcz27_2
                                          try clear hcz31_0
                                          try clear hcz31_1
                                          try clear hcz31_2
                                          try clear hcz47_0
                                          try clear hcz47_1
                                          try clear hcz47_2
                                          try clear hcz47_3
                                          try clear hcz47_4
                                          try clear hfz24_0
                                          try clear hfz24_1
                                          try clear hfz24_2
                                          try clear hfz27_0
                                          try clear hfz27_1
                                          try clear hfz27_2
                                          try clear hfz31_0
                                          try clear hfz31_1
                                          try clear hfz31_2
                                          try clear hfz47_0
                                          try clear hfz47_1
                                          try clear hfz47_2
                                          try clear hfz47_3
                                          try clear hfz47_4
                                          try clear hx238_0
                                          try clear hx238_1
                                          try clear hx238_2
                                          try clear hx251_0
                                          try clear hx251_1
                                          try clear hx251_2
                                          try clear hx251_3
                                          try clear hx251_4
                                          try clear p2
                                          try clear p23
                                          try clear p238
                                          try clear p251
                                          try clear q2
                                          try clear q23
                                          try clear q238
                                          try clear q251
                                          try clear q28
                                          obtain ⟨x13_6, x84_6, rfl, rfl, HA, HK6, HO_0, HO_7, HO_73, HO_82, BK239, BK252, HB⟩ := hrel
                                          cases gk with
                                          | zero => exact absurd HA.out (by simp [estoverslaw19_AccountsLimits.l2])
                                          | succ k6 =>
                                            have H := HA.out
                                            clear HA
                                            simp only [estoverslaw19_AccountsLimits.l2] at H
                                            by_cases c48 : x84_6 < (x7_21.length : Int)
                                            · rw [if_pos c48] at H
                                              have c48b0 : decide (x84_6 < (x7_21.length : Int)) = true := decide_eq_true c48
                                              clear c48
                                              by_cases c49 : 0 ≤ x84_6
                                              · rw [if_pos c49] at H
                                                have c49b0 : decide (0 ≤ x84_6) = true := decide_eq_true c49
                                                clear c49
                                                by_cases c50 : x84_6 < (x7_21.length : Int)
                                                · rw [if_pos c50] at H
                                                  have c50b0 : decide (x84_6 < (x7_21.length : Int)) = true := decide_eq_true c50
                                                  clear c50
                                                  by_cases c51 : x84_6 > 0
                                                  · rw [if_pos c51] at H
                                                    have c51b0 : decide (0 < x84_6) = true := decide_eq_true c51
                                                    clear c51
                                                    by_cases c52 : ((rd_T43 x7_21 x84_6).f0) = x75_5
                                                    · rw [if_pos c52] at H
                                                      have c52b0 : (((rd_T43 x7_21 x84_6).f0) == x75_5) = true := beq_iff_eq.mpr c52
                                                      have c52b1 : (((rd_T43 x7_21 x84_6).f0) != x75_5) = false := bne_eq_false_iff_eq.mpr c52
                                                      clear c52
                                                      have H' := Aside0.mk H
                                                      clear H
                                                      have p253 : 0 ≤ (x84_6 : Int) := of_decide_eq_true (by first | (with_reducible assumption) | assumption)
                                                      have q253 : x84_6 < (x7_21.length : Int) := of_decide_eq_true (by first | (with_reducible assumption) | assumption)
                                                      obtain ⟨ad253, e253, hx253_0, hx253_1, hx253_2, hx253_3, hx253_4⟩ := at_T43 (Kd.R_reads' HO_82.out).2.2 x84_6 p253 q253
                                                      obtain rfl : ad251 = ad253 := (by injection e253)
                                                      replace p253 := eq_true p253
                                                      replace q253 := eq_true q253
                                                      go_wp2_with (first | ((with_reducible refine gate_dst (N := 15) rfl ?_); (try (refine gate_guard (by rfl) ?_; dsimp only)); refine box_event ?hg (N := 15) ?hd (cs := #[.int .i64 0, .int .i64 0, .int .i64 0, .int .i64 0, .int .i64 0]) (t := 43) ?hr ?_; (case hd => rfl); (case hg => rfl); (case hr => first | (go_simp; done) | (go_simp; rfl)); intro gb254 hg w53 hbox hb; have n0_ := Aside0.mk (Kd.V_below (Kd.V_elderB (by (with_reducible repeat (first | apply Kd.V_alloc | apply Kd.V_drewN | apply Kd.V_drew)); exact HO_0.out) gb254 (Nat.le_of_eq hg.symm)) hb); have n1_ := Aside0.mk (Kd.R_below (Kd.R_elderB (by (with_reducible repeat (first | apply Kd.R_alloc | apply Kd.R_drewN | apply Kd.R_drew)); exact HO_7.out) gb254 (Nat.le_of_eq hg.symm)) hb); have n2_ := Aside0.mk (Kd.R_below (Kd.R_elderB (by (with_reducible repeat (first | apply Kd.R_alloc | apply Kd.R_drewN | apply Kd.R_drew)); exact HO_73.out) gb254 (Nat.le_of_eq hg.symm)) hb); have n3_ := Aside0.mk (Kd.R_below (Kd.R_elderB (by (with_reducible repeat (first | apply Kd.R_alloc | apply Kd.R_drewN | apply Kd.R_drew)); exact HO_82.out) gb254 (Nat.le_of_eq hg.symm)) hb); have n4_ := Aside0.mk (blk_below (g := gb239) (o := .cells #[.bool ((rd_T52 l1 x36_2).f0), .int .i64 ((rd_T52 l1 x36_2).f1), .int .i64 ((rd_T52 l1 x36_2).f2)] 52 (0, 0)) (by (with_reducible repeat (first | refine blk_drewN ?_ _ | refine blk_drew ?_ | refine blk_alloc ?_ _)); exact BK239.out) hb); have n5_ := Aside0.mk (blk_below (g := gb252) (o := .cells #[.int .i64 ((rd_T43 x7_21 x75_5).f0), .int .i64 ((rd_T43 x7_21 x75_5).f1), .int .i64 ((rd_T43 x7_21 x75_5).f2), .int .i64 ((rd_T43 x7_21 x75_5).f3), .int .i64 ((rd_T43 x7_21 x75_5).f4)] 43 (0, 0)) (by (with_reducible repeat (first | refine blk_drewN ?_ _ | refine blk_drew ?_ | refine blk_alloc ?_ _)); exact BK252.out) hb); have n6_ := Aside0.mk (below_step (by repeat (first | (with_reducible first | exact HB.out | apply below_alloc | apply pw_below_drewN | apply below_drew1 | refine below_set ?_ GE239.out | refine below_set ?_ GE252.out) | exact HB.out)) hb); have n7_ := Aside0.mk (hbox); have n8_ := Aside0.mk ((by rw [hg]; exact (below_size (by repeat (first | (with_reducible first | exact HB.out | apply below_alloc | apply pw_below_drewN | apply below_drew1 | refine below_set ?_ GE239.out | refine below_set ?_ GE252.out) | exact HB.out))) : w.heap.size ≤ gb254)); have n9_ := Aside0.mk ((by rw [hg]; exact (below_size (by repeat (first | (with_reducible first | exact HB.out | apply below_alloc | apply pw_below_drewN | apply below_drew1 | refine below_set ?_ GE239.out | refine below_set ?_ GE252.out) | exact HB.out))) : w.heap.size ≤ gb254)); have n10_ := Aside0.mk ((by rw [hg]; exact Nat.ne_of_lt (blk_lt (g := gb239) (o := .cells #[.bool ((rd_T52 l1 x36_2).f0), .int .i64 ((rd_T52 l1 x36_2).f1), .int .i64 ((rd_T52 l1 x36_2).f2)] 52 (0, 0)) (by (with_reducible repeat (first | refine blk_drewN ?_ _ | refine blk_drew ?_ | refine blk_alloc ?_ _)); exact BK239.out)) : gb239 ≠ gb254)); have n11_ := Aside0.mk ((by rw [hg]; exact Nat.ne_of_gt (blk_lt (g := gb239) (o := .cells #[.bool ((rd_T52 l1 x36_2).f0), .int .i64 ((rd_T52 l1 x36_2).f1), .int .i64 ((rd_T52 l1 x36_2).f2)] 52 (0, 0)) (by (with_reducible repeat (first | refine blk_drewN ?_ _ | refine blk_drew ?_ | refine blk_alloc ?_ _)); exact BK239.out)) : gb254 ≠ gb239)); have n12_ := Aside0.mk ((by rw [hg]; exact Nat.ne_of_lt (blk_lt (g := gb252) (o := .cells #[.int .i64 ((rd_T43 x7_21 x75_5).f0), .int .i64 ((rd_T43 x7_21 x75_5).f1), .int .i64 ((rd_T43 x7_21 x75_5).f2), .int .i64 ((rd_T43 x7_21 x75_5).f3), .int .i64 ((rd_T43 x7_21 x75_5).f4)] 43 (0, 0)) (by (with_reducible repeat (first | refine blk_drewN ?_ _ | refine blk_drew ?_ | refine blk_alloc ?_ _)); exact BK252.out)) : gb252 ≠ gb254)); have n13_ := Aside0.mk ((by rw [hg]; exact Nat.ne_of_gt (blk_lt (g := gb252) (o := .cells #[.int .i64 ((rd_T43 x7_21 x75_5).f0), .int .i64 ((rd_T43 x7_21 x75_5).f1), .int .i64 ((rd_T43 x7_21 x75_5).f2), .int .i64 ((rd_T43 x7_21 x75_5).f3), .int .i64 ((rd_T43 x7_21 x75_5).f4)] 43 (0, 0)) (by (with_reducible repeat (first | refine blk_drewN ?_ _ | refine blk_drew ?_ | refine blk_alloc ?_ _)); exact BK252.out)) : gb254 ≠ gb252)); clear HO_0; clear HO_7; clear HO_73; clear HO_82; clear BK239; clear BK252; clear HB; have HO_0 := n0_; have HO_7 := n1_; have HO_73 := n2_; have HO_82 := n3_; have BK239 := n4_; have BK252 := n5_; have HB := n6_; have BK254 := n7_; have GW254 := n8_; have GE254 := n9_; have NB239_254 := n10_; have NB254_239 := n11_; have NB252_254 := n12_; have NB254_252 := n13_; clear n0_ n1_ n2_ n3_ n4_ n5_ n6_ n7_ n8_ n9_ n10_ n11_ n12_ n13_; clear hb hbox hg; have hnb54 := NB254_239.out; have hnc54 := NB239_254.out; have hnb55 := NB254_252.out; have hnc55 := NB252_254.out; have hcz56_0 : w53.cell? ⟨gb254, 0, none⟩ = some (.int .i64 0) := (blk_cell BK254.out 0).trans rfl; have hcz56_1 : w53.cell? ⟨gb254, 1, none⟩ = some (.int .i64 0) := (blk_cell BK254.out 1).trans rfl; have hcz56_2 : w53.cell? ⟨gb254, 2, none⟩ = some (.int .i64 0) := (blk_cell BK254.out 2).trans rfl; have hcz56_3 : w53.cell? ⟨gb254, 3, none⟩ = some (.int .i64 0) := (blk_cell BK254.out 3).trans rfl; have hcz56_4 : w53.cell? ⟨gb254, 4, none⟩ = some (.int .i64 0) := (blk_cell BK254.out 4).trans rfl; have hfz56_0 := blk_frozen BK254.out 0; have hfz56_1 := blk_frozen BK254.out 1; have hfz56_2 := blk_frozen BK254.out 2; have hfz56_3 := blk_frozen BK254.out 3; have hfz56_4 := blk_frozen BK254.out 4))
                                                      go_roundg k6
                                                      case measure => have := HJ2.out; have := HK2.out; have := HJ21.out; have := HJ33.out; have := HK5.out; have := HK6.out; omega
                                                      case rel => exact ⟨(wrap64 (x13_6 - ((rd_T43 x7_21 x84_6).f1))), (wrap64 (x84_6 + 1)), (by first | rfl | (simp; done) | (simp [*]; done)), (by first | rfl | (simp; done) | (simp [*]; done)), H', ⟨by have := HJ2.out; have := HK2.out; have := HJ21.out; have := HJ33.out; have := HK5.out; have := HK6.out; omega⟩, ⟨by (with_reducible repeat (first | apply Kd.V_alloc | apply Kd.V_drewN | apply Kd.V_drew)); exact Kd.V_mono (Kd.V_far (p := ⟨gb254, 4, none⟩) (Kd.V_far (p := ⟨gb254, 3, none⟩) (Kd.V_far (p := ⟨gb254, 2, none⟩) (Kd.V_far (p := ⟨gb254, 1, none⟩) (Kd.V_far (p := ⟨gb254, 0, none⟩) (Kd.V_mono HO_0.out (fun k_ hk => (⟨hk, hk.2⟩ : _ ∧ k_ ≠ gb254))) (fun _ hk => hk.2) (.int .i64 ((rd_T43 x7_21 x84_6).f0))) (fun _ hk => hk.2) (.int .i64 ((rd_T43 x7_21 x84_6).f1))) (fun _ hk => hk.2) (.int .i64 ((rd_T43 x7_21 x84_6).f2))) (fun _ hk => hk.2) (.int .i64 ((rd_T43 x7_21 x84_6).f3))) (fun _ hk => hk.2) (.int .i64 ((rd_T43 x7_21 x84_6).f4))) (fun _ hk => ⟨hk.1.1.1, ⟨hk.1.1.2.1, ⟨hk.1.1.2.2.1, ⟨hk.1.1.2.2.2.1, ⟨hk.1.1.2.2.2.2.1, hk.1.1.2.2.2.2.2⟩⟩⟩⟩⟩)⟩, ⟨by (with_reducible repeat (first | apply Kd.R_alloc | apply Kd.R_drewN | apply Kd.R_drew)); exact Kd.R_mono (Kd.R_far (p := ⟨gb254, 4, none⟩) (Kd.R_far (p := ⟨gb254, 3, none⟩) (Kd.R_far (p := ⟨gb254, 2, none⟩) (Kd.R_far (p := ⟨gb254, 1, none⟩) (Kd.R_far (p := ⟨gb254, 0, none⟩) (Kd.R_mono HO_7.out (fun k_ hk => (⟨hk, hk.2⟩ : _ ∧ k_ ≠ gb254))) (fun _ hk => hk.2) (.int .i64 ((rd_T43 x7_21 x84_6).f0))) (fun _ hk => hk.2) (.int .i64 ((rd_T43 x7_21 x84_6).f1))) (fun _ hk => hk.2) (.int .i64 ((rd_T43 x7_21 x84_6).f2))) (fun _ hk => hk.2) (.int .i64 ((rd_T43 x7_21 x84_6).f3))) (fun _ hk => hk.2) (.int .i64 ((rd_T43 x7_21 x84_6).f4))) (fun _ hk => ⟨hk.1.1.1, hk.1.1.2⟩)⟩, ⟨by (with_reducible repeat (first | apply Kd.R_alloc | apply Kd.R_drewN | apply Kd.R_drew)); exact Kd.R_mono (Kd.R_far (p := ⟨gb254, 4, none⟩) (Kd.R_far (p := ⟨gb254, 3, none⟩) (Kd.R_far (p := ⟨gb254, 2, none⟩) (Kd.R_far (p := ⟨gb254, 1, none⟩) (Kd.R_far (p := ⟨gb254, 0, none⟩) (Kd.R_mono HO_73.out (fun k_ hk => (⟨hk, hk.2⟩ : _ ∧ k_ ≠ gb254))) (fun _ hk => hk.2) (.int .i64 ((rd_T43 x7_21 x84_6).f0))) (fun _ hk => hk.2) (.int .i64 ((rd_T43 x7_21 x84_6).f1))) (fun _ hk => hk.2) (.int .i64 ((rd_T43 x7_21 x84_6).f2))) (fun _ hk => hk.2) (.int .i64 ((rd_T43 x7_21 x84_6).f3))) (fun _ hk => hk.2) (.int .i64 ((rd_T43 x7_21 x84_6).f4))) (fun _ hk => ⟨hk.1.1.1, hk.1.1.2⟩)⟩, ⟨by (with_reducible repeat (first | apply Kd.R_alloc | apply Kd.R_drewN | apply Kd.R_drew)); exact Kd.R_mono (Kd.R_far (p := ⟨gb254, 4, none⟩) (Kd.R_far (p := ⟨gb254, 3, none⟩) (Kd.R_far (p := ⟨gb254, 2, none⟩) (Kd.R_far (p := ⟨gb254, 1, none⟩) (Kd.R_far (p := ⟨gb254, 0, none⟩) (Kd.R_mono HO_82.out (fun k_ hk => (⟨hk, hk.2⟩ : _ ∧ k_ ≠ gb254))) (fun _ hk => hk.2) (.int .i64 ((rd_T43 x7_21 x84_6).f0))) (fun _ hk => hk.2) (.int .i64 ((rd_T43 x7_21 x84_6).f1))) (fun _ hk => hk.2) (.int .i64 ((rd_T43 x7_21 x84_6).f2))) (fun _ hk => hk.2) (.int .i64 ((rd_T43 x7_21 x84_6).f3))) (fun _ hk => hk.2) (.int .i64 ((rd_T43 x7_21 x84_6).f4))) (fun _ hk => ⟨hk.1.1.1, hk.1.1.2⟩)⟩, ⟨by (with_reducible repeat (first | refine blk_drewN ?_ _ | refine blk_drew ?_ | refine blk_alloc ?_ _)); refine blk_far ?_ NB239_254.out _; (with_reducible repeat (first | refine blk_drewN ?_ _ | refine blk_drew ?_ | refine blk_alloc ?_ _)); refine blk_far ?_ NB239_254.out _; (with_reducible repeat (first | refine blk_drewN ?_ _ | refine blk_drew ?_ | refine blk_alloc ?_ _)); refine blk_far ?_ NB239_254.out _; (with_reducible repeat (first | refine blk_drewN ?_ _ | refine blk_drew ?_ | refine blk_alloc ?_ _)); refine blk_far ?_ NB239_254.out _; (with_reducible repeat (first | refine blk_drewN ?_ _ | refine blk_drew ?_ | refine blk_alloc ?_ _)); refine blk_far ?_ NB239_254.out _; (with_reducible repeat (first | refine blk_drewN ?_ _ | refine blk_drew ?_ | refine blk_alloc ?_ _)); exact BK239.out⟩, ⟨by (with_reducible repeat (first | refine blk_drewN ?_ _ | refine blk_drew ?_ | refine blk_alloc ?_ _)); refine blk_far ?_ NB252_254.out _; (with_reducible repeat (first | refine blk_drewN ?_ _ | refine blk_drew ?_ | refine blk_alloc ?_ _)); refine blk_far ?_ NB252_254.out _; (with_reducible repeat (first | refine blk_drewN ?_ _ | refine blk_drew ?_ | refine blk_alloc ?_ _)); refine blk_far ?_ NB252_254.out _; (with_reducible repeat (first | refine blk_drewN ?_ _ | refine blk_drew ?_ | refine blk_alloc ?_ _)); refine blk_far ?_ NB252_254.out _; (with_reducible repeat (first | refine blk_drewN ?_ _ | refine blk_drew ?_ | refine blk_alloc ?_ _)); refine blk_far ?_ NB252_254.out _; (with_reducible repeat (first | refine blk_drewN ?_ _ | refine blk_drew ?_ | refine blk_alloc ?_ _)); exact BK252.out⟩, ⟨by repeat (first | (with_reducible first | exact HB.out | apply below_alloc | apply pw_below_drewN | apply below_drew1 | refine below_set ?_ GE239.out | refine below_set ?_ GE252.out | refine below_set ?_ GE254.out) | exact HB.out)⟩⟩
                                                    · rw [if_neg c52] at H
                                                      have c52b0 : (((rd_T43 x7_21 x84_6).f0) == x75_5) = false := beq_eq_false_iff_ne.mpr c52
                                                      have c52b1 : (((rd_T43 x7_21 x84_6).f0) != x75_5) = true := bne_iff_ne.mpr c52
                                                      have H' := Aside0.mk H
                                                      clear H
                                                      have p253 : 0 ≤ (x84_6 : Int) := of_decide_eq_true (by first | (with_reducible assumption) | assumption)
                                                      have q253 : x84_6 < (x7_21.length : Int) := of_decide_eq_true (by first | (with_reducible assumption) | assumption)
                                                      obtain ⟨ad253, e253, hx253_0, hx253_1, hx253_2, hx253_3, hx253_4⟩ := at_T43 (Kd.R_reads' HO_82.out).2.2 x84_6 p253 q253
                                                      obtain rfl : ad251 = ad253 := (by injection e253)
                                                      replace p253 := eq_true p253
                                                      replace q253 := eq_true q253
                                                      go_wp2_with (first | ((with_reducible refine gate_dst (N := 15) rfl ?_); (try (refine gate_guard (by rfl) ?_; dsimp only)); refine box_event ?hg (N := 15) ?hd (cs := #[.int .i64 0, .int .i64 0, .int .i64 0, .int .i64 0, .int .i64 0]) (t := 43) ?hr ?_; (case hd => rfl); (case hg => rfl); (case hr => first | (go_simp; done) | (go_simp; rfl)); intro gb254 hg w57 hbox hb; have n0_ := Aside0.mk (Kd.V_below (Kd.V_elderB (by (with_reducible repeat (first | apply Kd.V_alloc | apply Kd.V_drewN | apply Kd.V_drew)); exact HO_0.out) gb254 (Nat.le_of_eq hg.symm)) hb); have n1_ := Aside0.mk (Kd.R_below (Kd.R_elderB (by (with_reducible repeat (first | apply Kd.R_alloc | apply Kd.R_drewN | apply Kd.R_drew)); exact HO_7.out) gb254 (Nat.le_of_eq hg.symm)) hb); have n2_ := Aside0.mk (Kd.R_below (Kd.R_elderB (by (with_reducible repeat (first | apply Kd.R_alloc | apply Kd.R_drewN | apply Kd.R_drew)); exact HO_73.out) gb254 (Nat.le_of_eq hg.symm)) hb); have n3_ := Aside0.mk (Kd.R_below (Kd.R_elderB (by (with_reducible repeat (first | apply Kd.R_alloc | apply Kd.R_drewN | apply Kd.R_drew)); exact HO_82.out) gb254 (Nat.le_of_eq hg.symm)) hb); have n4_ := Aside0.mk (blk_below (g := gb239) (o := .cells #[.bool ((rd_T52 l1 x36_2).f0), .int .i64 ((rd_T52 l1 x36_2).f1), .int .i64 ((rd_T52 l1 x36_2).f2)] 52 (0, 0)) (by (with_reducible repeat (first | refine blk_drewN ?_ _ | refine blk_drew ?_ | refine blk_alloc ?_ _)); exact BK239.out) hb); have n5_ := Aside0.mk (blk_below (g := gb252) (o := .cells #[.int .i64 ((rd_T43 x7_21 x75_5).f0), .int .i64 ((rd_T43 x7_21 x75_5).f1), .int .i64 ((rd_T43 x7_21 x75_5).f2), .int .i64 ((rd_T43 x7_21 x75_5).f3), .int .i64 ((rd_T43 x7_21 x75_5).f4)] 43 (0, 0)) (by (with_reducible repeat (first | refine blk_drewN ?_ _ | refine blk_drew ?_ | refine blk_alloc ?_ _)); exact BK252.out) hb); have n6_ := Aside0.mk (below_step (by repeat (first | (with_reducible first | exact HB.out | apply below_alloc | apply pw_below_drewN | apply below_drew1 | refine below_set ?_ GE239.out | refine below_set ?_ GE252.out) | exact HB.out)) hb); have n7_ := Aside0.mk (hbox); have n8_ := Aside0.mk ((by rw [hg]; exact (below_size (by repeat (first | (with_reducible first | exact HB.out | apply below_alloc | apply pw_below_drewN | apply below_drew1 | refine below_set ?_ GE239.out | refine below_set ?_ GE252.out) | exact HB.out))) : w.heap.size ≤ gb254)); have n9_ := Aside0.mk ((by rw [hg]; exact (below_size (by repeat (first | (with_reducible first | exact HB.out | apply below_alloc | apply pw_below_drewN | apply below_drew1 | refine below_set ?_ GE239.out | refine below_set ?_ GE252.out) | exact HB.out))) : w.heap.size ≤ gb254)); have n10_ := Aside0.mk ((by rw [hg]; exact Nat.ne_of_lt (blk_lt (g := gb239) (o := .cells #[.bool ((rd_T52 l1 x36_2).f0), .int .i64 ((rd_T52 l1 x36_2).f1), .int .i64 ((rd_T52 l1 x36_2).f2)] 52 (0, 0)) (by (with_reducible repeat (first | refine blk_drewN ?_ _ | refine blk_drew ?_ | refine blk_alloc ?_ _)); exact BK239.out)) : gb239 ≠ gb254)); have n11_ := Aside0.mk ((by rw [hg]; exact Nat.ne_of_gt (blk_lt (g := gb239) (o := .cells #[.bool ((rd_T52 l1 x36_2).f0), .int .i64 ((rd_T52 l1 x36_2).f1), .int .i64 ((rd_T52 l1 x36_2).f2)] 52 (0, 0)) (by (with_reducible repeat (first | refine blk_drewN ?_ _ | refine blk_drew ?_ | refine blk_alloc ?_ _)); exact BK239.out)) : gb254 ≠ gb239)); have n12_ := Aside0.mk ((by rw [hg]; exact Nat.ne_of_lt (blk_lt (g := gb252) (o := .cells #[.int .i64 ((rd_T43 x7_21 x75_5).f0), .int .i64 ((rd_T43 x7_21 x75_5).f1), .int .i64 ((rd_T43 x7_21 x75_5).f2), .int .i64 ((rd_T43 x7_21 x75_5).f3), .int .i64 ((rd_T43 x7_21 x75_5).f4)] 43 (0, 0)) (by (with_reducible repeat (first | refine blk_drewN ?_ _ | refine blk_drew ?_ | refine blk_alloc ?_ _)); exact BK252.out)) : gb252 ≠ gb254)); have n13_ := Aside0.mk ((by rw [hg]; exact Nat.ne_of_gt (blk_lt (g := gb252) (o := .cells #[.int .i64 ((rd_T43 x7_21 x75_5).f0), .int .i64 ((rd_T43 x7_21 x75_5).f1), .int .i64 ((rd_T43 x7_21 x75_5).f2), .int .i64 ((rd_T43 x7_21 x75_5).f3), .int .i64 ((rd_T43 x7_21 x75_5).f4)] 43 (0, 0)) (by (with_reducible repeat (first | refine blk_drewN ?_ _ | refine blk_drew ?_ | refine blk_alloc ?_ _)); exact BK252.out)) : gb254 ≠ gb252)); clear HO_0; clear HO_7; clear HO_73; clear HO_82; clear BK239; clear BK252; clear HB; have HO_0 := n0_; have HO_7 := n1_; have HO_73 := n2_; have HO_82 := n3_; have BK239 := n4_; have BK252 := n5_; have HB := n6_; have BK254 := n7_; have GW254 := n8_; have GE254 := n9_; have NB239_254 := n10_; have NB254_239 := n11_; have NB252_254 := n12_; have NB254_252 := n13_; clear n0_ n1_ n2_ n3_ n4_ n5_ n6_ n7_ n8_ n9_ n10_ n11_ n12_ n13_; clear hb hbox hg; have hnb58 := NB254_239.out; have hnc58 := NB239_254.out; have hnb59 := NB254_252.out; have hnc59 := NB252_254.out; have hcz60_0 : w57.cell? ⟨gb254, 0, none⟩ = some (.int .i64 0) := (blk_cell BK254.out 0).trans rfl; have hcz60_1 : w57.cell? ⟨gb254, 1, none⟩ = some (.int .i64 0) := (blk_cell BK254.out 1).trans rfl; have hcz60_2 : w57.cell? ⟨gb254, 2, none⟩ = some (.int .i64 0) := (blk_cell BK254.out 2).trans rfl; have hcz60_3 : w57.cell? ⟨gb254, 3, none⟩ = some (.int .i64 0) := (blk_cell BK254.out 3).trans rfl; have hcz60_4 : w57.cell? ⟨gb254, 4, none⟩ = some (.int .i64 0) := (blk_cell BK254.out 4).trans rfl; have hfz60_0 := blk_frozen BK254.out 0; have hfz60_1 := blk_frozen BK254.out 1; have hfz60_2 := blk_frozen BK254.out 2; have hfz60_3 := blk_frozen BK254.out 3; have hfz60_4 := blk_frozen BK254.out 4))
                                                      go_roundg k6
                                                      case measure => have := HJ2.out; have := HK2.out; have := HJ21.out; have := HJ33.out; have := HK5.out; have := HK6.out; omega
                                                      case rel => exact ⟨(x13_6), (wrap64 (x84_6 + 1)), (by first | rfl | (simp; done) | (simp [*]; done)), (by first | rfl | (simp; done) | (simp [*]; done)), H', ⟨by have := HJ2.out; have := HK2.out; have := HJ21.out; have := HJ33.out; have := HK5.out; have := HK6.out; omega⟩, ⟨by (with_reducible repeat (first | apply Kd.V_alloc | apply Kd.V_drewN | apply Kd.V_drew)); exact Kd.V_mono (Kd.V_far (p := ⟨gb254, 4, none⟩) (Kd.V_far (p := ⟨gb254, 3, none⟩) (Kd.V_far (p := ⟨gb254, 2, none⟩) (Kd.V_far (p := ⟨gb254, 1, none⟩) (Kd.V_far (p := ⟨gb254, 0, none⟩) (Kd.V_mono HO_0.out (fun k_ hk => (⟨hk, hk.2⟩ : _ ∧ k_ ≠ gb254))) (fun _ hk => hk.2) (.int .i64 ((rd_T43 x7_21 x84_6).f0))) (fun _ hk => hk.2) (.int .i64 ((rd_T43 x7_21 x84_6).f1))) (fun _ hk => hk.2) (.int .i64 ((rd_T43 x7_21 x84_6).f2))) (fun _ hk => hk.2) (.int .i64 ((rd_T43 x7_21 x84_6).f3))) (fun _ hk => hk.2) (.int .i64 ((rd_T43 x7_21 x84_6).f4))) (fun _ hk => ⟨hk.1.1.1, ⟨hk.1.1.2.1, ⟨hk.1.1.2.2.1, ⟨hk.1.1.2.2.2.1, ⟨hk.1.1.2.2.2.2.1, hk.1.1.2.2.2.2.2⟩⟩⟩⟩⟩)⟩, ⟨by (with_reducible repeat (first | apply Kd.R_alloc | apply Kd.R_drewN | apply Kd.R_drew)); exact Kd.R_mono (Kd.R_far (p := ⟨gb254, 4, none⟩) (Kd.R_far (p := ⟨gb254, 3, none⟩) (Kd.R_far (p := ⟨gb254, 2, none⟩) (Kd.R_far (p := ⟨gb254, 1, none⟩) (Kd.R_far (p := ⟨gb254, 0, none⟩) (Kd.R_mono HO_7.out (fun k_ hk => (⟨hk, hk.2⟩ : _ ∧ k_ ≠ gb254))) (fun _ hk => hk.2) (.int .i64 ((rd_T43 x7_21 x84_6).f0))) (fun _ hk => hk.2) (.int .i64 ((rd_T43 x7_21 x84_6).f1))) (fun _ hk => hk.2) (.int .i64 ((rd_T43 x7_21 x84_6).f2))) (fun _ hk => hk.2) (.int .i64 ((rd_T43 x7_21 x84_6).f3))) (fun _ hk => hk.2) (.int .i64 ((rd_T43 x7_21 x84_6).f4))) (fun _ hk => ⟨hk.1.1.1, hk.1.1.2⟩)⟩, ⟨by (with_reducible repeat (first | apply Kd.R_alloc | apply Kd.R_drewN | apply Kd.R_drew)); exact Kd.R_mono (Kd.R_far (p := ⟨gb254, 4, none⟩) (Kd.R_far (p := ⟨gb254, 3, none⟩) (Kd.R_far (p := ⟨gb254, 2, none⟩) (Kd.R_far (p := ⟨gb254, 1, none⟩) (Kd.R_far (p := ⟨gb254, 0, none⟩) (Kd.R_mono HO_73.out (fun k_ hk => (⟨hk, hk.2⟩ : _ ∧ k_ ≠ gb254))) (fun _ hk => hk.2) (.int .i64 ((rd_T43 x7_21 x84_6).f0))) (fun _ hk => hk.2) (.int .i64 ((rd_T43 x7_21 x84_6).f1))) (fun _ hk => hk.2) (.int .i64 ((rd_T43 x7_21 x84_6).f2))) (fun _ hk => hk.2) (.int .i64 ((rd_T43 x7_21 x84_6).f3))) (fun _ hk => hk.2) (.int .i64 ((rd_T43 x7_21 x84_6).f4))) (fun _ hk => ⟨hk.1.1.1, hk.1.1.2⟩)⟩, ⟨by (with_reducible repeat (first | apply Kd.R_alloc | apply Kd.R_drewN | apply Kd.R_drew)); exact Kd.R_mono (Kd.R_far (p := ⟨gb254, 4, none⟩) (Kd.R_far (p := ⟨gb254, 3, none⟩) (Kd.R_far (p := ⟨gb254, 2, none⟩) (Kd.R_far (p := ⟨gb254, 1, none⟩) (Kd.R_far (p := ⟨gb254, 0, none⟩) (Kd.R_mono HO_82.out (fun k_ hk => (⟨hk, hk.2⟩ : _ ∧ k_ ≠ gb254))) (fun _ hk => hk.2) (.int .i64 ((rd_T43 x7_21 x84_6).f0))) (fun _ hk => hk.2) (.int .i64 ((rd_T43 x7_21 x84_6).f1))) (fun _ hk => hk.2) (.int .i64 ((rd_T43 x7_21 x84_6).f2))) (fun _ hk => hk.2) (.int .i64 ((rd_T43 x7_21 x84_6).f3))) (fun _ hk => hk.2) (.int .i64 ((rd_T43 x7_21 x84_6).f4))) (fun _ hk => ⟨hk.1.1.1, hk.1.1.2⟩)⟩, ⟨by (with_reducible repeat (first | refine blk_drewN ?_ _ | refine blk_drew ?_ | refine blk_alloc ?_ _)); refine blk_far ?_ NB239_254.out _; (with_reducible repeat (first | refine blk_drewN ?_ _ | refine blk_drew ?_ | refine blk_alloc ?_ _)); refine blk_far ?_ NB239_254.out _; (with_reducible repeat (first | refine blk_drewN ?_ _ | refine blk_drew ?_ | refine blk_alloc ?_ _)); refine blk_far ?_ NB239_254.out _; (with_reducible repeat (first | refine blk_drewN ?_ _ | refine blk_drew ?_ | refine blk_alloc ?_ _)); refine blk_far ?_ NB239_254.out _; (with_reducible repeat (first | refine blk_drewN ?_ _ | refine blk_drew ?_ | refine blk_alloc ?_ _)); refine blk_far ?_ NB239_254.out _; (with_reducible repeat (first | refine blk_drewN ?_ _ | refine blk_drew ?_ | refine blk_alloc ?_ _)); exact BK239.out⟩, ⟨by (with_reducible repeat (first | refine blk_drewN ?_ _ | refine blk_drew ?_ | refine blk_alloc ?_ _)); refine blk_far ?_ NB252_254.out _; (with_reducible repeat (first | refine blk_drewN ?_ _ | refine blk_drew ?_ | refine blk_alloc ?_ _)); refine blk_far ?_ NB252_254.out _; (with_reducible repeat (first | refine blk_drewN ?_ _ | refine blk_drew ?_ | refine blk_alloc ?_ _)); refine blk_far ?_ NB252_254.out _; (with_reducible repeat (first | refine blk_drewN ?_ _ | refine blk_drew ?_ | refine blk_alloc ?_ _)); refine blk_far ?_ NB252_254.out _; (with_reducible repeat (first | refine blk_drewN ?_ _ | refine blk_drew ?_ | refine blk_alloc ?_ _)); refine blk_far ?_ NB252_254.out _; (with_reducible repeat (first | refine blk_drewN ?_ _ | refine blk_drew ?_ | refine blk_alloc ?_ _)); exact BK252.out⟩, ⟨by repeat (first | (with_reducible first | exact HB.out | apply below_alloc | apply pw_below_drewN | apply below_drew1 | refine below_set ?_ GE239.out | refine below_set ?_ GE252.out | refine below_set ?_ GE254.out) | exact HB.out)⟩⟩
                                                  · rw [if_neg c51] at H
                                                    have c51b0 : decide (0 < x84_6) = false := decide_eq_false c51
                                                    clear c51
                                                    have H' := Aside0.mk H
                                                    clear H
                                                    have p253 : 0 ≤ (x84_6 : Int) := of_decide_eq_true (by first | (with_reducible assumption) | assumption)
                                                    have q253 : x84_6 < (x7_21.length : Int) := of_decide_eq_true (by first | (with_reducible assumption) | assumption)
                                                    obtain ⟨ad253, e253, hx253_0, hx253_1, hx253_2, hx253_3, hx253_4⟩ := at_T43 (Kd.R_reads' HO_82.out).2.2 x84_6 p253 q253
                                                    obtain rfl : ad251 = ad253 := (by injection e253)
                                                    replace p253 := eq_true p253
                                                    replace q253 := eq_true q253
                                                    go_wp2_with (first | ((with_reducible refine gate_dst (N := 15) rfl ?_); (try (refine gate_guard (by rfl) ?_; dsimp only)); refine box_event ?hg (N := 15) ?hd (cs := #[.int .i64 0, .int .i64 0, .int .i64 0, .int .i64 0, .int .i64 0]) (t := 43) ?hr ?_; (case hd => rfl); (case hg => rfl); (case hr => first | (go_simp; done) | (go_simp; rfl)); intro gb254 hg w61 hbox hb; have n0_ := Aside0.mk (Kd.V_below (Kd.V_elderB (by (with_reducible repeat (first | apply Kd.V_alloc | apply Kd.V_drewN | apply Kd.V_drew)); exact HO_0.out) gb254 (Nat.le_of_eq hg.symm)) hb); have n1_ := Aside0.mk (Kd.R_below (Kd.R_elderB (by (with_reducible repeat (first | apply Kd.R_alloc | apply Kd.R_drewN | apply Kd.R_drew)); exact HO_7.out) gb254 (Nat.le_of_eq hg.symm)) hb); have n2_ := Aside0.mk (Kd.R_below (Kd.R_elderB (by (with_reducible repeat (first | apply Kd.R_alloc | apply Kd.R_drewN | apply Kd.R_drew)); exact HO_73.out) gb254 (Nat.le_of_eq hg.symm)) hb); have n3_ := Aside0.mk (Kd.R_below (Kd.R_elderB (by (with_reducible repeat (first | apply Kd.R_alloc | apply Kd.R_drewN | apply Kd.R_drew)); exact HO_82.out) gb254 (Nat.le_of_eq hg.symm)) hb); have n4_ := Aside0.mk (blk_below (g := gb239) (o := .cells #[.bool ((rd_T52 l1 x36_2).f0), .int .i64 ((rd_T52 l1 x36_2).f1), .int .i64 ((rd_T52 l1 x36_2).f2)] 52 (0, 0)) (by (with_reducible repeat (first | refine blk_drewN ?_ _ | refine blk_drew ?_ | refine blk_alloc ?_ _)); exact BK239.out) hb); have n5_ := Aside0.mk (blk_below (g := gb252) (o := .cells #[.int .i64 ((rd_T43 x7_21 x75_5).f0), .int .i64 ((rd_T43 x7_21 x75_5).f1), .int .i64 ((rd_T43 x7_21 x75_5).f2), .int .i64 ((rd_T43 x7_21 x75_5).f3), .int .i64 ((rd_T43 x7_21 x75_5).f4)] 43 (0, 0)) (by (with_reducible repeat (first | refine blk_drewN ?_ _ | refine blk_drew ?_ | refine blk_alloc ?_ _)); exact BK252.out) hb); have n6_ := Aside0.mk (below_step (by repeat (first | (with_reducible first | exact HB.out | apply below_alloc | apply pw_below_drewN | apply below_drew1 | refine below_set ?_ GE239.out | refine below_set ?_ GE252.out) | exact HB.out)) hb); have n7_ := Aside0.mk (hbox); have n8_ := Aside0.mk ((by rw [hg]; exact (below_size (by repeat (first | (with_reducible first | exact HB.out | apply below_alloc | apply pw_below_drewN | apply below_drew1 | refine below_set ?_ GE239.out | refine below_set ?_ GE252.out) | exact HB.out))) : w.heap.size ≤ gb254)); have n9_ := Aside0.mk ((by rw [hg]; exact (below_size (by repeat (first | (with_reducible first | exact HB.out | apply below_alloc | apply pw_below_drewN | apply below_drew1 | refine below_set ?_ GE239.out | refine below_set ?_ GE252.out) | exact HB.out))) : w.heap.size ≤ gb254)); have n10_ := Aside0.mk ((by rw [hg]; exact Nat.ne_of_lt (blk_lt (g := gb239) (o := .cells #[.bool ((rd_T52 l1 x36_2).f0), .int .i64 ((rd_T52 l1 x36_2).f1), .int .i64 ((rd_T52 l1 x36_2).f2)] 52 (0, 0)) (by (with_reducible repeat (first | refine blk_drewN ?_ _ | refine blk_drew ?_ | refine blk_alloc ?_ _)); exact BK239.out)) : gb239 ≠ gb254)); have n11_ := Aside0.mk ((by rw [hg]; exact Nat.ne_of_gt (blk_lt (g := gb239) (o := .cells #[.bool ((rd_T52 l1 x36_2).f0), .int .i64 ((rd_T52 l1 x36_2).f1), .int .i64 ((rd_T52 l1 x36_2).f2)] 52 (0, 0)) (by (with_reducible repeat (first | refine blk_drewN ?_ _ | refine blk_drew ?_ | refine blk_alloc ?_ _)); exact BK239.out)) : gb254 ≠ gb239)); have n12_ := Aside0.mk ((by rw [hg]; exact Nat.ne_of_lt (blk_lt (g := gb252) (o := .cells #[.int .i64 ((rd_T43 x7_21 x75_5).f0), .int .i64 ((rd_T43 x7_21 x75_5).f1), .int .i64 ((rd_T43 x7_21 x75_5).f2), .int .i64 ((rd_T43 x7_21 x75_5).f3), .int .i64 ((rd_T43 x7_21 x75_5).f4)] 43 (0, 0)) (by (with_reducible repeat (first | refine blk_drewN ?_ _ | refine blk_drew ?_ | refine blk_alloc ?_ _)); exact BK252.out)) : gb252 ≠ gb254)); have n13_ := Aside0.mk ((by rw [hg]; exact Nat.ne_of_gt (blk_lt (g := gb252) (o := .cells #[.int .i64 ((rd_T43 x7_21 x75_5).f0), .int .i64 ((rd_T43 x7_21 x75_5).f1), .int .i64 ((rd_T43 x7_21 x75_5).f2), .int .i64 ((rd_T43 x7_21 x75_5).f3), .int .i64 ((rd_T43 x7_21 x75_5).f4)] 43 (0, 0)) (by (with_reducible repeat (first | refine blk_drewN ?_ _ | refine blk_drew ?_ | refine blk_alloc ?_ _)); exact BK252.out)) : gb254 ≠ gb252)); clear HO_0; clear HO_7; clear HO_73; clear HO_82; clear BK239; clear BK252; clear HB; have HO_0 := n0_; have HO_7 := n1_; have HO_73 := n2_; have HO_82 := n3_; have BK239 := n4_; have BK252 := n5_; have HB := n6_; have BK254 := n7_; have GW254 := n8_; have GE254 := n9_; have NB239_254 := n10_; have NB254_239 := n11_; have NB252_254 := n12_; have NB254_252 := n13_; clear n0_ n1_ n2_ n3_ n4_ n5_ n6_ n7_ n8_ n9_ n10_ n11_ n12_ n13_; clear hb hbox hg; have hnb62 := NB254_239.out; have hnc62 := NB239_254.out; have hnb63 := NB254_252.out; have hnc63 := NB252_254.out; have hcz64_0 : w61.cell? ⟨gb254, 0, none⟩ = some (.int .i64 0) := (blk_cell BK254.out 0).trans rfl; have hcz64_1 : w61.cell? ⟨gb254, 1, none⟩ = some (.int .i64 0) := (blk_cell BK254.out 1).trans rfl; have hcz64_2 : w61.cell? ⟨gb254, 2, none⟩ = some (.int .i64 0) := (blk_cell BK254.out 2).trans rfl; have hcz64_3 : w61.cell? ⟨gb254, 3, none⟩ = some (.int .i64 0) := (blk_cell BK254.out 3).trans rfl; have hcz64_4 : w61.cell? ⟨gb254, 4, none⟩ = some (.int .i64 0) := (blk_cell BK254.out 4).trans rfl; have hfz64_0 := blk_frozen BK254.out 0; have hfz64_1 := blk_frozen BK254.out 1; have hfz64_2 := blk_frozen BK254.out 2; have hfz64_3 := blk_frozen BK254.out 3; have hfz64_4 := blk_frozen BK254.out 4))
                                                    go_roundg k6
                                                    case measure => have := HJ2.out; have := HK2.out; have := HJ21.out; have := HJ33.out; have := HK5.out; have := HK6.out; omega
                                                    case rel => exact ⟨(x13_6), (wrap64 (x84_6 + 1)), (by first | rfl | (simp; done) | (simp [*]; done)), (by first | rfl | (simp; done) | (simp [*]; done)), H', ⟨by have := HJ2.out; have := HK2.out; have := HJ21.out; have := HJ33.out; have := HK5.out; have := HK6.out; omega⟩, ⟨by (with_reducible repeat (first | apply Kd.V_alloc | apply Kd.V_drewN | apply Kd.V_drew)); exact Kd.V_mono (Kd.V_far (p := ⟨gb254, 4, none⟩) (Kd.V_far (p := ⟨gb254, 3, none⟩) (Kd.V_far (p := ⟨gb254, 2, none⟩) (Kd.V_far (p := ⟨gb254, 1, none⟩) (Kd.V_far (p := ⟨gb254, 0, none⟩) (Kd.V_mono HO_0.out (fun k_ hk => (⟨hk, hk.2⟩ : _ ∧ k_ ≠ gb254))) (fun _ hk => hk.2) (.int .i64 ((rd_T43 x7_21 x84_6).f0))) (fun _ hk => hk.2) (.int .i64 ((rd_T43 x7_21 x84_6).f1))) (fun _ hk => hk.2) (.int .i64 ((rd_T43 x7_21 x84_6).f2))) (fun _ hk => hk.2) (.int .i64 ((rd_T43 x7_21 x84_6).f3))) (fun _ hk => hk.2) (.int .i64 ((rd_T43 x7_21 x84_6).f4))) (fun _ hk => ⟨hk.1.1.1, ⟨hk.1.1.2.1, ⟨hk.1.1.2.2.1, ⟨hk.1.1.2.2.2.1, ⟨hk.1.1.2.2.2.2.1, hk.1.1.2.2.2.2.2⟩⟩⟩⟩⟩)⟩, ⟨by (with_reducible repeat (first | apply Kd.R_alloc | apply Kd.R_drewN | apply Kd.R_drew)); exact Kd.R_mono (Kd.R_far (p := ⟨gb254, 4, none⟩) (Kd.R_far (p := ⟨gb254, 3, none⟩) (Kd.R_far (p := ⟨gb254, 2, none⟩) (Kd.R_far (p := ⟨gb254, 1, none⟩) (Kd.R_far (p := ⟨gb254, 0, none⟩) (Kd.R_mono HO_7.out (fun k_ hk => (⟨hk, hk.2⟩ : _ ∧ k_ ≠ gb254))) (fun _ hk => hk.2) (.int .i64 ((rd_T43 x7_21 x84_6).f0))) (fun _ hk => hk.2) (.int .i64 ((rd_T43 x7_21 x84_6).f1))) (fun _ hk => hk.2) (.int .i64 ((rd_T43 x7_21 x84_6).f2))) (fun _ hk => hk.2) (.int .i64 ((rd_T43 x7_21 x84_6).f3))) (fun _ hk => hk.2) (.int .i64 ((rd_T43 x7_21 x84_6).f4))) (fun _ hk => ⟨hk.1.1.1, hk.1.1.2⟩)⟩, ⟨by (with_reducible repeat (first | apply Kd.R_alloc | apply Kd.R_drewN | apply Kd.R_drew)); exact Kd.R_mono (Kd.R_far (p := ⟨gb254, 4, none⟩) (Kd.R_far (p := ⟨gb254, 3, none⟩) (Kd.R_far (p := ⟨gb254, 2, none⟩) (Kd.R_far (p := ⟨gb254, 1, none⟩) (Kd.R_far (p := ⟨gb254, 0, none⟩) (Kd.R_mono HO_73.out (fun k_ hk => (⟨hk, hk.2⟩ : _ ∧ k_ ≠ gb254))) (fun _ hk => hk.2) (.int .i64 ((rd_T43 x7_21 x84_6).f0))) (fun _ hk => hk.2) (.int .i64 ((rd_T43 x7_21 x84_6).f1))) (fun _ hk => hk.2) (.int .i64 ((rd_T43 x7_21 x84_6).f2))) (fun _ hk => hk.2) (.int .i64 ((rd_T43 x7_21 x84_6).f3))) (fun _ hk => hk.2) (.int .i64 ((rd_T43 x7_21 x84_6).f4))) (fun _ hk => ⟨hk.1.1.1, hk.1.1.2⟩)⟩, ⟨by (with_reducible repeat (first | apply Kd.R_alloc | apply Kd.R_drewN | apply Kd.R_drew)); exact Kd.R_mono (Kd.R_far (p := ⟨gb254, 4, none⟩) (Kd.R_far (p := ⟨gb254, 3, none⟩) (Kd.R_far (p := ⟨gb254, 2, none⟩) (Kd.R_far (p := ⟨gb254, 1, none⟩) (Kd.R_far (p := ⟨gb254, 0, none⟩) (Kd.R_mono HO_82.out (fun k_ hk => (⟨hk, hk.2⟩ : _ ∧ k_ ≠ gb254))) (fun _ hk => hk.2) (.int .i64 ((rd_T43 x7_21 x84_6).f0))) (fun _ hk => hk.2) (.int .i64 ((rd_T43 x7_21 x84_6).f1))) (fun _ hk => hk.2) (.int .i64 ((rd_T43 x7_21 x84_6).f2))) (fun _ hk => hk.2) (.int .i64 ((rd_T43 x7_21 x84_6).f3))) (fun _ hk => hk.2) (.int .i64 ((rd_T43 x7_21 x84_6).f4))) (fun _ hk => ⟨hk.1.1.1, hk.1.1.2⟩)⟩, ⟨by (with_reducible repeat (first | refine blk_drewN ?_ _ | refine blk_drew ?_ | refine blk_alloc ?_ _)); refine blk_far ?_ NB239_254.out _; (with_reducible repeat (first | refine blk_drewN ?_ _ | refine blk_drew ?_ | refine blk_alloc ?_ _)); refine blk_far ?_ NB239_254.out _; (with_reducible repeat (first | refine blk_drewN ?_ _ | refine blk_drew ?_ | refine blk_alloc ?_ _)); refine blk_far ?_ NB239_254.out _; (with_reducible repeat (first | refine blk_drewN ?_ _ | refine blk_drew ?_ | refine blk_alloc ?_ _)); refine blk_far ?_ NB239_254.out _; (with_reducible repeat (first | refine blk_drewN ?_ _ | refine blk_drew ?_ | refine blk_alloc ?_ _)); refine blk_far ?_ NB239_254.out _; (with_reducible repeat (first | refine blk_drewN ?_ _ | refine blk_drew ?_ | refine blk_alloc ?_ _)); exact BK239.out⟩, ⟨by (with_reducible repeat (first | refine blk_drewN ?_ _ | refine blk_drew ?_ | refine blk_alloc ?_ _)); refine blk_far ?_ NB252_254.out _; (with_reducible repeat (first | refine blk_drewN ?_ _ | refine blk_drew ?_ | refine blk_alloc ?_ _)); refine blk_far ?_ NB252_254.out _; (with_reducible repeat (first | refine blk_drewN ?_ _ | refine blk_drew ?_ | refine blk_alloc ?_ _)); refine blk_far ?_ NB252_254.out _; (with_reducible repeat (first | refine blk_drewN ?_ _ | refine blk_drew ?_ | refine blk_alloc ?_ _)); refine blk_far ?_ NB252_254.out _; (with_reducible repeat (first | refine blk_drewN ?_ _ | refine blk_drew ?_ | refine blk_alloc ?_ _)); refine blk_far ?_ NB252_254.out _; (with_reducible repeat (first | refine blk_drewN ?_ _ | refine blk_drew ?_ | refine blk_alloc ?_ _)); exact BK252.out⟩, ⟨by repeat (first | (with_reducible first | exact HB.out | apply below_alloc | apply pw_below_drewN | apply below_drew1 | refine below_set ?_ GE239.out | refine below_set ?_ GE252.out | refine below_set ?_ GE254.out) | exact HB.out)⟩⟩
                                                · rw [if_neg c50] at H
                                                  exact absurd H (by simp)
                                              · rw [if_neg c49] at H
                                                exact absurd H (by simp)
                                            · rw [if_neg c48] at H
                                              have c48b0 : decide (x84_6 < (x7_21.length : Int)) = false := decide_eq_false c48
                                              clear c48
                                              by_cases c65 : ((rd_T43 x7_21 x75_5).f1) > ((rd_T43 x7_21 x75_5).f4)
                                              · rw [if_pos c65] at H
                                                exact absurd H (by simp)
                                              · rw [if_neg c65] at H
                                                have c65b0 : decide (((rd_T43 x7_21 x75_5).f4) < ((rd_T43 x7_21 x75_5).f1)) = false := decide_eq_false c65
                                                clear c65
                                                by_cases c66 : x13_6 < 0
                                                · rw [if_pos c66] at H
                                                  exact absurd H (by simp)
                                                · rw [if_neg c66] at H
                                                  have c66b0 : decide (x13_6 < 0) = false := decide_eq_false c66
                                                  clear c66
                                                  replace H := Option.bind_eq_some_iff.mp H
                                                  obtain ⟨t255, A670, H⟩ := H
                                                  replace H : (if x13_6 = t255 then (if 0 ≤ x75_5 then (if x75_5 < (x0_2.length : Int) then (if ((rd_T43 x7_21 x75_5).f2) = ((rd_T43 x0_2 x75_5).f2) then (if ((rd_T43 x7_21 x75_5).f3) = ((rd_T43 x0_2 x75_5).f3) then (if ((rd_T43 x7_21 x75_5).f4) = ((rd_T43 x0_2 x75_5).f4) then (if ((rd_T43 x7_21 x75_5).f0) = ((rd_T43 x0_2 x75_5).f0) then (estoverslaw19_AccountsLimits.l1 k6 x0_2 x7_21 (wrap64 (x10_5 + x13_6)) l1 (l1.length : Int) x36_2 x7_21 (x7_21.length : Int) (wrap64 (x75_5 + 1))) else (none)) else (none)) else (none)) else (none)) else (none)) else (none)) else (none)) = some r := H
                                                  have A67 := Aside0.mk A670
                                                  clear A670
                                                  by_cases c68 : x13_6 = t255
                                                  · rw [if_pos c68] at H
                                                    have c68b0 : (x13_6 == t255) = true := beq_iff_eq.mpr c68
                                                    have c68b1 : (x13_6 != t255) = false := bne_eq_false_iff_eq.mpr c68
                                                    clear c68
                                                    by_cases c69 : 0 ≤ x75_5
                                                    · rw [if_pos c69] at H
                                                      have c69b0 : decide (0 ≤ x75_5) = true := decide_eq_true c69
                                                      clear c69
                                                      by_cases c70 : x75_5 < (x0_2.length : Int)
                                                      · rw [if_pos c70] at H
                                                        have c70b0 : decide (x75_5 < (x0_2.length : Int)) = true := decide_eq_true c70
                                                        clear c70
                                                        by_cases c71 : ((rd_T43 x7_21 x75_5).f2) = ((rd_T43 x0_2 x75_5).f2)
                                                        · rw [if_pos c71] at H
                                                          have c71b0 : (((rd_T43 x7_21 x75_5).f2) == ((rd_T43 x0_2 x75_5).f2)) = true := beq_iff_eq.mpr c71
                                                          have c71b1 : (((rd_T43 x7_21 x75_5).f2) != ((rd_T43 x0_2 x75_5).f2)) = false := bne_eq_false_iff_eq.mpr c71
                                                          clear c71
                                                          by_cases c72 : ((rd_T43 x7_21 x75_5).f3) = ((rd_T43 x0_2 x75_5).f3)
                                                          · rw [if_pos c72] at H
                                                            have c72b0 : (((rd_T43 x7_21 x75_5).f3) == ((rd_T43 x0_2 x75_5).f3)) = true := beq_iff_eq.mpr c72
                                                            have c72b1 : (((rd_T43 x7_21 x75_5).f3) != ((rd_T43 x0_2 x75_5).f3)) = false := bne_eq_false_iff_eq.mpr c72
                                                            clear c72
                                                            by_cases c73 : ((rd_T43 x7_21 x75_5).f4) = ((rd_T43 x0_2 x75_5).f4)
                                                            · rw [if_pos c73] at H
                                                              have c73b0 : (((rd_T43 x7_21 x75_5).f4) == ((rd_T43 x0_2 x75_5).f4)) = true := beq_iff_eq.mpr c73
                                                              have c73b1 : (((rd_T43 x7_21 x75_5).f4) != ((rd_T43 x0_2 x75_5).f4)) = false := bne_eq_false_iff_eq.mpr c73
                                                              clear c73
                                                              by_cases c74 : ((rd_T43 x7_21 x75_5).f0) = ((rd_T43 x0_2 x75_5).f0)
                                                              · rw [if_pos c74] at H
                                                                have c74b0 : (((rd_T43 x7_21 x75_5).f0) == ((rd_T43 x0_2 x75_5).f0)) = true := beq_iff_eq.mpr c74
                                                                have c74b1 : (((rd_T43 x7_21 x75_5).f0) != ((rd_T43 x0_2 x75_5).f0)) = false := bne_eq_false_iff_eq.mpr c74
                                                                clear c74
                                                                have H' := Aside0.mk H
                                                                clear H
                                                                try go_wp2
                                                                have n0_ := Aside0.mk (Kd.V_drew HO_0.out)
                                                                have n1_ := Aside0.mk (Kd.R_drew HO_7.out)
                                                                have n2_ := Aside0.mk (Kd.R_drew HO_73.out)
                                                                have n3_ := Aside0.mk (Kd.R_drew HO_82.out)
                                                                have n4_ := Aside0.mk (blk_drew BK239.out)
                                                                have n5_ := Aside0.mk (blk_drew BK252.out)
                                                                have n6_ := Aside0.mk (below_drew1 HB.out)
                                                                clear HO_0
                                                                clear HO_7
                                                                clear HO_73
                                                                clear HO_82
                                                                clear BK239
                                                                clear BK252
                                                                clear HB
                                                                have HO_0 := n0_
                                                                have HO_7 := n1_
                                                                have HO_73 := n2_
                                                                have HO_82 := n3_
                                                                have BK239 := n4_
                                                                have BK252 := n5_
                                                                have HB := n6_
                                                                clear n0_ n1_ n2_ n3_ n4_ n5_ n6_
                                                                have p256 : 0 ≤ (x75_5 : Int) := of_decide_eq_true (by first | (with_reducible assumption) | assumption)
                                                                have q256 : x75_5 < (x0_2.length : Int) := of_decide_eq_true (by first | (with_reducible assumption) | assumption)
                                                                obtain ⟨ad256, e256, hx256_0, hx256_1, hx256_2, hx256_3, hx256_4⟩ := at_T43 (Kd.V_reads' HO_0.out).2.2 x75_5 p256 q256
                                                                cases e256
                                                                replace p256 := eq_true p256
                                                                replace q256 := eq_true q256
                                                                have p257 : 0 ≤ (x75_5 : Int) := of_decide_eq_true (by first | (with_reducible assumption) | assumption)
                                                                have q257 : x75_5 < (x0_2.length : Int) := of_decide_eq_true (by first | (with_reducible assumption) | assumption)
                                                                obtain ⟨ad257, e257, hx257_0, hx257_1, hx257_2, hx257_3, hx257_4⟩ := at_T43 (Kd.V_reads' HO_0.out).2.2 x75_5 p257 q257
                                                                obtain rfl : ad256 = ad257 := (by injection e257)
                                                                replace p257 := eq_true p257
                                                                replace q257 := eq_true q257
                                                                have p258 : 0 ≤ (x75_5 : Int) := of_decide_eq_true (by first | (with_reducible assumption) | assumption)
                                                                have q258 : x75_5 < (x0_2.length : Int) := of_decide_eq_true (by first | (with_reducible assumption) | assumption)
                                                                obtain ⟨ad258, e258, hx258_0, hx258_1, hx258_2, hx258_3, hx258_4⟩ := at_T43 (Kd.V_reads' HO_0.out).2.2 x75_5 p258 q258
                                                                obtain rfl : ad256 = ad258 := (by injection e258)
                                                                replace p258 := eq_true p258
                                                                replace q258 := eq_true q258
                                                                have p259 : 0 ≤ (x75_5 : Int) := of_decide_eq_true (by first | (with_reducible assumption) | assumption)
                                                                have q259 : x75_5 < (x0_2.length : Int) := of_decide_eq_true (by first | (with_reducible assumption) | assumption)
                                                                obtain ⟨ad259, e259, hx259_0, hx259_1, hx259_2, hx259_3, hx259_4⟩ := at_T43 (Kd.V_reads' HO_0.out).2.2 x75_5 p259 q259
                                                                obtain rfl : ad256 = ad259 := (by injection e259)
                                                                replace p259 := eq_true p259
                                                                replace q259 := eq_true q259
                                                                refine start_ (n := 56) (S := fun w' => w'.cell? ⟨gb252, 0, none⟩ = some (.int .i64 ((rd_T43 x7_21 x75_5).f0)) ∧ w'.cell? ⟨gb252, 1, none⟩ = some (.int .i64 ((rd_T43 x7_21 x75_5).f1)) ∧ w'.cell? ⟨gb252, 2, none⟩ = some (.int .i64 ((rd_T43 x7_21 x75_5).f2)) ∧ w'.cell? ⟨gb252, 3, none⟩ = some (.int .i64 ((rd_T43 x7_21 x75_5).f3)) ∧ w'.cell? ⟨gb252, 4, none⟩ = some (.int .i64 ((rd_T43 x7_21 x75_5).f4)) ∧ w'.cell? (ad256.add ((x75_5).toNat * 5)) = some (.int .i64 ((rd_T43 x0_2 x75_5).f0)) ∧ w'.cell? ⟨(ad256.add ((x75_5).toNat * 5)).block, (ad256.add ((x75_5).toNat * 5)).off + 1, none⟩ = some (.int .i64 ((rd_T43 x0_2 x75_5).f1)) ∧ w'.cell? ⟨(ad256.add ((x75_5).toNat * 5)).block, (ad256.add ((x75_5).toNat * 5)).off + 2, none⟩ = some (.int .i64 ((rd_T43 x0_2 x75_5).f2)) ∧ w'.cell? ⟨(ad256.add ((x75_5).toNat * 5)).block, (ad256.add ((x75_5).toNat * 5)).off + 3, none⟩ = some (.int .i64 ((rd_T43 x0_2 x75_5).f3)) ∧ w'.cell? ⟨(ad256.add ((x75_5).toNat * 5)).block, (ad256.add ((x75_5).toNat * 5)).off + 4, none⟩ = some (.int .i64 ((rd_T43 x0_2 x75_5).f4)) ∧ w'.cell? (ad256.add ((x75_5).toNat * 5)) = some (.int .i64 ((rd_T43 x0_2 x75_5).f0)) ∧ w'.cell? ⟨(ad256.add ((x75_5).toNat * 5)).block, (ad256.add ((x75_5).toNat * 5)).off + 1, none⟩ = some (.int .i64 ((rd_T43 x0_2 x75_5).f1)) ∧ w'.cell? ⟨(ad256.add ((x75_5).toNat * 5)).block, (ad256.add ((x75_5).toNat * 5)).off + 2, none⟩ = some (.int .i64 ((rd_T43 x0_2 x75_5).f2)) ∧ w'.cell? ⟨(ad256.add ((x75_5).toNat * 5)).block, (ad256.add ((x75_5).toNat * 5)).off + 3, none⟩ = some (.int .i64 ((rd_T43 x0_2 x75_5).f3)) ∧ w'.cell? ⟨(ad256.add ((x75_5).toNat * 5)).block, (ad256.add ((x75_5).toNat * 5)).off + 4, none⟩ = some (.int .i64 ((rd_T43 x0_2 x75_5).f4)) ∧ w'.cell? (ad256.add ((x75_5).toNat * 5)) = some (.int .i64 ((rd_T43 x0_2 x75_5).f0)) ∧ w'.cell? ⟨(ad256.add ((x75_5).toNat * 5)).block, (ad256.add ((x75_5).toNat * 5)).off + 1, none⟩ = some (.int .i64 ((rd_T43 x0_2 x75_5).f1)) ∧ w'.cell? ⟨(ad256.add ((x75_5).toNat * 5)).block, (ad256.add ((x75_5).toNat * 5)).off + 2, none⟩ = some (.int .i64 ((rd_T43 x0_2 x75_5).f2)) ∧ w'.cell? ⟨(ad256.add ((x75_5).toNat * 5)).block, (ad256.add ((x75_5).toNat * 5)).off + 3, none⟩ = some (.int .i64 ((rd_T43 x0_2 x75_5).f3)) ∧ w'.cell? ⟨(ad256.add ((x75_5).toNat * 5)).block, (ad256.add ((x75_5).toNat * 5)).off + 4, none⟩ = some (.int .i64 ((rd_T43 x0_2 x75_5).f4)) ∧ w'.cell? (ad256.add ((x75_5).toNat * 5)) = some (.int .i64 ((rd_T43 x0_2 x75_5).f0)) ∧ w'.cell? ⟨(ad256.add ((x75_5).toNat * 5)).block, (ad256.add ((x75_5).toNat * 5)).off + 1, none⟩ = some (.int .i64 ((rd_T43 x0_2 x75_5).f1)) ∧ w'.cell? ⟨(ad256.add ((x75_5).toNat * 5)).block, (ad256.add ((x75_5).toNat * 5)).off + 2, none⟩ = some (.int .i64 ((rd_T43 x0_2 x75_5).f2)) ∧ w'.cell? ⟨(ad256.add ((x75_5).toNat * 5)).block, (ad256.add ((x75_5).toNat * 5)).off + 3, none⟩ = some (.int .i64 ((rd_T43 x0_2 x75_5).f3)) ∧ w'.cell? ⟨(ad256.add ((x75_5).toNat * 5)).block, (ad256.add ((x75_5).toNat * 5)).off + 4, none⟩ = some (.int .i64 ((rd_T43 x0_2 x75_5).f4))) (ds := []) #[false, false, false, false, false, false, false, false, false, false, false, false, false, false, false, false, false, false, false, false, false, false, false, false, false, false, false, false, false, false, false, false, false, false, false, false, false, false, false, false, false, false, false, false, false, false, false, false, false, false, false, false, false, false, false, false] (by kernel_rfl) rfl rfl ⟨(blk_cell BK252.out 0).trans rfl, (blk_cell BK252.out 1).trans rfl, (blk_cell BK252.out 2).trans rfl, (blk_cell BK252.out 3).trans rfl, (blk_cell BK252.out 4).trans rfl, hx256_0, hx256_1, hx256_2, hx256_3, hx256_4, hx257_0, hx257_1, hx257_2, hx257_3, hx257_4, hx258_0, hx258_1, hx258_2, hx258_3, hx258_4, hx259_0, hx259_1, hx259_2, hx259_3, hx259_4⟩ (fun hHeld => ?_); refine with_tabW estoverslaw19_AccountsLimits.tab23 estoverslaw19_AccountsLimits.bits23 (fun HT_ HW_ => ?_)
                                                                generalize wr.drew = w75 at HO_0 HO_7 HO_73 HO_82 BK239 BK252 HB hx256_0 hx256_1 hx256_2 hx256_3 hx256_4 hx257_0 hx257_1 hx257_2 hx257_3 hx257_4 hx258_0 hx258_1 hx258_2 hx258_3 hx258_4 hx259_0 hx259_1 hx259_2 hx259_3 hx259_4 hHeld ⊢
                                                                refine pure_ (i := 0) (N := some 102) (v := ?_) (a' := ?_) #[true, false, false, false, false, false, false, false, false, false, false, false, false, false, false, false, false, false, false, false, false, false, false, false, false, false, false, false, false, false, false, false, false, false, false, false, false, false, false, false, false, false, false, false, false, false, false, false, false, false, false, false, false, false, false, false] rfl rfl (any_of HT_.out (by kernel_rfl)) (fun _ _ _ h => h) (Or.inl ⟨by rfl, ?_⟩) ?_ ?_
                                                                rotate_left
                                                                · intro w'
                                                                  go_simp
                                                                  with_reducible rfl
                                                                rotate_left
                                                                · simp only [Act.put, List.setIfInBounds_toArray, List.set_cons_zero, List.set_cons_succ, i64_w, i32_w]
                                                                  rfl
                                                                refine pure_ (i := 2) (N := some 104) (v := ?_) (a' := ?_) #[true, false, true, false, false, false, false, false, false, false, false, false, false, false, false, false, false, false, false, false, false, false, false, false, false, false, false, false, false, false, false, false, false, false, false, false, false, false, false, false, false, false, false, false, false, false, false, false, false, false, false, false, false, false, false, false] rfl rfl (any_of HT_.out (by kernel_rfl)) (fun _ _ _ h => h) (Or.inl ⟨by rfl, ?_⟩) ?_ ?_
                                                                rotate_left
                                                                · intro w'
                                                                  go_simp
                                                                  with_reducible rfl
                                                                rotate_left
                                                                · simp only [Act.put, List.setIfInBounds_toArray, List.set_cons_zero, List.set_cons_succ, i64_w, i32_w]
                                                                  rfl
                                                                refine take_ (i := 1) (N := some 103) (v := ?_) (a' := ?_) #[true, true, true, false, false, false, false, false, false, false, false, false, false, false, false, false, false, false, false, false, false, false, false, false, false, false, false, false, false, false, false, false, false, false, false, false, false, false, false, false, false, false, false, false, false, false, false, false, false, false, false, false, false, false, false, false] rfl rfl (take_ofW HT_.out HW_.out (by kernel_rfl)) (fun _ _ _ h => h) (Or.inl ⟨by rfl, ?_⟩) hHeld ?_ ?_
                                                                rotate_left
                                                                · rintro w' ⟨s0, s1, s2, s3, s4, s5, s6, s7, s8, s9, s10, s11, s12, s13, s14, s15, s16, s17, s18, s19, s20, s21, s22, s23, s24⟩
                                                                  go_simp
                                                                  with_reducible rfl
                                                                rotate_left
                                                                · simp only [Act.put, List.setIfInBounds_toArray, List.set_cons_zero, List.set_cons_succ, i64_w, i32_w]
                                                                  rfl
                                                                refine take_ (i := 3) (N := some 105) (v := ?_) (a' := ?_) #[true, true, true, true, false, false, false, false, false, false, false, false, false, false, false, false, false, false, false, false, false, false, false, false, false, false, false, false, false, false, false, false, false, false, false, false, false, false, false, false, false, false, false, false, false, false, false, false, false, false, false, false, false, false, false, false] rfl rfl (take_ofW HT_.out HW_.out (by kernel_rfl)) (fun _ _ _ h => h) (Or.inl ⟨by rfl, ?_⟩) hHeld ?_ ?_
                                                                rotate_left
                                                                · rintro w' ⟨s0, s1, s2, s3, s4, s5, s6, s7, s8, s9, s10, s11, s12, s13, s14, s15, s16, s17, s18, s19, s20, s21, s22, s23, s24⟩
                                                                  go_simp
                                                                  with_reducible rfl
                                                                rotate_left
                                                                · simp only [Act.put, List.setIfInBounds_toArray, List.set_cons_zero, List.set_cons_succ, i64_w, i32_w]
                                                                  rfl
                                                                refine pure_ (i := 4) (N := some 106) (v := ?_) (a' := ?_) #[true, true, true, true, true, false, false, false, false, false, false, false, false, false, false, false, false, false, false, false, false, false, false, false, false, false, false, false, false, false, false, false, false, false, false, false, false, false, false, false, false, false, false, false, false, false, false, false, false, false, false, false, false, false, false, false] rfl rfl (any_of HT_.out (by kernel_rfl)) (fun _ _ _ h => h) (Or.inl ⟨by rfl, ?_⟩) ?_ ?_
                                                                rotate_left
                                                                · intro w'
                                                                  go_simp
                                                                  with_reducible rfl
                                                                rotate_left
                                                                · simp only [Act.put, List.setIfInBounds_toArray, List.set_cons_zero, List.set_cons_succ, i64_w, i32_w]
                                                                  rfl
                                                                refine pure_ (i := 5) (N := some 107) (v := ?_) (a' := ?_) #[true, true, true, true, true, true, false, false, false, false, false, false, false, false, false, false, false, false, false, false, false, false, false, false, false, false, false, false, false, false, false, false, false, false, false, false, false, false, false, false, false, false, false, false, false, false, false, false, false, false, false, false, false, false, false, false] rfl rfl (any_of HT_.out (by kernel_rfl)) (fun _ _ _ h => h) (Or.inl ⟨by rfl, ?_⟩) ?_ ?_
                                                                rotate_left
                                                                · intro w'
                                                                  go_simp
                                                                  with_reducible rfl
                                                                rotate_left
                                                                · simp only [Act.put, List.setIfInBounds_toArray, List.set_cons_zero, List.set_cons_succ, i64_w, i32_w]
                                                                  rfl
                                                                refine pure_ (i := 6) (N := some 108) (v := ?_) (a' := ?_) #[true, true, true, true, true, true, true, false, false, false, false, false, false, false, false, false, false, false, false, false, false, false, false, false, false, false, false, false, false, false, false, false, false, false, false, false, false, false, false, false, false, false, false, false, false, false, false, false, false, false, false, false, false, false, false, false] rfl rfl (any_of HT_.out (by kernel_rfl)) (fun _ _ _ h => h) (Or.inl ⟨by rfl, ?_⟩) ?_ ?_
                                                                rotate_left
                                                                · intro w'
                                                                  go_simp
                                                                  with_reducible rfl
                                                                rotate_left
                                                                · simp only [Act.put, List.setIfInBounds_toArray, List.set_cons_zero, List.set_cons_succ, i64_w, i32_w]
                                                                  rfl
                                                                refine pure_ (i := 7) (N := some 109) (v := ?_) (a' := ?_) #[true, true, true, true, true, true, true, true, false, false, false, false, false, false, false, false, false, false, false, false, false, false, false, false, false, false, false, false, false, false, false, false, false, false, false, false, false, false, false, false, false, false, false, false, false, false, false, false, false, false, false, false, false, false, false, false] rfl rfl (any_of HT_.out (by kernel_rfl)) (fun _ _ _ h => h) (Or.inl ⟨by rfl, ?_⟩) ?_ ?_
                                                                rotate_left
                                                                · intro w'
                                                                  go_simp
                                                                  with_reducible rfl
                                                                rotate_left
                                                                · simp only [Act.put, List.setIfInBounds_toArray, List.set_cons_zero, List.set_cons_succ, i64_w, i32_w]
                                                                  rfl
                                                                refine pure_ (i := 8) (N := some 110) (v := ?_) (a' := ?_) #[true, true, true, true, true, true, true, true, true, false, false, false, false, false, false, false, false, false, false, false, false, false, false, false, false, false, false, false, false, false, false, false, false, false, false, false, false, false, false, false, false, false, false, false, false, false, false, false, false, false, false, false, false, false, false, false] rfl rfl (any_of HT_.out (by kernel_rfl)) (fun _ _ _ h => h) (Or.inl ⟨by rfl, ?_⟩) ?_ ?_
                                                                rotate_left
                                                                · intro w'
                                                                  go_simp
                                                                  with_reducible rfl
                                                                rotate_left
                                                                · simp only [Act.put, List.setIfInBounds_toArray, List.set_cons_zero, List.set_cons_succ, i64_w, i32_w]
                                                                  rfl
                                                                refine pure_ (i := 9) (N := some 111) (v := ?_) (a' := ?_) #[true, true, true, true, true, true, true, true, true, true, false, false, false, false, false, false, false, false, false, false, false, false, false, false, false, false, false, false, false, false, false, false, false, false, false, false, false, false, false, false, false, false, false, false, false, false, false, false, false, false, false, false, false, false, false, false] rfl rfl (any_of HT_.out (by kernel_rfl)) (fun _ _ _ h => h) (Or.inl ⟨by rfl, ?_⟩) ?_ ?_
                                                                rotate_left
                                                                · intro w'
                                                                  go_simp
                                                                  with_reducible rfl
                                                                rotate_left
                                                                · simp only [Act.put, List.setIfInBounds_toArray, List.set_cons_zero, List.set_cons_succ, i64_w, i32_w]
                                                                  rfl
                                                                refine pure_ (i := 10) (N := some 112) (v := ?_) (a' := ?_) #[true, true, true, true, true, true, true, true, true, true, true, false, false, false, false, false, false, false, false, false, false, false, false, false, false, false, false, false, false, false, false, false, false, false, false, false, false, false, false, false, false, false, false, false, false, false, false, false, false, false, false, false, false, false, false, false] rfl rfl (any_of HT_.out (by kernel_rfl)) (fun _ _ _ h => h) (Or.inl ⟨by rfl, ?_⟩) ?_ ?_
                                                                rotate_left
                                                                · intro w'
                                                                  go_simp
                                                                  with_reducible rfl
                                                                rotate_left
                                                                · simp only [Act.put, List.setIfInBounds_toArray, List.set_cons_zero, List.set_cons_succ, i64_w, i32_w]
                                                                  rfl
                                                                refine pure_ (i := 11) (N := some 113) (v := ?_) (a' := ?_) #[true, true, true, true, true, true, true, true, true, true, true, true, false, false, false, false, false, false, false, false, false, false, false, false, false, false, false, false, false, false, false, false, false, false, false, false, false, false, false, false, false, false, false, false, false, false, false, false, false, false, false, false, false, false, false, false] rfl rfl (any_of HT_.out (by kernel_rfl)) (fun _ _ _ h => h) (Or.inl ⟨by rfl, ?_⟩) ?_ ?_
                                                                rotate_left
                                                                · intro w'
                                                                  go_simp
                                                                  with_reducible rfl
                                                                rotate_left
                                                                · simp only [Act.put, List.setIfInBounds_toArray, List.set_cons_zero, List.set_cons_succ, i64_w, i32_w]
                                                                  rfl
                                                                refine pure_ (i := 12) (N := some 114) (v := ?_) (a' := ?_) #[true, true, true, true, true, true, true, true, true, true, true, true, true, false, false, false, false, false, false, false, false, false, false, false, false, false, false, false, false, false, false, false, false, false, false, false, false, false, false, false, false, false, false, false, false, false, false, false, false, false, false, false, false, false, false, false] rfl rfl (any_of HT_.out (by kernel_rfl)) (fun _ _ _ h => h) (Or.inl ⟨by rfl, ?_⟩) ?_ ?_
                                                                rotate_left
                                                                · intro w'
                                                                  go_simp
                                                                  with_reducible rfl
                                                                rotate_left
                                                                · simp only [Act.put, List.setIfInBounds_toArray, List.set_cons_zero, List.set_cons_succ, i64_w, i32_w]
                                                                  rfl
                                                                refine one_ (i := 13) (N := some 115) #[true, true, true, true, true, true, true, true, true, true, true, true, true, true, false, false, false, false, false, false, false, false, false, false, false, false, false, false, false, false, false, false, false, false, false, false, false, false, false, false, false, false, false, false, false, false, false, false, false, false, false, false, false, false, false, false] rfl rfl (one_of HT_.out (by kernel_rfl)) (by decide) (fun K hK => ?_)
                                                                refine goes_ Try.func37 (by kernel_rfl) rfl #[.slice (some ad251) x7_21.length co41, .int .i64 x75_5] (by rfl) rfl rfl (by (try simp only [List.map_toArray, List.map_cons, List.map_nil]); first | done | rfl | (simp only [List.length_drop, List.length_take]; rfl)) ?_
                                                                with_reducible refine (accounts_Own.calls k6 _ _ x7_21 x75_5 t255 _ ?side1 ?side2 A67.out).mono ?_
                                                                (case side1 => repeat (first | exact (Kd.R_reads' HO_7.out).2.2 | (with_reducible refine Kd.C_alloc ?_ _) | (with_reducible refine Kd.C_drewN ?_ _) | (with_reducible refine Kd.C_drew ?_)))
                                                                (case side2 => exact (Kd.R_reads' HO_7.out).2.1)
                                                                rintro e w76 ⟨rfl, hb⟩
                                                                have HS5_ := (hb.cell (World.block_lt_of_cell? _ _ (hHeld.2.2.2.2.2.1))).trans (hHeld.2.2.2.2.2.1)
                                                                have HS6_ := (hb.cell (World.block_lt_of_cell? _ _ (hHeld.2.2.2.2.2.2.1))).trans (hHeld.2.2.2.2.2.2.1)
                                                                have HS7_ := (hb.cell (World.block_lt_of_cell? _ _ (hHeld.2.2.2.2.2.2.2.1))).trans (hHeld.2.2.2.2.2.2.2.1)
                                                                have HS8_ := (hb.cell (World.block_lt_of_cell? _ _ (hHeld.2.2.2.2.2.2.2.2.1))).trans (hHeld.2.2.2.2.2.2.2.2.1)
                                                                have HS9_ := (hb.cell (World.block_lt_of_cell? _ _ (hHeld.2.2.2.2.2.2.2.2.2.1))).trans (hHeld.2.2.2.2.2.2.2.2.2.1)
                                                                have HS10_ := (hb.cell (World.block_lt_of_cell? _ _ (hHeld.2.2.2.2.2.2.2.2.2.2.1))).trans (hHeld.2.2.2.2.2.2.2.2.2.2.1)
                                                                have HS11_ := (hb.cell (World.block_lt_of_cell? _ _ (hHeld.2.2.2.2.2.2.2.2.2.2.2.1))).trans (hHeld.2.2.2.2.2.2.2.2.2.2.2.1)
                                                                have HS12_ := (hb.cell (World.block_lt_of_cell? _ _ (hHeld.2.2.2.2.2.2.2.2.2.2.2.2.1))).trans (hHeld.2.2.2.2.2.2.2.2.2.2.2.2.1)
                                                                have HS13_ := (hb.cell (World.block_lt_of_cell? _ _ (hHeld.2.2.2.2.2.2.2.2.2.2.2.2.2.1))).trans (hHeld.2.2.2.2.2.2.2.2.2.2.2.2.2.1)
                                                                have HS14_ := (hb.cell (World.block_lt_of_cell? _ _ (hHeld.2.2.2.2.2.2.2.2.2.2.2.2.2.2.1))).trans (hHeld.2.2.2.2.2.2.2.2.2.2.2.2.2.2.1)
                                                                have HS15_ := (hb.cell (World.block_lt_of_cell? _ _ (hHeld.2.2.2.2.2.2.2.2.2.2.2.2.2.2.2.1))).trans (hHeld.2.2.2.2.2.2.2.2.2.2.2.2.2.2.2.1)
                                                                have HS16_ := (hb.cell (World.block_lt_of_cell? _ _ (hHeld.2.2.2.2.2.2.2.2.2.2.2.2.2.2.2.2.1))).trans (hHeld.2.2.2.2.2.2.2.2.2.2.2.2.2.2.2.2.1)
                                                                have HS17_ := (hb.cell (World.block_lt_of_cell? _ _ (hHeld.2.2.2.2.2.2.2.2.2.2.2.2.2.2.2.2.2.1))).trans (hHeld.2.2.2.2.2.2.2.2.2.2.2.2.2.2.2.2.2.1)
                                                                have HS18_ := (hb.cell (World.block_lt_of_cell? _ _ (hHeld.2.2.2.2.2.2.2.2.2.2.2.2.2.2.2.2.2.2.1))).trans (hHeld.2.2.2.2.2.2.2.2.2.2.2.2.2.2.2.2.2.2.1)
                                                                have HS19_ := (hb.cell (World.block_lt_of_cell? _ _ (hHeld.2.2.2.2.2.2.2.2.2.2.2.2.2.2.2.2.2.2.2.1))).trans (hHeld.2.2.2.2.2.2.2.2.2.2.2.2.2.2.2.2.2.2.2.1)
                                                                have HS20_ := (hb.cell (World.block_lt_of_cell? _ _ (hHeld.2.2.2.2.2.2.2.2.2.2.2.2.2.2.2.2.2.2.2.2.1))).trans (hHeld.2.2.2.2.2.2.2.2.2.2.2.2.2.2.2.2.2.2.2.2.1)
                                                                have HS21_ := (hb.cell (World.block_lt_of_cell? _ _ (hHeld.2.2.2.2.2.2.2.2.2.2.2.2.2.2.2.2.2.2.2.2.2.1))).trans (hHeld.2.2.2.2.2.2.2.2.2.2.2.2.2.2.2.2.2.2.2.2.2.1)
                                                                have HS22_ := (hb.cell (World.block_lt_of_cell? _ _ (hHeld.2.2.2.2.2.2.2.2.2.2.2.2.2.2.2.2.2.2.2.2.2.2.1))).trans (hHeld.2.2.2.2.2.2.2.2.2.2.2.2.2.2.2.2.2.2.2.2.2.2.1)
                                                                have HS23_ := (hb.cell (World.block_lt_of_cell? _ _ (hHeld.2.2.2.2.2.2.2.2.2.2.2.2.2.2.2.2.2.2.2.2.2.2.2.1))).trans (hHeld.2.2.2.2.2.2.2.2.2.2.2.2.2.2.2.2.2.2.2.2.2.2.2.1)
                                                                have HS24_ := (hb.cell (World.block_lt_of_cell? _ _ (hHeld.2.2.2.2.2.2.2.2.2.2.2.2.2.2.2.2.2.2.2.2.2.2.2.2))).trans (hHeld.2.2.2.2.2.2.2.2.2.2.2.2.2.2.2.2.2.2.2.2.2.2.2.2)
                                                                refine ⟨_, rfl, ?_⟩
                                                                have n0_ := Aside0.mk (Kd.V_below (by (with_reducible repeat (first | apply Kd.V_alloc | apply Kd.V_drewN | apply Kd.V_drew)); exact HO_0.out) hb)
                                                                have n1_ := Aside0.mk (Kd.R_below (by (with_reducible repeat (first | apply Kd.R_alloc | apply Kd.R_drewN | apply Kd.R_drew)); exact HO_7.out) hb)
                                                                have n2_ := Aside0.mk (Kd.R_below (by (with_reducible repeat (first | apply Kd.R_alloc | apply Kd.R_drewN | apply Kd.R_drew)); exact HO_73.out) hb)
                                                                have n3_ := Aside0.mk (Kd.R_below (by (with_reducible repeat (first | apply Kd.R_alloc | apply Kd.R_drewN | apply Kd.R_drew)); exact HO_82.out) hb)
                                                                have n4_ := Aside0.mk (blk_below (g := gb239) (o := .cells #[.bool ((rd_T52 l1 x36_2).f0), .int .i64 ((rd_T52 l1 x36_2).f1), .int .i64 ((rd_T52 l1 x36_2).f2)] 52 (0, 0)) (by (with_reducible repeat (first | refine blk_drewN ?_ _ | refine blk_drew ?_ | refine blk_alloc ?_ _)); exact BK239.out) hb)
                                                                have n5_ := Aside0.mk (blk_below (g := gb252) (o := .cells #[.int .i64 ((rd_T43 x7_21 x75_5).f0), .int .i64 ((rd_T43 x7_21 x75_5).f1), .int .i64 ((rd_T43 x7_21 x75_5).f2), .int .i64 ((rd_T43 x7_21 x75_5).f3), .int .i64 ((rd_T43 x7_21 x75_5).f4)] 43 (0, 0)) (by (with_reducible repeat (first | refine blk_drewN ?_ _ | refine blk_drew ?_ | refine blk_alloc ?_ _)); exact BK252.out) hb)
                                                                have n6_ := Aside0.mk (below_step (by repeat (first | (with_reducible first | exact HB.out | apply below_alloc | apply pw_below_drewN | apply below_drew1 | refine below_set ?_ GE239.out | refine below_set ?_ GE252.out) | exact HB.out)) hb)
                                                                clear HO_0
                                                                clear HO_7
                                                                clear HO_73
                                                                clear HO_82
                                                                clear BK239
                                                                clear BK252
                                                                clear HB
                                                                have HO_0 := n0_
                                                                have HO_7 := n1_
                                                                have HO_73 := n2_
                                                                have HO_82 := n3_
                                                                have BK239 := n4_
                                                                have BK252 := n5_
                                                                have HB := n6_
                                                                clear n0_ n1_ n2_ n3_ n4_ n5_ n6_
                                                                (try clear hb)
                                                                (try clear hb2)
                                                                (try clear hk)
                                                                (try clear hi)
                                                                refine hK.out _ _ ⟨(blk_cell BK252.out 0).trans rfl, (blk_cell BK252.out 1).trans rfl, (blk_cell BK252.out 2).trans rfl, (blk_cell BK252.out 3).trans rfl, (blk_cell BK252.out 4).trans rfl, HS5_, HS6_, HS7_, HS8_, HS9_, HS10_, HS11_, HS12_, HS13_, HS14_, HS15_, HS16_, HS17_, HS18_, HS19_, HS20_, HS21_, HS22_, HS23_, HS24_⟩ (fun hHeld => ?_)
                                                                clear hK K
                                                                refine norm_ (a' := ?_) ?_ ?_
                                                                rotate_left
                                                                · show Act.put _ (some 115) _ = _
                                                                  simp only [Act.put, List.setIfInBounds_toArray, List.set_cons_zero, List.set_cons_succ, i64_w, i32_w]
                                                                  rfl
                                                                refine pure_ (i := 14) (N := some 116) (v := ?_) (a' := ?_) #[true, true, true, true, true, true, true, true, true, true, true, true, true, true, true, false, false, false, false, false, false, false, false, false, false, false, false, false, false, false, false, false, false, false, false, false, false, false, false, false, false, false, false, false, false, false, false, false, false, false, false, false, false, false, false, false] rfl rfl (any_of HT_.out (by kernel_rfl)) (fun _ _ _ h => h) (Or.inl ⟨by rfl, ?_⟩) ?_ ?_
                                                                rotate_left
                                                                · intro w'
                                                                  go_simp
                                                                  with_reducible rfl
                                                                rotate_left
                                                                · simp only [Act.put, List.setIfInBounds_toArray, List.set_cons_zero, List.set_cons_succ, i64_w, i32_w]
                                                                  rfl
                                                                refine pure_ (i := 15) (N := some 117) (v := ?_) (a' := ?_) #[true, true, true, true, true, true, true, true, true, true, true, true, true, true, true, true, false, false, false, false, false, false, false, false, false, false, false, false, false, false, false, false, false, false, false, false, false, false, false, false, false, false, false, false, false, false, false, false, false, false, false, false, false, false, false, false] rfl rfl (any_of HT_.out (by kernel_rfl)) (fun _ _ _ h => h) (Or.inl ⟨by rfl, ?_⟩) ?_ ?_
                                                                rotate_left
                                                                · intro w'
                                                                  go_simp
                                                                  with_reducible rfl
                                                                rotate_left
                                                                · simp only [Act.put, List.setIfInBounds_toArray, List.set_cons_zero, List.set_cons_succ, i64_w, i32_w]
                                                                  rfl
                                                                refine pure_ (i := 16) (N := some 118) (v := ?_) (a' := ?_) #[true, true, true, true, true, true, true, true, true, true, true, true, true, true, true, true, true, false, false, false, false, false, false, false, false, false, false, false, false, false, false, false, false, false, false, false, false, false, false, false, false, false, false, false, false, false, false, false, false, false, false, false, false, false, false, false] rfl rfl (any_of HT_.out (by kernel_rfl)) (fun _ _ _ h => h) (Or.inl ⟨by rfl, ?_⟩) ?_ ?_
                                                                rotate_left
                                                                · intro w'
                                                                  go_simp
                                                                  with_reducible rfl
                                                                rotate_left
                                                                · simp only [Act.put, List.setIfInBounds_toArray, List.set_cons_zero, List.set_cons_succ, i64_w, i32_w]
                                                                  rfl
                                                                refine pure_ (i := 17) (N := some 119) (v := ?_) (a' := ?_) #[true, true, true, true, true, true, true, true, true, true, true, true, true, true, true, true, true, true, false, false, false, false, false, false, false, false, false, false, false, false, false, false, false, false, false, false, false, false, false, false, false, false, false, false, false, false, false, false, false, false, false, false, false, false, false, false] rfl rfl (any_of HT_.out (by kernel_rfl)) (fun _ _ _ h => h) (Or.inl ⟨by rfl, ?_⟩) ?_ ?_
                                                                rotate_left
                                                                · intro w'
                                                                  go_simp
                                                                  with_reducible rfl
                                                                rotate_left
                                                                · simp only [Act.put, List.setIfInBounds_toArray, List.set_cons_zero, List.set_cons_succ, i64_w, i32_w]
                                                                  rfl
                                                                refine pure_ (i := 19) (N := some 121) (v := ?_) (a' := ?_) #[true, true, true, true, true, true, true, true, true, true, true, true, true, true, true, true, true, true, false, true, false, false, false, false, false, false, false, false, false, false, false, false, false, false, false, false, false, false, false, false, false, false, false, false, false, false, false, false, false, false, false, false, false, false, false, false] rfl rfl (any_of HT_.out (by kernel_rfl)) (fun _ _ _ h => h) (Or.inl ⟨by rfl, ?_⟩) ?_ ?_
                                                                rotate_left
                                                                · intro w'
                                                                  go_simp
                                                                  with_reducible rfl
                                                                rotate_left
                                                                · simp only [Act.put, List.setIfInBounds_toArray, List.set_cons_zero, List.set_cons_succ, i64_w, i32_w]
                                                                  rfl
                                                                refine pure_ (i := 20) (N := some 122) (v := ?_) (a' := ?_) #[true, true, true, true, true, true, true, true, true, true, true, true, true, true, true, true, true, true, false, true, true, false, false, false, false, false, false, false, false, false, false, false, false, false, false, false, false, false, false, false, false, false, false, false, false, false, false, false, false, false, false, false, false, false, false, false] rfl rfl (any_of HT_.out (by kernel_rfl)) (fun _ _ _ h => h) (Or.inl ⟨by rfl, ?_⟩) ?_ ?_
                                                                rotate_left
                                                                · intro w'
                                                                  go_simp
                                                                  with_reducible rfl
                                                                rotate_left
                                                                · simp only [Act.put, List.setIfInBounds_toArray, List.set_cons_zero, List.set_cons_succ, i64_w, i32_w]
                                                                  rfl
                                                                refine pure_ (i := 21) (N := some 123) (v := ?_) (a' := ?_) #[true, true, true, true, true, true, true, true, true, true, true, true, true, true, true, true, true, true, false, true, true, true, false, false, false, false, false, false, false, false, false, false, false, false, false, false, false, false, false, false, false, false, false, false, false, false, false, false, false, false, false, false, false, false, false, false] rfl rfl (any_of HT_.out (by kernel_rfl)) (fun _ _ _ h => h) (Or.inl ⟨by rfl, ?_⟩) ?_ ?_
                                                                rotate_left
                                                                · intro w'
                                                                  go_simp
                                                                  with_reducible rfl
                                                                rotate_left
                                                                · simp only [Act.put, List.setIfInBounds_toArray, List.set_cons_zero, List.set_cons_succ, i64_w, i32_w]
                                                                  rfl
                                                                refine pure_ (i := 22) (N := some 124) (v := ?_) (a' := ?_) #[true, true, true, true, true, true, true, true, true, true, true, true, true, true, true, true, true, true, false, true, true, true, true, false, false, false, false, false, false, false, false, false, false, false, false, false, false, false, false, false, false, false, false, false, false, false, false, false, false, false, false, false, false, false, false, false] rfl rfl (any_of HT_.out (by kernel_rfl)) (fun _ _ _ h => h) (Or.inl ⟨by rfl, ?_⟩) ?_ ?_
                                                                rotate_left
                                                                · intro w'
                                                                  go_simp
                                                                  with_reducible rfl
                                                                rotate_left
                                                                · simp only [Act.put, List.setIfInBounds_toArray, List.set_cons_zero, List.set_cons_succ, i64_w, i32_w]
                                                                  rfl
                                                                refine take_ (i := 18) (N := some 120) (v := ?_) (a' := ?_) #[true, true, true, true, true, true, true, true, true, true, true, true, true, true, true, true, true, true, true, true, true, true, true, false, false, false, false, false, false, false, false, false, false, false, false, false, false, false, false, false, false, false, false, false, false, false, false, false, false, false, false, false, false, false, false, false] rfl rfl (take_ofW HT_.out HW_.out (by kernel_rfl)) (fun _ _ _ h => h) (Or.inl ⟨by rfl, ?_⟩) hHeld ?_ ?_
                                                                rotate_left
                                                                · rintro w' ⟨s0, s1, s2, s3, s4, s5, s6, s7, s8, s9, s10, s11, s12, s13, s14, s15, s16, s17, s18, s19, s20, s21, s22, s23, s24⟩
                                                                  go_simp
                                                                  with_reducible rfl
                                                                rotate_left
                                                                · simp only [Act.put, List.setIfInBounds_toArray, List.set_cons_zero, List.set_cons_succ, i64_w, i32_w]
                                                                  rfl
                                                                refine take_ (i := 23) (N := some 125) (v := ?_) (a' := ?_) #[true, true, true, true, true, true, true, true, true, true, true, true, true, true, true, true, true, true, true, true, true, true, true, true, false, false, false, false, false, false, false, false, false, false, false, false, false, false, false, false, false, false, false, false, false, false, false, false, false, false, false, false, false, false, false, false] rfl rfl (take_ofW HT_.out HW_.out (by kernel_rfl)) (fun _ _ _ h => h) (Or.inl ⟨by rfl, ?_⟩) hHeld ?_ ?_
                                                                rotate_left
                                                                · rintro w' ⟨s0, s1, s2, s3, s4, s5, s6, s7, s8, s9, s10, s11, s12, s13, s14, s15, s16, s17, s18, s19, s20, s21, s22, s23, s24⟩
                                                                  go_simp
                                                                  with_reducible rfl
                                                                rotate_left
                                                                · simp only [Act.put, List.setIfInBounds_toArray, List.set_cons_zero, List.set_cons_succ, i64_w, i32_w]
                                                                  rfl
                                                                refine pure_ (i := 24) (N := some 126) (v := ?_) (a' := ?_) #[true, true, true, true, true, true, true, true, true, true, true, true, true, true, true, true, true, true, true, true, true, true, true, true, true, false, false, false, false, false, false, false, false, false, false, false, false, false, false, false, false, false, false, false, false, false, false, false, false, false, false, false, false, false, false, false] rfl rfl (any_of HT_.out (by kernel_rfl)) (fun _ _ _ h => h) (Or.inl ⟨by rfl, ?_⟩) ?_ ?_
                                                                rotate_left
                                                                · intro w'
                                                                  go_simp
                                                                  with_reducible rfl
                                                                rotate_left
                                                                · simp only [Act.put, List.setIfInBounds_toArray, List.set_cons_zero, List.set_cons_succ, i64_w, i32_w]
                                                                  rfl
                                                                refine pure_ (i := 25) (N := some 127) (v := ?_) (a' := ?_) #[true, true, true, true, true, true, true, true, true, true, true, true, true, true, true, true, true, true, true, true, true, true, true, true, true, true, false, false, false, false, false, false, false, false, false, false, false, false, false, false, false, false, false, false, false, false, false, false, false, false, false, false, false, false, false, false] rfl rfl (any_of HT_.out (by kernel_rfl)) (fun _ _ _ h => h) (Or.inl ⟨by rfl, ?_⟩) ?_ ?_
                                                                rotate_left
                                                                · intro w'
                                                                  go_simp
                                                                  with_reducible rfl
                                                                rotate_left
                                                                · simp only [Act.put, List.setIfInBounds_toArray, List.set_cons_zero, List.set_cons_succ, i64_w, i32_w]
                                                                  rfl
                                                                refine pure_ (i := 26) (N := some 128) (v := ?_) (a' := ?_) #[true, true, true, true, true, true, true, true, true, true, true, true, true, true, true, true, true, true, true, true, true, true, true, true, true, true, true, false, false, false, false, false, false, false, false, false, false, false, false, false, false, false, false, false, false, false, false, false, false, false, false, false, false, false, false, false] rfl rfl (any_of HT_.out (by kernel_rfl)) (fun _ _ _ h => h) (Or.inl ⟨by rfl, ?_⟩) ?_ ?_
                                                                rotate_left
                                                                · intro w'
                                                                  go_simp
                                                                  with_reducible rfl
                                                                rotate_left
                                                                · simp only [Act.put, List.setIfInBounds_toArray, List.set_cons_zero, List.set_cons_succ, i64_w, i32_w]
                                                                  rfl
                                                                refine pure_ (i := 27) (N := some 129) (v := ?_) (a' := ?_) #[true, true, true, true, true, true, true, true, true, true, true, true, true, true, true, true, true, true, true, true, true, true, true, true, true, true, true, true, false, false, false, false, false, false, false, false, false, false, false, false, false, false, false, false, false, false, false, false, false, false, false, false, false, false, false, false] rfl rfl (any_of HT_.out (by kernel_rfl)) (fun _ _ _ h => h) (Or.inl ⟨by rfl, ?_⟩) ?_ ?_
                                                                rotate_left
                                                                · intro w'
                                                                  go_simp
                                                                  with_reducible rfl
                                                                rotate_left
                                                                · simp only [Act.put, List.setIfInBounds_toArray, List.set_cons_zero, List.set_cons_succ, i64_w, i32_w]
                                                                  rfl
                                                                refine pure_ (i := 29) (N := some 131) (v := ?_) (a' := ?_) #[true, true, true, true, true, true, true, true, true, true, true, true, true, true, true, true, true, true, true, true, true, true, true, true, true, true, true, true, false, true, false, false, false, false, false, false, false, false, false, false, false, false, false, false, false, false, false, false, false, false, false, false, false, false, false, false] rfl rfl (any_of HT_.out (by kernel_rfl)) (fun _ _ _ h => h) (Or.inl ⟨by rfl, ?_⟩) ?_ ?_
                                                                rotate_left
                                                                · intro w'
                                                                  go_simp
                                                                  with_reducible rfl
                                                                rotate_left
                                                                · simp only [Act.put, List.setIfInBounds_toArray, List.set_cons_zero, List.set_cons_succ, i64_w, i32_w]
                                                                  rfl
                                                                refine pure_ (i := 30) (N := some 132) (v := ?_) (a' := ?_) #[true, true, true, true, true, true, true, true, true, true, true, true, true, true, true, true, true, true, true, true, true, true, true, true, true, true, true, true, false, true, true, false, false, false, false, false, false, false, false, false, false, false, false, false, false, false, false, false, false, false, false, false, false, false, false, false] rfl rfl (any_of HT_.out (by kernel_rfl)) (fun _ _ _ h => h) (Or.inl ⟨by rfl, ?_⟩) ?_ ?_
                                                                rotate_left
                                                                · intro w'
                                                                  go_simp
                                                                  with_reducible rfl
                                                                rotate_left
                                                                · simp only [Act.put, List.setIfInBounds_toArray, List.set_cons_zero, List.set_cons_succ, i64_w, i32_w]
                                                                  rfl
                                                                refine pure_ (i := 31) (N := some 133) (v := ?_) (a' := ?_) #[true, true, true, true, true, true, true, true, true, true, true, true, true, true, true, true, true, true, true, true, true, true, true, true, true, true, true, true, false, true, true, true, false, false, false, false, false, false, false, false, false, false, false, false, false, false, false, false, false, false, false, false, false, false, false, false] rfl rfl (any_of HT_.out (by kernel_rfl)) (fun _ _ _ h => h) (Or.inl ⟨by rfl, ?_⟩) ?_ ?_
                                                                rotate_left
                                                                · intro w'
                                                                  go_simp
                                                                  with_reducible rfl
                                                                rotate_left
                                                                · simp only [Act.put, List.setIfInBounds_toArray, List.set_cons_zero, List.set_cons_succ, i64_w, i32_w]
                                                                  rfl
                                                                refine pure_ (i := 32) (N := some 134) (v := ?_) (a' := ?_) #[true, true, true, true, true, true, true, true, true, true, true, true, true, true, true, true, true, true, true, true, true, true, true, true, true, true, true, true, false, true, true, true, true, false, false, false, false, false, false, false, false, false, false, false, false, false, false, false, false, false, false, false, false, false, false, false] rfl rfl (any_of HT_.out (by kernel_rfl)) (fun _ _ _ h => h) (Or.inl ⟨by rfl, ?_⟩) ?_ ?_
                                                                rotate_left
                                                                · intro w'
                                                                  go_simp
                                                                  with_reducible rfl
                                                                rotate_left
                                                                · simp only [Act.put, List.setIfInBounds_toArray, List.set_cons_zero, List.set_cons_succ, i64_w, i32_w]
                                                                  rfl
                                                                refine take_ (i := 28) (N := some 130) (v := ?_) (a' := ?_) #[true, true, true, true, true, true, true, true, true, true, true, true, true, true, true, true, true, true, true, true, true, true, true, true, true, true, true, true, true, true, true, true, true, false, false, false, false, false, false, false, false, false, false, false, false, false, false, false, false, false, false, false, false, false, false, false] rfl rfl (take_ofW HT_.out HW_.out (by kernel_rfl)) (fun _ _ _ h => h) (Or.inl ⟨by rfl, ?_⟩) hHeld ?_ ?_
                                                                rotate_left
                                                                · rintro w' ⟨s0, s1, s2, s3, s4, s5, s6, s7, s8, s9, s10, s11, s12, s13, s14, s15, s16, s17, s18, s19, s20, s21, s22, s23, s24⟩
                                                                  go_simp
                                                                  with_reducible rfl
                                                                rotate_left
                                                                · simp only [Act.put, List.setIfInBounds_toArray, List.set_cons_zero, List.set_cons_succ, i64_w, i32_w]
                                                                  rfl
                                                                refine take_ (i := 33) (N := some 135) (v := ?_) (a' := ?_) #[true, true, true, true, true, true, true, true, true, true, true, true, true, true, true, true, true, true, true, true, true, true, true, true, true, true, true, true, true, true, true, true, true, true, false, false, false, false, false, false, false, false, false, false, false, false, false, false, false, false, false, false, false, false, false, false] rfl rfl (take_ofW HT_.out HW_.out (by kernel_rfl)) (fun _ _ _ h => h) (Or.inl ⟨by rfl, ?_⟩) hHeld ?_ ?_
                                                                rotate_left
                                                                · rintro w' ⟨s0, s1, s2, s3, s4, s5, s6, s7, s8, s9, s10, s11, s12, s13, s14, s15, s16, s17, s18, s19, s20, s21, s22, s23, s24⟩
                                                                  go_simp
                                                                  with_reducible rfl
                                                                rotate_left
                                                                · simp only [Act.put, List.setIfInBounds_toArray, List.set_cons_zero, List.set_cons_succ, i64_w, i32_w]
                                                                  rfl
                                                                refine pure_ (i := 34) (N := some 136) (v := ?_) (a' := ?_) #[true, true, true, true, true, true, true, true, true, true, true, true, true, true, true, true, true, true, true, true, true, true, true, true, true, true, true, true, true, true, true, true, true, true, true, false, false, false, false, false, false, false, false, false, false, false, false, false, false, false, false, false, false, false, false, false] rfl rfl (any_of HT_.out (by kernel_rfl)) (fun _ _ _ h => h) (Or.inl ⟨by rfl, ?_⟩) ?_ ?_
                                                                rotate_left
                                                                · intro w'
                                                                  go_simp
                                                                  with_reducible rfl
                                                                rotate_left
                                                                · simp only [Act.put, List.setIfInBounds_toArray, List.set_cons_zero, List.set_cons_succ, i64_w, i32_w]
                                                                  rfl
                                                                refine pure_ (i := 35) (N := some 137) (v := ?_) (a' := ?_) #[true, true, true, true, true, true, true, true, true, true, true, true, true, true, true, true, true, true, true, true, true, true, true, true, true, true, true, true, true, true, true, true, true, true, true, true, false, false, false, false, false, false, false, false, false, false, false, false, false, false, false, false, false, false, false, false] rfl rfl (any_of HT_.out (by kernel_rfl)) (fun _ _ _ h => h) (Or.inl ⟨by rfl, ?_⟩) ?_ ?_
                                                                rotate_left
                                                                · intro w'
                                                                  go_simp
                                                                  with_reducible rfl
                                                                rotate_left
                                                                · simp only [Act.put, List.setIfInBounds_toArray, List.set_cons_zero, List.set_cons_succ, i64_w, i32_w]
                                                                  rfl
                                                                refine pure_ (i := 36) (N := some 138) (v := ?_) (a' := ?_) #[true, true, true, true, true, true, true, true, true, true, true, true, true, true, true, true, true, true, true, true, true, true, true, true, true, true, true, true, true, true, true, true, true, true, true, true, true, false, false, false, false, false, false, false, false, false, false, false, false, false, false, false, false, false, false, false] rfl rfl (any_of HT_.out (by kernel_rfl)) (fun _ _ _ h => h) (Or.inl ⟨by rfl, ?_⟩) ?_ ?_
                                                                rotate_left
                                                                · intro w'
                                                                  go_simp
                                                                  with_reducible rfl
                                                                rotate_left
                                                                · simp only [Act.put, List.setIfInBounds_toArray, List.set_cons_zero, List.set_cons_succ, i64_w, i32_w]
                                                                  rfl
                                                                refine pure_ (i := 37) (N := some 139) (v := ?_) (a' := ?_) #[true, true, true, true, true, true, true, true, true, true, true, true, true, true, true, true, true, true, true, true, true, true, true, true, true, true, true, true, true, true, true, true, true, true, true, true, true, true, false, false, false, false, false, false, false, false, false, false, false, false, false, false, false, false, false, false] rfl rfl (any_of HT_.out (by kernel_rfl)) (fun _ _ _ h => h) (Or.inl ⟨by rfl, ?_⟩) ?_ ?_
                                                                rotate_left
                                                                · intro w'
                                                                  go_simp
                                                                  with_reducible rfl
                                                                rotate_left
                                                                · simp only [Act.put, List.setIfInBounds_toArray, List.set_cons_zero, List.set_cons_succ, i64_w, i32_w]
                                                                  rfl
                                                                refine pure_ (i := 39) (N := some 141) (v := ?_) (a' := ?_) #[true, true, true, true, true, true, true, true, true, true, true, true, true, true, true, true, true, true, true, true, true, true, true, true, true, true, true, true, true, true, true, true, true, true, true, true, true, true, false, true, false, false, false, false, false, false, false, false, false, false, false, false, false, false, false, false] rfl rfl (any_of HT_.out (by kernel_rfl)) (fun _ _ _ h => h) (Or.inl ⟨by rfl, ?_⟩) ?_ ?_
                                                                rotate_left
                                                                · intro w'
                                                                  go_simp
                                                                  with_reducible rfl
                                                                rotate_left
                                                                · simp only [Act.put, List.setIfInBounds_toArray, List.set_cons_zero, List.set_cons_succ, i64_w, i32_w]
                                                                  rfl
                                                                refine pure_ (i := 40) (N := some 142) (v := ?_) (a' := ?_) #[true, true, true, true, true, true, true, true, true, true, true, true, true, true, true, true, true, true, true, true, true, true, true, true, true, true, true, true, true, true, true, true, true, true, true, true, true, true, false, true, true, false, false, false, false, false, false, false, false, false, false, false, false, false, false, false] rfl rfl (any_of HT_.out (by kernel_rfl)) (fun _ _ _ h => h) (Or.inl ⟨by rfl, ?_⟩) ?_ ?_
                                                                rotate_left
                                                                · intro w'
                                                                  go_simp
                                                                  with_reducible rfl
                                                                rotate_left
                                                                · simp only [Act.put, List.setIfInBounds_toArray, List.set_cons_zero, List.set_cons_succ, i64_w, i32_w]
                                                                  rfl
                                                                refine pure_ (i := 41) (N := some 143) (v := ?_) (a' := ?_) #[true, true, true, true, true, true, true, true, true, true, true, true, true, true, true, true, true, true, true, true, true, true, true, true, true, true, true, true, true, true, true, true, true, true, true, true, true, true, false, true, true, true, false, false, false, false, false, false, false, false, false, false, false, false, false, false] rfl rfl (any_of HT_.out (by kernel_rfl)) (fun _ _ _ h => h) (Or.inl ⟨by rfl, ?_⟩) ?_ ?_
                                                                rotate_left
                                                                · intro w'
                                                                  go_simp
                                                                  with_reducible rfl
                                                                rotate_left
                                                                · simp only [Act.put, List.setIfInBounds_toArray, List.set_cons_zero, List.set_cons_succ, i64_w, i32_w]
                                                                  rfl
                                                                refine pure_ (i := 42) (N := some 144) (v := ?_) (a' := ?_) #[true, true, true, true, true, true, true, true, true, true, true, true, true, true, true, true, true, true, true, true, true, true, true, true, true, true, true, true, true, true, true, true, true, true, true, true, true, true, false, true, true, true, true, false, false, false, false, false, false, false, false, false, false, false, false, false] rfl rfl (any_of HT_.out (by kernel_rfl)) (fun _ _ _ h => h) (Or.inl ⟨by rfl, ?_⟩) ?_ ?_
                                                                rotate_left
                                                                · intro w'
                                                                  go_simp
                                                                  with_reducible rfl
                                                                rotate_left
                                                                · simp only [Act.put, List.setIfInBounds_toArray, List.set_cons_zero, List.set_cons_succ, i64_w, i32_w]
                                                                  rfl
                                                                refine take_ (i := 38) (N := some 140) (v := ?_) (a' := ?_) #[true, true, true, true, true, true, true, true, true, true, true, true, true, true, true, true, true, true, true, true, true, true, true, true, true, true, true, true, true, true, true, true, true, true, true, true, true, true, true, true, true, true, true, false, false, false, false, false, false, false, false, false, false, false, false, false] rfl rfl (take_ofW HT_.out HW_.out (by kernel_rfl)) (fun _ _ _ h => h) (Or.inl ⟨by rfl, ?_⟩) hHeld ?_ ?_
                                                                rotate_left
                                                                · rintro w' ⟨s0, s1, s2, s3, s4, s5, s6, s7, s8, s9, s10, s11, s12, s13, s14, s15, s16, s17, s18, s19, s20, s21, s22, s23, s24⟩
                                                                  go_simp
                                                                  with_reducible rfl
                                                                rotate_left
                                                                · simp only [Act.put, List.setIfInBounds_toArray, List.set_cons_zero, List.set_cons_succ, i64_w, i32_w]
                                                                  rfl
                                                                refine take_ (i := 43) (N := some 145) (v := ?_) (a' := ?_) #[true, true, true, true, true, true, true, true, true, true, true, true, true, true, true, true, true, true, true, true, true, true, true, true, true, true, true, true, true, true, true, true, true, true, true, true, true, true, true, true, true, true, true, true, false, false, false, false, false, false, false, false, false, false, false, false] rfl rfl (take_ofW HT_.out HW_.out (by kernel_rfl)) (fun _ _ _ h => h) (Or.inl ⟨by rfl, ?_⟩) hHeld ?_ ?_
                                                                rotate_left
                                                                · rintro w' ⟨s0, s1, s2, s3, s4, s5, s6, s7, s8, s9, s10, s11, s12, s13, s14, s15, s16, s17, s18, s19, s20, s21, s22, s23, s24⟩
                                                                  go_simp
                                                                  with_reducible rfl
                                                                rotate_left
                                                                · simp only [Act.put, List.setIfInBounds_toArray, List.set_cons_zero, List.set_cons_succ, i64_w, i32_w]
                                                                  rfl
                                                                refine pure_ (i := 44) (N := some 146) (v := ?_) (a' := ?_) #[true, true, true, true, true, true, true, true, true, true, true, true, true, true, true, true, true, true, true, true, true, true, true, true, true, true, true, true, true, true, true, true, true, true, true, true, true, true, true, true, true, true, true, true, true, false, false, false, false, false, false, false, false, false, false, false] rfl rfl (any_of HT_.out (by kernel_rfl)) (fun _ _ _ h => h) (Or.inl ⟨by rfl, ?_⟩) ?_ ?_
                                                                rotate_left
                                                                · intro w'
                                                                  go_simp
                                                                  with_reducible rfl
                                                                rotate_left
                                                                · simp only [Act.put, List.setIfInBounds_toArray, List.set_cons_zero, List.set_cons_succ, i64_w, i32_w]
                                                                  rfl
                                                                refine pure_ (i := 45) (N := some 147) (v := ?_) (a' := ?_) #[true, true, true, true, true, true, true, true, true, true, true, true, true, true, true, true, true, true, true, true, true, true, true, true, true, true, true, true, true, true, true, true, true, true, true, true, true, true, true, true, true, true, true, true, true, true, false, false, false, false, false, false, false, false, false, false] rfl rfl (any_of HT_.out (by kernel_rfl)) (fun _ _ _ h => h) (Or.inl ⟨by rfl, ?_⟩) ?_ ?_
                                                                rotate_left
                                                                · intro w'
                                                                  go_simp
                                                                  with_reducible rfl
                                                                rotate_left
                                                                · simp only [Act.put, List.setIfInBounds_toArray, List.set_cons_zero, List.set_cons_succ, i64_w, i32_w]
                                                                  rfl
                                                                refine pure_ (i := 46) (N := some 148) (v := ?_) (a' := ?_) #[true, true, true, true, true, true, true, true, true, true, true, true, true, true, true, true, true, true, true, true, true, true, true, true, true, true, true, true, true, true, true, true, true, true, true, true, true, true, true, true, true, true, true, true, true, true, true, false, false, false, false, false, false, false, false, false] rfl rfl (any_of HT_.out (by kernel_rfl)) (fun _ _ _ h => h) (Or.inl ⟨by rfl, ?_⟩) ?_ ?_
                                                                rotate_left
                                                                · intro w'
                                                                  go_simp
                                                                  with_reducible rfl
                                                                rotate_left
                                                                · simp only [Act.put, List.setIfInBounds_toArray, List.set_cons_zero, List.set_cons_succ, i64_w, i32_w]
                                                                  rfl
                                                                refine pure_ (i := 47) (N := some 149) (v := ?_) (a' := ?_) #[true, true, true, true, true, true, true, true, true, true, true, true, true, true, true, true, true, true, true, true, true, true, true, true, true, true, true, true, true, true, true, true, true, true, true, true, true, true, true, true, true, true, true, true, true, true, true, true, false, false, false, false, false, false, false, false] rfl rfl (any_of HT_.out (by kernel_rfl)) (fun _ _ _ h => h) (Or.inl ⟨by rfl, ?_⟩) ?_ ?_
                                                                rotate_left
                                                                · intro w'
                                                                  go_simp
                                                                  with_reducible rfl
                                                                rotate_left
                                                                · simp only [Act.put, List.setIfInBounds_toArray, List.set_cons_zero, List.set_cons_succ, i64_w, i32_w]
                                                                  rfl
                                                                refine pure_ (i := 49) (N := some 151) (v := ?_) (a' := ?_) #[true, true, true, true, true, true, true, true, true, true, true, true, true, true, true, true, true, true, true, true, true, true, true, true, true, true, true, true, true, true, true, true, true, true, true, true, true, true, true, true, true, true, true, true, true, true, true, true, false, true, false, false, false, false, false, false] rfl rfl (any_of HT_.out (by kernel_rfl)) (fun _ _ _ h => h) (Or.inl ⟨by rfl, ?_⟩) ?_ ?_
                                                                rotate_left
                                                                · intro w'
                                                                  go_simp
                                                                  with_reducible rfl
                                                                rotate_left
                                                                · simp only [Act.put, List.setIfInBounds_toArray, List.set_cons_zero, List.set_cons_succ, i64_w, i32_w]
                                                                  rfl
                                                                refine pure_ (i := 50) (N := some 152) (v := ?_) (a' := ?_) #[true, true, true, true, true, true, true, true, true, true, true, true, true, true, true, true, true, true, true, true, true, true, true, true, true, true, true, true, true, true, true, true, true, true, true, true, true, true, true, true, true, true, true, true, true, true, true, true, false, true, true, false, false, false, false, false] rfl rfl (any_of HT_.out (by kernel_rfl)) (fun _ _ _ h => h) (Or.inl ⟨by rfl, ?_⟩) ?_ ?_
                                                                rotate_left
                                                                · intro w'
                                                                  go_simp
                                                                  with_reducible rfl
                                                                rotate_left
                                                                · simp only [Act.put, List.setIfInBounds_toArray, List.set_cons_zero, List.set_cons_succ, i64_w, i32_w]
                                                                  rfl
                                                                refine pure_ (i := 51) (N := some 153) (v := ?_) (a' := ?_) #[true, true, true, true, true, true, true, true, true, true, true, true, true, true, true, true, true, true, true, true, true, true, true, true, true, true, true, true, true, true, true, true, true, true, true, true, true, true, true, true, true, true, true, true, true, true, true, true, false, true, true, true, false, false, false, false] rfl rfl (any_of HT_.out (by kernel_rfl)) (fun _ _ _ h => h) (Or.inl ⟨by rfl, ?_⟩) ?_ ?_
                                                                rotate_left
                                                                · intro w'
                                                                  go_simp
                                                                  with_reducible rfl
                                                                rotate_left
                                                                · simp only [Act.put, List.setIfInBounds_toArray, List.set_cons_zero, List.set_cons_succ, i64_w, i32_w]
                                                                  rfl
                                                                refine pure_ (i := 52) (N := some 154) (v := ?_) (a' := ?_) #[true, true, true, true, true, true, true, true, true, true, true, true, true, true, true, true, true, true, true, true, true, true, true, true, true, true, true, true, true, true, true, true, true, true, true, true, true, true, true, true, true, true, true, true, true, true, true, true, false, true, true, true, true, false, false, false] rfl rfl (any_of HT_.out (by kernel_rfl)) (fun _ _ _ h => h) (Or.inl ⟨by rfl, ?_⟩) ?_ ?_
                                                                rotate_left
                                                                · intro w'
                                                                  go_simp
                                                                  with_reducible rfl
                                                                rotate_left
                                                                · simp only [Act.put, List.setIfInBounds_toArray, List.set_cons_zero, List.set_cons_succ, i64_w, i32_w]
                                                                  rfl
                                                                refine take_ (i := 48) (N := some 150) (v := ?_) (a' := ?_) #[true, true, true, true, true, true, true, true, true, true, true, true, true, true, true, true, true, true, true, true, true, true, true, true, true, true, true, true, true, true, true, true, true, true, true, true, true, true, true, true, true, true, true, true, true, true, true, true, true, true, true, true, true, false, false, false] rfl rfl (take_ofW HT_.out HW_.out (by kernel_rfl)) (fun _ _ _ h => h) (Or.inl ⟨by rfl, ?_⟩) hHeld ?_ ?_
                                                                rotate_left
                                                                · rintro w' ⟨s0, s1, s2, s3, s4, s5, s6, s7, s8, s9, s10, s11, s12, s13, s14, s15, s16, s17, s18, s19, s20, s21, s22, s23, s24⟩
                                                                  go_simp
                                                                  with_reducible rfl
                                                                rotate_left
                                                                · simp only [Act.put, List.setIfInBounds_toArray, List.set_cons_zero, List.set_cons_succ, i64_w, i32_w]
                                                                  rfl
                                                                refine take_ (i := 53) (N := some 155) (v := ?_) (a' := ?_) #[true, true, true, true, true, true, true, true, true, true, true, true, true, true, true, true, true, true, true, true, true, true, true, true, true, true, true, true, true, true, true, true, true, true, true, true, true, true, true, true, true, true, true, true, true, true, true, true, true, true, true, true, true, true, false, false] rfl rfl (take_ofW HT_.out HW_.out (by kernel_rfl)) (fun _ _ _ h => h) (Or.inl ⟨by rfl, ?_⟩) hHeld ?_ ?_
                                                                rotate_left
                                                                · rintro w' ⟨s0, s1, s2, s3, s4, s5, s6, s7, s8, s9, s10, s11, s12, s13, s14, s15, s16, s17, s18, s19, s20, s21, s22, s23, s24⟩
                                                                  go_simp
                                                                  with_reducible rfl
                                                                rotate_left
                                                                · simp only [Act.put, List.setIfInBounds_toArray, List.set_cons_zero, List.set_cons_succ, i64_w, i32_w]
                                                                  rfl
                                                                refine pure_ (i := 54) (N := some 156) (v := ?_) (a' := ?_) #[true, true, true, true, true, true, true, true, true, true, true, true, true, true, true, true, true, true, true, true, true, true, true, true, true, true, true, true, true, true, true, true, true, true, true, true, true, true, true, true, true, true, true, true, true, true, true, true, true, true, true, true, true, true, true, false] rfl rfl (any_of HT_.out (by kernel_rfl)) (fun _ _ _ h => h) (Or.inl ⟨by rfl, ?_⟩) ?_ ?_
                                                                rotate_left
                                                                · intro w'
                                                                  go_simp
                                                                  with_reducible rfl
                                                                rotate_left
                                                                · simp only [Act.put, List.setIfInBounds_toArray, List.set_cons_zero, List.set_cons_succ, i64_w, i32_w]
                                                                  rfl
                                                                refine pure_ (i := 55) (N := some 157) (v := ?_) (a' := ?_) #[true, true, true, true, true, true, true, true, true, true, true, true, true, true, true, true, true, true, true, true, true, true, true, true, true, true, true, true, true, true, true, true, true, true, true, true, true, true, true, true, true, true, true, true, true, true, true, true, true, true, true, true, true, true, true, true] rfl rfl (any_of HT_.out (by kernel_rfl)) (fun _ _ _ h => h) (Or.inl ⟨by rfl, ?_⟩) ?_ ?_
                                                                rotate_left
                                                                · intro w'
                                                                  go_simp
                                                                  with_reducible rfl
                                                                rotate_left
                                                                · simp only [Act.put, List.setIfInBounds_toArray, List.set_cons_zero, List.set_cons_succ, i64_w, i32_w]
                                                                  rfl
                                                                refine done_ (done_of HT_.out (by kernel_rfl)) ?_
                                                                try go_wp2
                                                                go_roundg k6
                                                                case measure => have := HJ2.out; have := HK2.out; have := HJ21.out; have := HJ33.out; have := HK5.out; have := HK6.out; omega
                                                                case rel => exact ⟨(wrap64 (x10_5 + x13_6)), (wrap64 (x75_5 + 1)), (by first | rfl | (simp; done) | (simp [*]; done)), (by first | rfl | (simp; done) | (simp [*]; done)), H', ⟨by have := HJ2.out; have := HK2.out; have := HJ21.out; have := HJ33.out; have := HK5.out; have := HK6.out; omega⟩, ⟨by (with_reducible repeat (first | apply Kd.V_alloc | apply Kd.V_drewN | apply Kd.V_drew)); exact Kd.V_mono HO_0.out (fun _ hk => ⟨hk.1, ⟨hk.2.1, ⟨hk.2.2.1, hk.2.2.2.2.1⟩⟩⟩)⟩, ⟨by (with_reducible repeat (first | apply Kd.R_alloc | apply Kd.R_drewN | apply Kd.R_drew)); exact Kd.R_mono HO_7.out (fun _ hk => hk.1)⟩, ⟨by (with_reducible repeat (first | apply Kd.R_alloc | apply Kd.R_drewN | apply Kd.R_drew)); exact Kd.R_mono HO_73.out (fun _ hk => hk.1)⟩, ⟨by (with_reducible repeat (first | refine blk_drewN ?_ _ | refine blk_drew ?_ | refine blk_alloc ?_ _)); exact BK239.out⟩, ⟨by repeat (first | (with_reducible first | exact HB.out | apply below_alloc | apply pw_below_drewN | apply below_drew1 | refine below_set ?_ GE239.out | refine below_set ?_ GE252.out) | exact HB.out)⟩⟩
                                                              · rw [if_neg c74] at H
                                                                exact absurd H (by simp)
                                                            · rw [if_neg c73] at H
                                                              exact absurd H (by simp)
                                                          · rw [if_neg c72] at H
                                                            exact absurd H (by simp)
                                                        · rw [if_neg c71] at H
                                                          exact absurd H (by simp)
                                                      · rw [if_neg c70] at H
                                                        exact absurd H (by simp)
                                                    · rw [if_neg c69] at H
                                                      exact absurd H (by simp)
                                                  · rw [if_neg c68] at H
                                                    exact absurd H (by simp)
                                      · rw [if_neg c44] at H
                                        exact absurd H (by simp)
                                    · rw [if_neg c43] at H
                                      exact absurd H (by simp)
                                  · rw [if_neg c42] at H
                                    have c42b0 : decide (x75_5 < (x7_21.length : Int)) = false := decide_eq_false c42
                                    clear c42
                                    replace H := Option.bind_eq_some_iff.mp H
                                    obtain ⟨t250, A770, H⟩ := H
                                    replace H : (if x10_5 = t250 then (estoverslaw19_AccountsLimits.l0 k5 x7_21 l1 (l1.length : Int) (wrap64 (x36_2 + 1))) else (none)) = some r := H
                                    have A77 := Aside0.mk A770
                                    clear A770
                                    by_cases c78 : x10_5 = t250
                                    · rw [if_pos c78] at H
                                      have c78b0 : (x10_5 == t250) = true := beq_iff_eq.mpr c78
                                      have c78b1 : (x10_5 != t250) = false := bne_eq_false_iff_eq.mpr c78
                                      clear c78
                                      have H' := Aside0.mk H
                                      clear H
                                      go_wp2_with (first | ((with_reducible refine gate_callee (f := 29) rfl ?_); refine goesL_ (some 164) rfl rfl Try.func29 (by kernel_rfl) rfl #[.slice Ao41 x7_21.length co41] rfl (by (try simp only [List.map_toArray, List.map_cons, List.map_nil]); first | done | rfl | (simp only [List.length_drop, List.length_take]; rfl)) ?_; (with_reducible refine (accounts_Total.calls k5 _ _ x7_21 t250 _ ?side1 ?side2 A77.out).mono ?_); (case side1 => repeat (first | exact (Kd.R_reads' HO_7.out).2.2 | (with_reducible refine Kd.C_alloc ?_ _) | (with_reducible refine Kd.C_drewN ?_ _) | (with_reducible refine Kd.C_drew ?_))); (case side2 => exact (Kd.R_reads' HO_7.out).2.1); rintro e w79 ⟨rfl, hb⟩; refine ⟨_, rfl, ?_⟩; have n0_ := Aside0.mk (Kd.V_below (by (with_reducible repeat (first | apply Kd.V_alloc | apply Kd.V_drewN | apply Kd.V_drew)); exact HO_0.out) hb); have n1_ := Aside0.mk (Kd.R_below (by (with_reducible repeat (first | apply Kd.R_alloc | apply Kd.R_drewN | apply Kd.R_drew)); exact HO_7.out) hb); have n2_ := Aside0.mk (Kd.R_below (by (with_reducible repeat (first | apply Kd.R_alloc | apply Kd.R_drewN | apply Kd.R_drew)); exact HO_73.out) hb); have n3_ := Aside0.mk (blk_below (g := gb239) (o := .cells #[.bool ((rd_T52 l1 x36_2).f0), .int .i64 ((rd_T52 l1 x36_2).f1), .int .i64 ((rd_T52 l1 x36_2).f2)] 52 (0, 0)) (by (with_reducible repeat (first | refine blk_drewN ?_ _ | refine blk_drew ?_ | refine blk_alloc ?_ _)); exact BK239.out) hb); have n4_ := Aside0.mk (below_step (by repeat (first | (with_reducible first | exact HB.out | apply below_alloc | apply pw_below_drewN | apply below_drew1 | refine below_set ?_ GE239.out) | exact HB.out)) hb); clear HO_0; clear HO_7; clear HO_73; clear BK239; clear HB; have HO_0 := n0_; have HO_7 := n1_; have HO_73 := n2_; have BK239 := n3_; have HB := n4_; clear n0_ n1_ n2_ n3_ n4_; (try clear hb); (try clear hb2); (try clear hk); (try clear hi)))
                                      go_roundg k5
                                      case measure => have := HJ2.out; have := HK2.out; have := HJ21.out; have := HJ33.out; have := HK5.out; omega
                                      case rel => exact ⟨(x7_21), (wrap64 (x36_2 + 1)), (by first | rfl | (simp; done) | (simp [*]; done)), H', ⟨by have := HJ2.out; have := HK2.out; have := HJ21.out; have := HJ33.out; have := HK5.out; omega⟩, ⟨Kd.V_mono (Kd.R_V (by (with_reducible repeat (first | apply Kd.R_alloc | apply Kd.R_drewN | apply Kd.R_drew)); exact HO_7.out)) (fun k_ hk => by first | exact ⟨(.inr (hk.1)), hk.2⟩ | exact (.inr (hk)))⟩, ⟨by repeat (first | (with_reducible first | exact HB.out | apply below_alloc | apply pw_below_drewN | apply below_drew1 | refine below_set ?_ GE239.out) | exact HB.out)⟩⟩
                                    · rw [if_neg c78] at H
                                      exact absurd H (by simp)
                      · rw [if_neg c33] at H
                        have c33b0 : (x9_21 == 0) = false := beq_eq_false_iff_ne.mpr c33
                        have c33b1 : (x9_21 != 0) = true := bne_iff_ne.mpr c33
                        have H' := Aside0.mk H
                        clear H
                        go_wp2
                        go_roundg kj21
                        case measure => have := HJ2.out; have := HK2.out; have := HJ21.out; omega
                        case rel => exact ⟨(x0_2), (wrap64 (x36_2 + 1)), (by first | rfl | (simp; done) | (simp [*]; done)), H', ⟨by have := HJ2.out; have := HK2.out; have := HJ21.out; omega⟩, ⟨by (with_reducible repeat (first | apply Kd.V_alloc | apply Kd.V_drewN | apply Kd.V_drew)); exact Kd.V_mono HO_0.out (fun _ hk => hk.1)⟩, ⟨by repeat (first | (with_reducible first | exact HB.out | apply below_alloc | apply pw_below_drewN | apply below_drew1 | refine below_set ?_ GE239.out) | exact HB.out)⟩⟩
                · rw [if_neg c20] at H
                  exact absurd H (by simp)
              · rw [if_neg c19] at H
                exact absurd H (by simp)
            · rw [if_neg c18] at H
              have c18b0 : decide (x36_2 < (l1.length : Int)) = false := decide_eq_false c18
              clear c18
              obtain rfl := Option.some.inj H
              go_wp2
              go_ret
              exact ⟨by first | rfl | (simp [errW_none, errW_some] <;> rfl) | (simp [*, errW_none, errW_some] <;> rfl), by repeat (first | (with_reducible first | exact HB.out | apply below_alloc | apply pw_below_drewN | apply below_drew1) | exact HB.out)⟩

end Go.Proofs.Ytpomppjeknmciaa.PAccountsLimits
