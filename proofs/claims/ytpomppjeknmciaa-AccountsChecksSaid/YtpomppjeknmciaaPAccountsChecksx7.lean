-- Printed by a copy of the kit's printer that this session has patched (wip/tools/patch_print.py): the session's own text. Lean checks it.
import Derived.Test.YtpomppjeknmciaaPAccountsChecksx0
import Derived.Test.YtpomppjeknmciaaPAccountsChecksx2
import Derived.Test.YtpomppjeknmciaaPAccountsChecksx4
import Derived.Test.YtpomppjeknmciaaPAccountsChecksx5
import Derived.Test.YtpomppjeknmciaaPAccountsChecksx6
namespace Go.Proofs.Ytpomppjeknmciaa.PAccountsChecks
open Go.RowKit Go.Proofs.YtpomppjeknmciaaW.PrintWords Go.Proofs.YtpomppjeknmciaaW.PrintLast Go.Proofs.YtpomppjeknmciaaW.PrintMore
attribute [local go_sem] max2_int min2_int max_two min_two max_three min_three max_four min_four   -- for this text's walks alone
set_option linter.unusedVariables false
set_option linter.unusedSimpArgs false

/-! ### estoverslaw19_awake: function 26 -/
def estoverslaw19_awake.f (k : Nat)  : Option (Bool) := (estoverslaw19_three.f).bind fun t220 => ((accounts_Path.f k t220 2).bind fun t223 => ((accounts_Margin.f k t220 2).bind fun bt226 => ((accounts_Charge.f k t220 2 2).bind fun bt229 => ((accounts_Charge.f k t220 2 3).bind fun bt234 => ((accounts_Uncharge.f k t220 1 2).bind fun bt239 => ((accounts_Check.f k t220).bind fun t243 => (if t243 = 0 then (if (t223.length : Int) = 3 then (if 0 < (t223.length : Int) then (if (rd t223 0) = 2 then (if 1 < (t223.length : Int) then (if (rd t223 1) = 1 then (if 2 < (t223.length : Int) then (if (rd t223 2) = 0 then ((accounts_Own.f k t220 0).bind fun t247 => (if t247 = 1 then ((accounts_Own.f k t220 2).bind fun t248 => (if t248 = 3 then (if bt226.1 = 2 then (if bt226.2.1 = 1 then (if bt226.2.2 = 0 then (if (bt229.1.length : Int) = 3 then (if 0 < (bt229.1.length : Int) then (if ((rd_T43 bt229.1 0).f1) = 7 then (if 1 < (bt229.1.length : Int) then (if ((rd_T43 bt229.1 1).f1) = 6 then (if 2 < (bt229.1.length : Int) then (if ((rd_T43 bt229.1 2).f1) = 5 then (if bt229.2.1 = (-1) then (if bt229.2.2 = 0 then (if bt234.2.1 = 1 then (if bt234.2.2 = 17 then (if bt239.2 = 11 then ((accounts_Total.f k t220).bind fun t252 => (if t252 = 5 then ((accounts_Inside.f k t220 2 1).bind fun t253 => (if t253 = true then ((accounts_Inside.f k t220 1 2).bind fun t254 => (some (!t254))) else (none))) else (none))) else (none)) else (none)) else (none)) else (none)) else (none)) else (none)) else (none)) else (none)) else (none)) else (none)) else (none)) else (none)) else (none)) else (none)) else (none)) else (none))) else (none))) else (none)) else (none)) else (none)) else (none)) else (none)) else (none)) else (none)) else (none))))))))
theorem estoverslaw19_awake.mono : ∀ k, LeO (estoverslaw19_awake.f k ) (estoverslaw19_awake.f (k + 1) ) := by
  intro  k
  unfold estoverslaw19_awake.f
  repeat' first
      | (with_reducible exact accounts_Charge.mono _ _ _ _)
      | (with_reducible exact accounts_Check.mono _ _)
      | (with_reducible exact accounts_Inside.mono _ _ _ _)
      | (with_reducible exact accounts_Margin.mono _ _ _)
      | (with_reducible exact accounts_Own.mono _ _ _)
      | (with_reducible exact accounts_Path.mono _ _ _)
      | (with_reducible exact accounts_Total.mono _ _)
      | (with_reducible exact accounts_Uncharge.mono _ _ _ _)
      | (with_reducible exact LeO.refl _)
      | (with_reducible exact LeO.none _)
      | (with_reducible refine LeO.ite ?_ ?_)
      | (with_reducible refine LeO.bind ?_ (fun _ => ?_))
      | exact accounts_Charge.mono _ _ _ _
      | exact accounts_Check.mono _ _
      | exact accounts_Inside.mono _ _ _ _
      | exact accounts_Margin.mono _ _ _
      | exact accounts_Own.mono _ _ _
      | exact accounts_Path.mono _ _ _
      | exact accounts_Total.mono _ _
      | exact accounts_Uncharge.mono _ _ _ _
      | exact LeO.none _
      | refine LeO.ite ?_ ?_
      | refine LeO.bind ?_ (fun _ => ?_)
set_option maxHeartbeats 8000000 in
set_option maxRecDepth 100000 in
theorem estoverslaw19_awake.calls (k : Nat)  (r : Bool) (w : World) (h : estoverslaw19_awake.f k  = some r) :
    Calls Try.prog 26 #[] w fun e w' => e = .returned (.bool r) ∧ Below w.heap.size w w' := by
  have HB := Aside0.mk (Below.refl w.heap.size w)
  have H : ((estoverslaw19_three.f).bind fun t220 => ((accounts_Path.f k t220 2).bind fun t223 => ((accounts_Margin.f k t220 2).bind fun bt226 => ((accounts_Charge.f k t220 2 2).bind fun bt229 => ((accounts_Charge.f k t220 2 3).bind fun bt234 => ((accounts_Uncharge.f k t220 1 2).bind fun bt239 => ((accounts_Check.f k t220).bind fun t243 => (if t243 = 0 then (if (t223.length : Int) = 3 then (if 0 < (t223.length : Int) then (if (rd t223 0) = 2 then (if 1 < (t223.length : Int) then (if (rd t223 1) = 1 then (if 2 < (t223.length : Int) then (if (rd t223 2) = 0 then ((accounts_Own.f k t220 0).bind fun t247 => (if t247 = 1 then ((accounts_Own.f k t220 2).bind fun t248 => (if t248 = 3 then (if bt226.1 = 2 then (if bt226.2.1 = 1 then (if bt226.2.2 = 0 then (if (bt229.1.length : Int) = 3 then (if 0 < (bt229.1.length : Int) then (if ((rd_T43 bt229.1 0).f1) = 7 then (if 1 < (bt229.1.length : Int) then (if ((rd_T43 bt229.1 1).f1) = 6 then (if 2 < (bt229.1.length : Int) then (if ((rd_T43 bt229.1 2).f1) = 5 then (if bt229.2.1 = (-1) then (if bt229.2.2 = 0 then (if bt234.2.1 = 1 then (if bt234.2.2 = 17 then (if bt239.2 = 11 then ((accounts_Total.f k t220).bind fun t252 => (if t252 = 5 then ((accounts_Inside.f k t220 2 1).bind fun t253 => (if t253 = true then ((accounts_Inside.f k t220 1 2).bind fun t254 => (some (!t254))) else (none))) else (none))) else (none)) else (none)) else (none)) else (none)) else (none)) else (none)) else (none)) else (none)) else (none)) else (none)) else (none)) else (none)) else (none)) else (none)) else (none)) else (none))) else (none))) else (none)) else (none)) else (none)) else (none)) else (none)) else (none)) else (none)) else (none))))))))) = some r := h
  clear h
  replace H := Option.bind_eq_some_iff.mp H
  obtain ⟨t220, A10, H⟩ := H
  replace H : ((accounts_Path.f k t220 2).bind fun t223 => ((accounts_Margin.f k t220 2).bind fun bt226 => ((accounts_Charge.f k t220 2 2).bind fun bt229 => ((accounts_Charge.f k t220 2 3).bind fun bt234 => ((accounts_Uncharge.f k t220 1 2).bind fun bt239 => ((accounts_Check.f k t220).bind fun t243 => (if t243 = 0 then (if (t223.length : Int) = 3 then (if 0 < (t223.length : Int) then (if (rd t223 0) = 2 then (if 1 < (t223.length : Int) then (if (rd t223 1) = 1 then (if 2 < (t223.length : Int) then (if (rd t223 2) = 0 then ((accounts_Own.f k t220 0).bind fun t247 => (if t247 = 1 then ((accounts_Own.f k t220 2).bind fun t248 => (if t248 = 3 then (if bt226.1 = 2 then (if bt226.2.1 = 1 then (if bt226.2.2 = 0 then (if (bt229.1.length : Int) = 3 then (if 0 < (bt229.1.length : Int) then (if ((rd_T43 bt229.1 0).f1) = 7 then (if 1 < (bt229.1.length : Int) then (if ((rd_T43 bt229.1 1).f1) = 6 then (if 2 < (bt229.1.length : Int) then (if ((rd_T43 bt229.1 2).f1) = 5 then (if bt229.2.1 = (-1) then (if bt229.2.2 = 0 then (if bt234.2.1 = 1 then (if bt234.2.2 = 17 then (if bt239.2 = 11 then ((accounts_Total.f k t220).bind fun t252 => (if t252 = 5 then ((accounts_Inside.f k t220 2 1).bind fun t253 => (if t253 = true then ((accounts_Inside.f k t220 1 2).bind fun t254 => (some (!t254))) else (none))) else (none))) else (none)) else (none)) else (none)) else (none)) else (none)) else (none)) else (none)) else (none)) else (none)) else (none)) else (none)) else (none)) else (none)) else (none)) else (none)) else (none))) else (none))) else (none)) else (none)) else (none)) else (none)) else (none)) else (none)) else (none)) else (none)))))))) = some r := H
  have A1 := Aside0.mk A10
  clear A10
  replace H := Option.bind_eq_some_iff.mp H
  obtain ⟨t223, A20, H⟩ := H
  replace H : ((accounts_Margin.f k t220 2).bind fun bt226 => ((accounts_Charge.f k t220 2 2).bind fun bt229 => ((accounts_Charge.f k t220 2 3).bind fun bt234 => ((accounts_Uncharge.f k t220 1 2).bind fun bt239 => ((accounts_Check.f k t220).bind fun t243 => (if t243 = 0 then (if (t223.length : Int) = 3 then (if 0 < (t223.length : Int) then (if (rd t223 0) = 2 then (if 1 < (t223.length : Int) then (if (rd t223 1) = 1 then (if 2 < (t223.length : Int) then (if (rd t223 2) = 0 then ((accounts_Own.f k t220 0).bind fun t247 => (if t247 = 1 then ((accounts_Own.f k t220 2).bind fun t248 => (if t248 = 3 then (if bt226.1 = 2 then (if bt226.2.1 = 1 then (if bt226.2.2 = 0 then (if (bt229.1.length : Int) = 3 then (if 0 < (bt229.1.length : Int) then (if ((rd_T43 bt229.1 0).f1) = 7 then (if 1 < (bt229.1.length : Int) then (if ((rd_T43 bt229.1 1).f1) = 6 then (if 2 < (bt229.1.length : Int) then (if ((rd_T43 bt229.1 2).f1) = 5 then (if bt229.2.1 = (-1) then (if bt229.2.2 = 0 then (if bt234.2.1 = 1 then (if bt234.2.2 = 17 then (if bt239.2 = 11 then ((accounts_Total.f k t220).bind fun t252 => (if t252 = 5 then ((accounts_Inside.f k t220 2 1).bind fun t253 => (if t253 = true then ((accounts_Inside.f k t220 1 2).bind fun t254 => (some (!t254))) else (none))) else (none))) else (none)) else (none)) else (none)) else (none)) else (none)) else (none)) else (none)) else (none)) else (none)) else (none)) else (none)) else (none)) else (none)) else (none)) else (none)) else (none))) else (none))) else (none)) else (none)) else (none)) else (none)) else (none)) else (none)) else (none)) else (none))))))) = some r := H
  have A2 := Aside0.mk A20
  clear A20
  replace H := Option.bind_eq_some_iff.mp H
  obtain ⟨⟨t226, t227, t228⟩, A30, H⟩ := H
  replace H : ((accounts_Charge.f k t220 2 2).bind fun bt229 => ((accounts_Charge.f k t220 2 3).bind fun bt234 => ((accounts_Uncharge.f k t220 1 2).bind fun bt239 => ((accounts_Check.f k t220).bind fun t243 => (if t243 = 0 then (if (t223.length : Int) = 3 then (if 0 < (t223.length : Int) then (if (rd t223 0) = 2 then (if 1 < (t223.length : Int) then (if (rd t223 1) = 1 then (if 2 < (t223.length : Int) then (if (rd t223 2) = 0 then ((accounts_Own.f k t220 0).bind fun t247 => (if t247 = 1 then ((accounts_Own.f k t220 2).bind fun t248 => (if t248 = 3 then (if t226 = 2 then (if t227 = 1 then (if t228 = 0 then (if (bt229.1.length : Int) = 3 then (if 0 < (bt229.1.length : Int) then (if ((rd_T43 bt229.1 0).f1) = 7 then (if 1 < (bt229.1.length : Int) then (if ((rd_T43 bt229.1 1).f1) = 6 then (if 2 < (bt229.1.length : Int) then (if ((rd_T43 bt229.1 2).f1) = 5 then (if bt229.2.1 = (-1) then (if bt229.2.2 = 0 then (if bt234.2.1 = 1 then (if bt234.2.2 = 17 then (if bt239.2 = 11 then ((accounts_Total.f k t220).bind fun t252 => (if t252 = 5 then ((accounts_Inside.f k t220 2 1).bind fun t253 => (if t253 = true then ((accounts_Inside.f k t220 1 2).bind fun t254 => (some (!t254))) else (none))) else (none))) else (none)) else (none)) else (none)) else (none)) else (none)) else (none)) else (none)) else (none)) else (none)) else (none)) else (none)) else (none)) else (none)) else (none)) else (none)) else (none))) else (none))) else (none)) else (none)) else (none)) else (none)) else (none)) else (none)) else (none)) else (none)))))) = some r := H
  have A3 := Aside0.mk A30
  clear A30
  replace H := Option.bind_eq_some_iff.mp H
  obtain ⟨⟨t229, t230, t231⟩, A40, H⟩ := H
  replace H : ((accounts_Charge.f k t220 2 3).bind fun bt234 => ((accounts_Uncharge.f k t220 1 2).bind fun bt239 => ((accounts_Check.f k t220).bind fun t243 => (if t243 = 0 then (if (t223.length : Int) = 3 then (if 0 < (t223.length : Int) then (if (rd t223 0) = 2 then (if 1 < (t223.length : Int) then (if (rd t223 1) = 1 then (if 2 < (t223.length : Int) then (if (rd t223 2) = 0 then ((accounts_Own.f k t220 0).bind fun t247 => (if t247 = 1 then ((accounts_Own.f k t220 2).bind fun t248 => (if t248 = 3 then (if t226 = 2 then (if t227 = 1 then (if t228 = 0 then (if (t229.length : Int) = 3 then (if 0 < (t229.length : Int) then (if ((rd_T43 t229 0).f1) = 7 then (if 1 < (t229.length : Int) then (if ((rd_T43 t229 1).f1) = 6 then (if 2 < (t229.length : Int) then (if ((rd_T43 t229 2).f1) = 5 then (if t230 = (-1) then (if t231 = 0 then (if bt234.2.1 = 1 then (if bt234.2.2 = 17 then (if bt239.2 = 11 then ((accounts_Total.f k t220).bind fun t252 => (if t252 = 5 then ((accounts_Inside.f k t220 2 1).bind fun t253 => (if t253 = true then ((accounts_Inside.f k t220 1 2).bind fun t254 => (some (!t254))) else (none))) else (none))) else (none)) else (none)) else (none)) else (none)) else (none)) else (none)) else (none)) else (none)) else (none)) else (none)) else (none)) else (none)) else (none)) else (none)) else (none)) else (none))) else (none))) else (none)) else (none)) else (none)) else (none)) else (none)) else (none)) else (none)) else (none))))) = some r := H
  have A4 := Aside0.mk A40
  clear A40
  replace H := Option.bind_eq_some_iff.mp H
  obtain ⟨⟨t234, t235, t236⟩, A50, H⟩ := H
  replace H : ((accounts_Uncharge.f k t220 1 2).bind fun bt239 => ((accounts_Check.f k t220).bind fun t243 => (if t243 = 0 then (if (t223.length : Int) = 3 then (if 0 < (t223.length : Int) then (if (rd t223 0) = 2 then (if 1 < (t223.length : Int) then (if (rd t223 1) = 1 then (if 2 < (t223.length : Int) then (if (rd t223 2) = 0 then ((accounts_Own.f k t220 0).bind fun t247 => (if t247 = 1 then ((accounts_Own.f k t220 2).bind fun t248 => (if t248 = 3 then (if t226 = 2 then (if t227 = 1 then (if t228 = 0 then (if (t229.length : Int) = 3 then (if 0 < (t229.length : Int) then (if ((rd_T43 t229 0).f1) = 7 then (if 1 < (t229.length : Int) then (if ((rd_T43 t229 1).f1) = 6 then (if 2 < (t229.length : Int) then (if ((rd_T43 t229 2).f1) = 5 then (if t230 = (-1) then (if t231 = 0 then (if t235 = 1 then (if t236 = 17 then (if bt239.2 = 11 then ((accounts_Total.f k t220).bind fun t252 => (if t252 = 5 then ((accounts_Inside.f k t220 2 1).bind fun t253 => (if t253 = true then ((accounts_Inside.f k t220 1 2).bind fun t254 => (some (!t254))) else (none))) else (none))) else (none)) else (none)) else (none)) else (none)) else (none)) else (none)) else (none)) else (none)) else (none)) else (none)) else (none)) else (none)) else (none)) else (none)) else (none)) else (none))) else (none))) else (none)) else (none)) else (none)) else (none)) else (none)) else (none)) else (none)) else (none)))) = some r := H
  have A5 := Aside0.mk A50
  clear A50
  replace H := Option.bind_eq_some_iff.mp H
  obtain ⟨⟨t239, t240⟩, A60, H⟩ := H
  replace H : ((accounts_Check.f k t220).bind fun t243 => (if t243 = 0 then (if (t223.length : Int) = 3 then (if 0 < (t223.length : Int) then (if (rd t223 0) = 2 then (if 1 < (t223.length : Int) then (if (rd t223 1) = 1 then (if 2 < (t223.length : Int) then (if (rd t223 2) = 0 then ((accounts_Own.f k t220 0).bind fun t247 => (if t247 = 1 then ((accounts_Own.f k t220 2).bind fun t248 => (if t248 = 3 then (if t226 = 2 then (if t227 = 1 then (if t228 = 0 then (if (t229.length : Int) = 3 then (if 0 < (t229.length : Int) then (if ((rd_T43 t229 0).f1) = 7 then (if 1 < (t229.length : Int) then (if ((rd_T43 t229 1).f1) = 6 then (if 2 < (t229.length : Int) then (if ((rd_T43 t229 2).f1) = 5 then (if t230 = (-1) then (if t231 = 0 then (if t235 = 1 then (if t236 = 17 then (if t240 = 11 then ((accounts_Total.f k t220).bind fun t252 => (if t252 = 5 then ((accounts_Inside.f k t220 2 1).bind fun t253 => (if t253 = true then ((accounts_Inside.f k t220 1 2).bind fun t254 => (some (!t254))) else (none))) else (none))) else (none)) else (none)) else (none)) else (none)) else (none)) else (none)) else (none)) else (none)) else (none)) else (none)) else (none)) else (none)) else (none)) else (none)) else (none)) else (none))) else (none))) else (none)) else (none)) else (none)) else (none)) else (none)) else (none)) else (none)) else (none))) = some r := H
  have A6 := Aside0.mk A60
  clear A60
  replace H := Option.bind_eq_some_iff.mp H
  obtain ⟨t243, A70, H⟩ := H
  replace H : (if t243 = 0 then (if (t223.length : Int) = 3 then (if 0 < (t223.length : Int) then (if (rd t223 0) = 2 then (if 1 < (t223.length : Int) then (if (rd t223 1) = 1 then (if 2 < (t223.length : Int) then (if (rd t223 2) = 0 then ((accounts_Own.f k t220 0).bind fun t247 => (if t247 = 1 then ((accounts_Own.f k t220 2).bind fun t248 => (if t248 = 3 then (if t226 = 2 then (if t227 = 1 then (if t228 = 0 then (if (t229.length : Int) = 3 then (if 0 < (t229.length : Int) then (if ((rd_T43 t229 0).f1) = 7 then (if 1 < (t229.length : Int) then (if ((rd_T43 t229 1).f1) = 6 then (if 2 < (t229.length : Int) then (if ((rd_T43 t229 2).f1) = 5 then (if t230 = (-1) then (if t231 = 0 then (if t235 = 1 then (if t236 = 17 then (if t240 = 11 then ((accounts_Total.f k t220).bind fun t252 => (if t252 = 5 then ((accounts_Inside.f k t220 2 1).bind fun t253 => (if t253 = true then ((accounts_Inside.f k t220 1 2).bind fun t254 => (some (!t254))) else (none))) else (none))) else (none)) else (none)) else (none)) else (none)) else (none)) else (none)) else (none)) else (none)) else (none)) else (none)) else (none)) else (none)) else (none)) else (none)) else (none)) else (none))) else (none))) else (none)) else (none)) else (none)) else (none)) else (none)) else (none)) else (none)) else (none)) = some r := H
  have A7 := Aside0.mk A70
  clear A70
  by_cases c8 : t243 = 0
  · rw [if_pos c8] at H
    have c8b0 : (t243 == 0) = true := beq_iff_eq.mpr c8
    have c8b1 : (t243 != 0) = false := bne_eq_false_iff_eq.mpr c8
    clear c8
    by_cases c9 : (t223.length : Int) = 3
    · rw [if_pos c9] at H
      have c9b0 : ((t223.length : Int) == 3) = true := beq_iff_eq.mpr c9
      have c9b1 : ((t223.length : Int) != 3) = false := bne_eq_false_iff_eq.mpr c9
      clear c9
      by_cases c10 : 0 < (t223.length : Int)
      · rw [if_pos c10] at H
        have c10b0 : decide (0 < (t223.length : Int)) = true := decide_eq_true c10
        have c10b1 : decide (0 < t223.length) = true := decide_eq_true (by omega)
        clear c10
        by_cases c11 : (rd t223 0) = 2
        · rw [if_pos c11] at H
          have c11b0 : ((rd t223 0) == 2) = true := beq_iff_eq.mpr c11
          have c11b1 : ((rd t223 0) != 2) = false := bne_eq_false_iff_eq.mpr c11
          clear c11
          by_cases c12 : 1 < (t223.length : Int)
          · rw [if_pos c12] at H
            have c12b0 : decide (1 < (t223.length : Int)) = true := decide_eq_true c12
            have c12b1 : decide (1 < t223.length) = true := decide_eq_true (by omega)
            clear c12
            by_cases c13 : (rd t223 1) = 1
            · rw [if_pos c13] at H
              have c13b0 : ((rd t223 1) == 1) = true := beq_iff_eq.mpr c13
              have c13b1 : ((rd t223 1) != 1) = false := bne_eq_false_iff_eq.mpr c13
              clear c13
              by_cases c14 : 2 < (t223.length : Int)
              · rw [if_pos c14] at H
                have c14b0 : decide (2 < (t223.length : Int)) = true := decide_eq_true c14
                have c14b1 : decide (2 < t223.length) = true := decide_eq_true (by omega)
                clear c14
                by_cases c15 : (rd t223 2) = 0
                · rw [if_pos c15] at H
                  have c15b0 : ((rd t223 2) == 0) = true := beq_iff_eq.mpr c15
                  have c15b1 : ((rd t223 2) != 0) = false := bne_eq_false_iff_eq.mpr c15
                  clear c15
                  replace H := Option.bind_eq_some_iff.mp H
                  obtain ⟨t247, A160, H⟩ := H
                  replace H : (if t247 = 1 then ((accounts_Own.f k t220 2).bind fun t248 => (if t248 = 3 then (if t226 = 2 then (if t227 = 1 then (if t228 = 0 then (if (t229.length : Int) = 3 then (if 0 < (t229.length : Int) then (if ((rd_T43 t229 0).f1) = 7 then (if 1 < (t229.length : Int) then (if ((rd_T43 t229 1).f1) = 6 then (if 2 < (t229.length : Int) then (if ((rd_T43 t229 2).f1) = 5 then (if t230 = (-1) then (if t231 = 0 then (if t235 = 1 then (if t236 = 17 then (if t240 = 11 then ((accounts_Total.f k t220).bind fun t252 => (if t252 = 5 then ((accounts_Inside.f k t220 2 1).bind fun t253 => (if t253 = true then ((accounts_Inside.f k t220 1 2).bind fun t254 => (some (!t254))) else (none))) else (none))) else (none)) else (none)) else (none)) else (none)) else (none)) else (none)) else (none)) else (none)) else (none)) else (none)) else (none)) else (none)) else (none)) else (none)) else (none)) else (none))) else (none)) = some r := H
                  have A16 := Aside0.mk A160
                  clear A160
                  by_cases c17 : t247 = 1
                  · rw [if_pos c17] at H
                    have c17b0 : (t247 == 1) = true := beq_iff_eq.mpr c17
                    have c17b1 : (t247 != 1) = false := bne_eq_false_iff_eq.mpr c17
                    clear c17
                    replace H := Option.bind_eq_some_iff.mp H
                    obtain ⟨t248, A180, H⟩ := H
                    replace H : (if t248 = 3 then (if t226 = 2 then (if t227 = 1 then (if t228 = 0 then (if (t229.length : Int) = 3 then (if 0 < (t229.length : Int) then (if ((rd_T43 t229 0).f1) = 7 then (if 1 < (t229.length : Int) then (if ((rd_T43 t229 1).f1) = 6 then (if 2 < (t229.length : Int) then (if ((rd_T43 t229 2).f1) = 5 then (if t230 = (-1) then (if t231 = 0 then (if t235 = 1 then (if t236 = 17 then (if t240 = 11 then ((accounts_Total.f k t220).bind fun t252 => (if t252 = 5 then ((accounts_Inside.f k t220 2 1).bind fun t253 => (if t253 = true then ((accounts_Inside.f k t220 1 2).bind fun t254 => (some (!t254))) else (none))) else (none))) else (none)) else (none)) else (none)) else (none)) else (none)) else (none)) else (none)) else (none)) else (none)) else (none)) else (none)) else (none)) else (none)) else (none)) else (none)) else (none)) = some r := H
                    have A18 := Aside0.mk A180
                    clear A180
                    by_cases c19 : t248 = 3
                    · rw [if_pos c19] at H
                      have c19b0 : (t248 == 3) = true := beq_iff_eq.mpr c19
                      have c19b1 : (t248 != 3) = false := bne_eq_false_iff_eq.mpr c19
                      clear c19
                      by_cases c20 : t226 = 2
                      · rw [if_pos c20] at H
                        have c20b0 : (t226 == 2) = true := beq_iff_eq.mpr c20
                        have c20b1 : (t226 != 2) = false := bne_eq_false_iff_eq.mpr c20
                        clear c20
                        by_cases c21 : t227 = 1
                        · rw [if_pos c21] at H
                          have c21b0 : (t227 == 1) = true := beq_iff_eq.mpr c21
                          have c21b1 : (t227 != 1) = false := bne_eq_false_iff_eq.mpr c21
                          clear c21
                          by_cases c22 : t228 = 0
                          · rw [if_pos c22] at H
                            have c22b0 : (t228 == 0) = true := beq_iff_eq.mpr c22
                            have c22b1 : (t228 != 0) = false := bne_eq_false_iff_eq.mpr c22
                            clear c22
                            by_cases c23 : (t229.length : Int) = 3
                            · rw [if_pos c23] at H
                              have c23b0 : ((t229.length : Int) == 3) = true := beq_iff_eq.mpr c23
                              have c23b1 : ((t229.length : Int) != 3) = false := bne_eq_false_iff_eq.mpr c23
                              clear c23
                              by_cases c24 : 0 < (t229.length : Int)
                              · rw [if_pos c24] at H
                                have c24b0 : decide (0 < (t229.length : Int)) = true := decide_eq_true c24
                                have c24b1 : decide (0 < t229.length) = true := decide_eq_true (by omega)
                                clear c24
                                by_cases c25 : ((rd_T43 t229 0).f1) = 7
                                · rw [if_pos c25] at H
                                  have c25b0 : (((rd_T43 t229 0).f1) == 7) = true := beq_iff_eq.mpr c25
                                  have c25b1 : (((rd_T43 t229 0).f1) != 7) = false := bne_eq_false_iff_eq.mpr c25
                                  clear c25
                                  by_cases c26 : 1 < (t229.length : Int)
                                  · rw [if_pos c26] at H
                                    have c26b0 : decide (1 < (t229.length : Int)) = true := decide_eq_true c26
                                    have c26b1 : decide (1 < t229.length) = true := decide_eq_true (by omega)
                                    clear c26
                                    by_cases c27 : ((rd_T43 t229 1).f1) = 6
                                    · rw [if_pos c27] at H
                                      have c27b0 : (((rd_T43 t229 1).f1) == 6) = true := beq_iff_eq.mpr c27
                                      have c27b1 : (((rd_T43 t229 1).f1) != 6) = false := bne_eq_false_iff_eq.mpr c27
                                      clear c27
                                      by_cases c28 : 2 < (t229.length : Int)
                                      · rw [if_pos c28] at H
                                        have c28b0 : decide (2 < (t229.length : Int)) = true := decide_eq_true c28
                                        have c28b1 : decide (2 < t229.length) = true := decide_eq_true (by omega)
                                        clear c28
                                        by_cases c29 : ((rd_T43 t229 2).f1) = 5
                                        · rw [if_pos c29] at H
                                          have c29b0 : (((rd_T43 t229 2).f1) == 5) = true := beq_iff_eq.mpr c29
                                          have c29b1 : (((rd_T43 t229 2).f1) != 5) = false := bne_eq_false_iff_eq.mpr c29
                                          clear c29
                                          by_cases c30 : t230 = (-1)
                                          · rw [if_pos c30] at H
                                            have c30b0 : (t230 == (-1)) = true := beq_iff_eq.mpr c30
                                            have c30b1 : (t230 != (-1)) = false := bne_eq_false_iff_eq.mpr c30
                                            clear c30
                                            by_cases c31 : t231 = 0
                                            · rw [if_pos c31] at H
                                              have c31b0 : (t231 == 0) = true := beq_iff_eq.mpr c31
                                              have c31b1 : (t231 != 0) = false := bne_eq_false_iff_eq.mpr c31
                                              clear c31
                                              by_cases c32 : t235 = 1
                                              · rw [if_pos c32] at H
                                                have c32b0 : (t235 == 1) = true := beq_iff_eq.mpr c32
                                                have c32b1 : (t235 != 1) = false := bne_eq_false_iff_eq.mpr c32
                                                clear c32
                                                by_cases c33 : t236 = 17
                                                · rw [if_pos c33] at H
                                                  have c33b0 : (t236 == 17) = true := beq_iff_eq.mpr c33
                                                  have c33b1 : (t236 != 17) = false := bne_eq_false_iff_eq.mpr c33
                                                  clear c33
                                                  by_cases c34 : t240 = 11
                                                  · rw [if_pos c34] at H
                                                    have c34b0 : (t240 == 11) = true := beq_iff_eq.mpr c34
                                                    have c34b1 : (t240 != 11) = false := bne_eq_false_iff_eq.mpr c34
                                                    clear c34
                                                    replace H := Option.bind_eq_some_iff.mp H
                                                    obtain ⟨t252, A350, H⟩ := H
                                                    replace H : (if t252 = 5 then ((accounts_Inside.f k t220 2 1).bind fun t253 => (if t253 = true then ((accounts_Inside.f k t220 1 2).bind fun t254 => (some (!t254))) else (none))) else (none)) = some r := H
                                                    have A35 := Aside0.mk A350
                                                    clear A350
                                                    by_cases c36 : t252 = 5
                                                    · rw [if_pos c36] at H
                                                      have c36b0 : (t252 == 5) = true := beq_iff_eq.mpr c36
                                                      have c36b1 : (t252 != 5) = false := bne_eq_false_iff_eq.mpr c36
                                                      clear c36
                                                      replace H := Option.bind_eq_some_iff.mp H
                                                      obtain ⟨t253, A370, H⟩ := H
                                                      replace H : (if t253 = true then ((accounts_Inside.f k t220 1 2).bind fun t254 => (some (!t254))) else (none)) = some r := H
                                                      have A37 := Aside0.mk A370
                                                      clear A370
                                                      by_cases c38 : t253 = true
                                                      · subst c38
                                                        have H1 : ((accounts_Inside.f k t220 1 2).bind fun t254 => (some (!t254))) = some r := by rw [if_pos rfl] at H; exact H
                                                        clear H
                                                        have H := H1
                                                        clear H1
                                                        replace H := Option.bind_eq_some_iff.mp H
                                                        obtain ⟨t254, A390, H⟩ := H
                                                        replace H : (some (!t254)) = some r := H
                                                        have A39 := Aside0.mk A390
                                                        clear A390
                                                        obtain rfl := Option.some.inj H
                                                        go_enter Try.func26, Try.ntmps26
                                                        (try (go_upto_region 7 with (first | ((with_reducible refine gate_callee (f := 47) rfl ?_); refine goesL_ (some 14) rfl rfl Try.func47 (by kernel_rfl) rfl #[] rfl (by (try simp only [List.map_toArray, List.map_cons, List.map_nil]); first | done | rfl | (simp only [List.length_drop, List.length_take]; rfl)) ?_; (with_reducible refine (estoverslaw19_three.calls  t220 _ A1.out).mono ?_); rintro e w40 ⟨v221, rfl, ho0, hb⟩; refine ⟨_, rfl, ?_⟩; have n0_ := Aside0.mk (Kd.R_lower ho0 (below_size (by repeat (first | (with_reducible first | exact HB.out | apply below_alloc | apply pw_below_drewN | apply below_drew1) | exact HB.out)))); have n1_ := Aside0.mk (below_step (by repeat (first | (with_reducible first | exact HB.out | apply below_alloc | apply pw_below_drewN | apply below_drew1) | exact HB.out)) hb); clear HB; have HO222 := n0_; have HB := n1_; clear n0_ n1_; (try clear hb); (try clear hb2); (try clear hk); (try clear hi); (try clear ho0); obtain ⟨Ao41, co41, eo41⟩ := Kd.R_slice HO222.out; subst eo41) | ((with_reducible refine gate_callee (f := 31) rfl ?_); refine goesL_ (some 16) rfl rfl Try.func31 (by kernel_rfl) rfl #[.slice Ao41 t220.length co41, .int .i64 2] rfl (by (try simp only [List.map_toArray, List.map_cons, List.map_nil]); first | done | rfl | (simp only [List.length_drop, List.length_take]; rfl)) ?_; (with_reducible refine (accounts_Path.calls k _ _ t220 2 t223 _ ?side1 ?side2 A2.out).mono ?_); (case side1 => repeat (first | exact (Kd.R_reads' HO222.out).2.2 | (with_reducible refine Kd.C_alloc ?_ _) | (with_reducible refine Kd.C_drewN ?_ _) | (with_reducible refine Kd.C_drew ?_))); (case side2 => exact (Kd.R_reads' HO222.out).2.1); rintro e w42 ⟨v224, rfl, ho0, hb⟩; refine ⟨_, rfl, ?_⟩; have n0_ := Aside0.mk (Kd.R_below (by (with_reducible repeat (first | apply Kd.R_alloc | apply Kd.R_drewN | apply Kd.R_drew)); exact HO222.out) hb); have n1_ := Aside0.mk (Kd.R_lower ho0 (below_size (by repeat (first | (with_reducible first | exact HB.out | apply below_alloc | apply pw_below_drewN | apply below_drew1) | exact HB.out)))); have n2_ := Aside0.mk (below_step (by repeat (first | (with_reducible first | exact HB.out | apply below_alloc | apply pw_below_drewN | apply below_drew1) | exact HB.out)) hb); clear HO222; clear HB; have HO222 := n0_; have HO225 := n1_; have HB := n2_; clear n0_ n1_ n2_; (try clear hb); (try clear hb2); (try clear hk); (try clear hi); (try clear ho0)) | ((with_reducible refine gate_callee (f := 33) rfl ?_); refine goesL_ (some 19) rfl rfl Try.func33 (by kernel_rfl) rfl #[.slice Ao41 t220.length co41, .int .i64 2] rfl (by (try simp only [List.map_toArray, List.map_cons, List.map_nil]); first | done | rfl | (simp only [List.length_drop, List.length_take]; rfl)) ?_; (with_reducible refine (accounts_Margin.calls k _ _ t220 2 t226 t227 t228 _ ?side1 ?side2 A3.out).mono ?_); (case side1 => repeat (first | exact (Kd.R_reads' HO222.out).2.2 | (with_reducible refine Kd.C_alloc ?_ _) | (with_reducible refine Kd.C_drewN ?_ _) | (with_reducible refine Kd.C_drew ?_))); (case side2 => exact (Kd.R_reads' HO222.out).2.1); rintro e w43 ⟨rfl, hb⟩; refine ⟨_, rfl, ?_⟩; have n0_ := Aside0.mk (Kd.R_below (by (with_reducible repeat (first | apply Kd.R_alloc | apply Kd.R_drewN | apply Kd.R_drew)); exact HO222.out) hb); have n1_ := Aside0.mk (Kd.R_below (by (with_reducible repeat (first | apply Kd.R_alloc | apply Kd.R_drewN | apply Kd.R_drew)); exact HO225.out) hb); have n2_ := Aside0.mk (below_step (by repeat (first | (with_reducible first | exact HB.out | apply below_alloc | apply pw_below_drewN | apply below_drew1) | exact HB.out)) hb); clear HO222; clear HO225; clear HB; have HO222 := n0_; have HO225 := n1_; have HB := n2_; clear n0_ n1_ n2_; (try clear hb); (try clear hb2); (try clear hk); (try clear hi)) | ((with_reducible refine gate_callee (f := 39) rfl ?_); refine goesL_ (some 25) rfl rfl Try.func39 (by kernel_rfl) rfl #[.slice Ao41 t220.length co41, .int .i64 2, .int .i64 2] rfl (by (try simp only [List.map_toArray, List.map_cons, List.map_nil]); first | done | rfl | (simp only [List.length_drop, List.length_take]; rfl)) ?_; (with_reducible refine (accounts_Charge.calls k _ _ t220 2 2 t229 t230 t231 _ ?side1 ?side2 A4.out).mono ?_); (case side1 => repeat (first | exact (Kd.R_reads' HO222.out).2.2 | (with_reducible refine Kd.C_alloc ?_ _) | (with_reducible refine Kd.C_drewN ?_ _) | (with_reducible refine Kd.C_drew ?_))); (case side2 => exact (Kd.R_reads' HO222.out).2.1); rintro e w44 ⟨v232, rfl, ho0, hb⟩; refine ⟨_, rfl, ?_⟩; have n0_ := Aside0.mk (Kd.R_elder' (by (with_reducible repeat (first | apply Kd.R_alloc | apply Kd.R_drewN | apply Kd.R_drew)); exact HO222.out) (Kd.R_base ho0) hb); have n1_ := Aside0.mk (Kd.R_below (by (with_reducible repeat (first | apply Kd.R_alloc | apply Kd.R_drewN | apply Kd.R_drew)); exact HO225.out) hb); have n2_ := Aside0.mk (Kd.R_lower (Kd.R_new' ho0 (Kd.R_lt (by (with_reducible repeat (first | apply Kd.R_alloc | apply Kd.R_drewN | apply Kd.R_drew)); exact HO222.out))) (below_size (by repeat (first | (with_reducible first | exact HB.out | apply below_alloc | apply pw_below_drewN | apply below_drew1) | exact HB.out)))); have n3_ := Aside0.mk (below_step (by repeat (first | (with_reducible first | exact HB.out | apply below_alloc | apply pw_below_drewN | apply below_drew1) | exact HB.out)) hb); clear HO222; clear HO225; clear HB; have HO222 := n0_; have HO225 := n1_; have HO233 := n2_; have HB := n3_; clear n0_ n1_ n2_ n3_; (try clear hb); (try clear hb2); (try clear hk); (try clear hi); (try clear ho0)) | ((with_reducible refine gate_callee (f := 39) rfl ?_); refine goesL_ (some 31) rfl rfl Try.func39 (by kernel_rfl) rfl #[.slice Ao41 t220.length co41, .int .i64 2, .int .i64 3] rfl (by (try simp only [List.map_toArray, List.map_cons, List.map_nil]); first | done | rfl | (simp only [List.length_drop, List.length_take]; rfl)) ?_; (with_reducible refine (accounts_Charge.calls k _ _ t220 2 3 t234 t235 t236 _ ?side1 ?side2 A5.out).mono ?_); (case side1 => repeat (first | exact (Kd.R_reads' HO222.out).2.2 | (with_reducible refine Kd.C_alloc ?_ _) | (with_reducible refine Kd.C_drewN ?_ _) | (with_reducible refine Kd.C_drew ?_))); (case side2 => exact (Kd.R_reads' HO222.out).2.1); rintro e w45 ⟨v237, rfl, ho0, hb⟩; refine ⟨_, rfl, ?_⟩; have n0_ := Aside0.mk (Kd.R_elder' (by (with_reducible repeat (first | apply Kd.R_alloc | apply Kd.R_drewN | apply Kd.R_drew)); exact HO222.out) (Kd.R_base ho0) hb); have n1_ := Aside0.mk (Kd.R_below (by (with_reducible repeat (first | apply Kd.R_alloc | apply Kd.R_drewN | apply Kd.R_drew)); exact HO225.out) hb); have n2_ := Aside0.mk (Kd.R_elder' (by (with_reducible repeat (first | apply Kd.R_alloc | apply Kd.R_drewN | apply Kd.R_drew)); exact HO233.out) (Kd.R_base ho0) hb); have n3_ := Aside0.mk (Kd.R_lower (Kd.R_new' (Kd.R_new' ho0 (Kd.R_lt (by (with_reducible repeat (first | apply Kd.R_alloc | apply Kd.R_drewN | apply Kd.R_drew)); exact HO222.out))) (Kd.R_lt (by (with_reducible repeat (first | apply Kd.R_alloc | apply Kd.R_drewN | apply Kd.R_drew)); exact HO233.out))) (below_size (by repeat (first | (with_reducible first | exact HB.out | apply below_alloc | apply pw_below_drewN | apply below_drew1) | exact HB.out)))); have n4_ := Aside0.mk (below_step (by repeat (first | (with_reducible first | exact HB.out | apply below_alloc | apply pw_below_drewN | apply below_drew1) | exact HB.out)) hb); clear HO222; clear HO225; clear HO233; clear HB; have HO222 := n0_; have HO225 := n1_; have HO233 := n2_; have HO238 := n3_; have HB := n4_; clear n0_ n1_ n2_ n3_ n4_; (try clear hb); (try clear hb2); (try clear hk); (try clear hi); (try clear ho0)) | ((with_reducible refine gate_callee (f := 41) rfl ?_); refine goesL_ (some 37) rfl rfl Try.func41 (by kernel_rfl) rfl #[.slice Ao41 t220.length co41, .int .i64 1, .int .i64 2] rfl (by (try simp only [List.map_toArray, List.map_cons, List.map_nil]); first | done | rfl | (simp only [List.length_drop, List.length_take]; rfl)) ?_; (with_reducible refine (accounts_Uncharge.calls k _ _ t220 1 2 t239 t240 _ ?side1 ?side2 A6.out).mono ?_); (case side1 => repeat (first | exact (Kd.R_reads' HO222.out).2.2 | (with_reducible refine Kd.C_alloc ?_ _) | (with_reducible refine Kd.C_drewN ?_ _) | (with_reducible refine Kd.C_drew ?_))); (case side2 => exact (Kd.R_reads' HO222.out).2.1); rintro e w46 ⟨v241, rfl, ho0, hb⟩; refine ⟨_, rfl, ?_⟩; have n0_ := Aside0.mk (Kd.R_elder' (by (with_reducible repeat (first | apply Kd.R_alloc | apply Kd.R_drewN | apply Kd.R_drew)); exact HO222.out) (Kd.R_base ho0) hb); have n1_ := Aside0.mk (Kd.R_below (by (with_reducible repeat (first | apply Kd.R_alloc | apply Kd.R_drewN | apply Kd.R_drew)); exact HO225.out) hb); have n2_ := Aside0.mk (Kd.R_elder' (by (with_reducible repeat (first | apply Kd.R_alloc | apply Kd.R_drewN | apply Kd.R_drew)); exact HO233.out) (Kd.R_base ho0) hb); have n3_ := Aside0.mk (Kd.R_elder' (by (with_reducible repeat (first | apply Kd.R_alloc | apply Kd.R_drewN | apply Kd.R_drew)); exact HO238.out) (Kd.R_base ho0) hb); have n4_ := Aside0.mk (Kd.R_lower (Kd.R_new' (Kd.R_new' (Kd.R_new' ho0 (Kd.R_lt (by (with_reducible repeat (first | apply Kd.R_alloc | apply Kd.R_drewN | apply Kd.R_drew)); exact HO222.out))) (Kd.R_lt (by (with_reducible repeat (first | apply Kd.R_alloc | apply Kd.R_drewN | apply Kd.R_drew)); exact HO233.out))) (Kd.R_lt (by (with_reducible repeat (first | apply Kd.R_alloc | apply Kd.R_drewN | apply Kd.R_drew)); exact HO238.out))) (below_size (by repeat (first | (with_reducible first | exact HB.out | apply below_alloc | apply pw_below_drewN | apply below_drew1) | exact HB.out)))); have n5_ := Aside0.mk (below_step (by repeat (first | (with_reducible first | exact HB.out | apply below_alloc | apply pw_below_drewN | apply below_drew1) | exact HB.out)) hb); clear HO222; clear HO225; clear HO233; clear HO238; clear HB; have HO222 := n0_; have HO225 := n1_; have HO233 := n2_; have HO238 := n3_; have HO242 := n4_; have HB := n5_; clear n0_ n1_ n2_ n3_ n4_ n5_; (try clear hb); (try clear hb2); (try clear hk); (try clear hi); (try clear ho0)) | ((with_reducible refine gate_callee (f := 28) rfl ?_); refine goesL_ (some 41) rfl rfl Try.func28 (by kernel_rfl) rfl #[.slice Ao41 t220.length co41] rfl (by (try simp only [List.map_toArray, List.map_cons, List.map_nil]); first | done | rfl | (simp only [List.length_drop, List.length_take]; rfl)) ?_; (with_reducible refine (accounts_Check.calls k _ _ t220 t243 _ ?side1 ?side2 A7.out).mono ?_); (case side1 => repeat (first | exact (Kd.R_reads' HO222.out).2.2 | (with_reducible refine Kd.C_alloc ?_ _) | (with_reducible refine Kd.C_drewN ?_ _) | (with_reducible refine Kd.C_drew ?_))); (case side2 => exact (Kd.R_reads' HO222.out).2.1); rintro e w47 ⟨rfl, hb⟩; refine ⟨_, rfl, ?_⟩; have n0_ := Aside0.mk (Kd.R_below (by (with_reducible repeat (first | apply Kd.R_alloc | apply Kd.R_drewN | apply Kd.R_drew)); exact HO222.out) hb); have n1_ := Aside0.mk (Kd.R_below (by (with_reducible repeat (first | apply Kd.R_alloc | apply Kd.R_drewN | apply Kd.R_drew)); exact HO225.out) hb); have n2_ := Aside0.mk (Kd.R_below (by (with_reducible repeat (first | apply Kd.R_alloc | apply Kd.R_drewN | apply Kd.R_drew)); exact HO233.out) hb); have n3_ := Aside0.mk (Kd.R_below (by (with_reducible repeat (first | apply Kd.R_alloc | apply Kd.R_drewN | apply Kd.R_drew)); exact HO238.out) hb); have n4_ := Aside0.mk (Kd.R_below (by (with_reducible repeat (first | apply Kd.R_alloc | apply Kd.R_drewN | apply Kd.R_drew)); exact HO242.out) hb); have n5_ := Aside0.mk (below_step (by repeat (first | (with_reducible first | exact HB.out | apply below_alloc | apply pw_below_drewN | apply below_drew1) | exact HB.out)) hb); clear HO222; clear HO225; clear HO233; clear HO238; clear HO242; clear HB; have HO222 := n0_; have HO225 := n1_; have HO233 := n2_; have HO238 := n3_; have HO242 := n4_; have HB := n5_; clear n0_ n1_ n2_ n3_ n4_ n5_; (try clear hb); (try clear hb2); (try clear hk); (try clear hi); obtain ⟨Ao48, co48, eo48⟩ := Kd.R_slice HO225.out; subst eo48; have p244 : 0 ≤ (0 : Int) := (by omega); have q244 : 0 < (t223.length : Int) := of_decide_eq_true (by first | (with_reducible assumption) | assumption); obtain ⟨ad244, e244, hx244_0⟩ := Kd.at_int (Kd.R_reads' HO225.out).2.2 0 p244 q244; cases e244; have qi244 : (0 < t223.length) = True := eq_true (by omega); (try rw [show ((0 : Int)).toNat = 0 from rfl] at hx244_0); (try rw [Addr.add_zero'] at hx244_0); replace p244 := eq_true p244; replace q244 := eq_true q244; have p245 : 0 ≤ (1 : Int) := (by omega); have q245 : 1 < (t223.length : Int) := of_decide_eq_true (by first | (with_reducible assumption) | assumption); obtain ⟨ad245, e245, hx245_0⟩ := Kd.at_int (Kd.R_reads' HO225.out).2.2 1 p245 q245; obtain rfl : ad244 = ad245 := (by injection e245); (try simp only [show (1 : Int).toNat = 1 from rfl, Nat.reduceMul, Nat.reduceEqDiff, Go.Addr.add, ↓reduceIte] at hx245_0); have qi245 : (1 < t223.length) = True := eq_true (by omega); (try rw [show ((1 : Int)).toNat = 1 from rfl] at hx245_0); replace p245 := eq_true p245; replace q245 := eq_true q245; have p246 : 0 ≤ (2 : Int) := (by omega); have q246 : 2 < (t223.length : Int) := of_decide_eq_true (by first | (with_reducible assumption) | assumption); obtain ⟨ad246, e246, hx246_0⟩ := Kd.at_int (Kd.R_reads' HO225.out).2.2 2 p246 q246; obtain rfl : ad244 = ad246 := (by injection e246); (try simp only [show (2 : Int).toNat = 2 from rfl, Nat.reduceMul, Nat.reduceEqDiff, Go.Addr.add, ↓reduceIte] at hx246_0); have qi246 : (2 < t223.length) = True := eq_true (by omega); (try rw [show ((2 : Int)).toNat = 2 from rfl] at hx246_0); replace p246 := eq_true p246; replace q246 := eq_true q246) | (go_at_call 37; (with_reducible refine (accounts_Own.calls k _ _ t220 0 t247 _ ?side1 ?side2 A16.out).mono ?_); (case side1 => repeat (first | exact (Kd.R_reads' HO222.out).2.2 | (with_reducible refine Kd.C_alloc ?_ _) | (with_reducible refine Kd.C_drewN ?_ _) | (with_reducible refine Kd.C_drew ?_))); (case side2 => exact (Kd.R_reads' HO222.out).2.1); rintro e w49 ⟨rfl, hb⟩; have n0_ := Aside0.mk (Kd.R_below (by (with_reducible repeat (first | apply Kd.R_alloc | apply Kd.R_drewN | apply Kd.R_drew)); exact HO222.out) hb); have n1_ := Aside0.mk (Kd.R_below (by (with_reducible repeat (first | apply Kd.R_alloc | apply Kd.R_drewN | apply Kd.R_drew)); exact HO225.out) hb); have n2_ := Aside0.mk (Kd.R_below (by (with_reducible repeat (first | apply Kd.R_alloc | apply Kd.R_drewN | apply Kd.R_drew)); exact HO233.out) hb); have n3_ := Aside0.mk (Kd.R_below (by (with_reducible repeat (first | apply Kd.R_alloc | apply Kd.R_drewN | apply Kd.R_drew)); exact HO238.out) hb); have n4_ := Aside0.mk (Kd.R_below (by (with_reducible repeat (first | apply Kd.R_alloc | apply Kd.R_drewN | apply Kd.R_drew)); exact HO242.out) hb); have n5_ := Aside0.mk (below_step (by repeat (first | (with_reducible first | exact HB.out | apply below_alloc | apply pw_below_drewN | apply below_drew1) | exact HB.out)) hb); clear HO222; clear HO225; clear HO233; clear HO238; clear HO242; clear HB; have HO222 := n0_; have HO225 := n1_; have HO233 := n2_; have HO238 := n3_; have HO242 := n4_; have HB := n5_; clear n0_ n1_ n2_ n3_ n4_ n5_; (try clear hb); (try clear hb2); (try clear hk); (try clear hi)) | (go_at_call 37; (with_reducible refine (accounts_Own.calls k _ _ t220 2 t248 _ ?side1 ?side2 A18.out).mono ?_); (case side1 => repeat (first | exact (Kd.R_reads' HO222.out).2.2 | (with_reducible refine Kd.C_alloc ?_ _) | (with_reducible refine Kd.C_drewN ?_ _) | (with_reducible refine Kd.C_drew ?_))); (case side2 => exact (Kd.R_reads' HO222.out).2.1); rintro e w50 ⟨rfl, hb⟩; have n0_ := Aside0.mk (Kd.R_below (by (with_reducible repeat (first | apply Kd.R_alloc | apply Kd.R_drewN | apply Kd.R_drew)); exact HO222.out) hb); have n1_ := Aside0.mk (Kd.R_below (by (with_reducible repeat (first | apply Kd.R_alloc | apply Kd.R_drewN | apply Kd.R_drew)); exact HO225.out) hb); have n2_ := Aside0.mk (Kd.R_below (by (with_reducible repeat (first | apply Kd.R_alloc | apply Kd.R_drewN | apply Kd.R_drew)); exact HO233.out) hb); have n3_ := Aside0.mk (Kd.R_below (by (with_reducible repeat (first | apply Kd.R_alloc | apply Kd.R_drewN | apply Kd.R_drew)); exact HO238.out) hb); have n4_ := Aside0.mk (Kd.R_below (by (with_reducible repeat (first | apply Kd.R_alloc | apply Kd.R_drewN | apply Kd.R_drew)); exact HO242.out) hb); have n5_ := Aside0.mk (below_step (by repeat (first | (with_reducible first | exact HB.out | apply below_alloc | apply pw_below_drewN | apply below_drew1) | exact HB.out)) hb); clear HO222; clear HO225; clear HO233; clear HO238; clear HO242; clear HB; have HO222 := n0_; have HO225 := n1_; have HO233 := n2_; have HO238 := n3_; have HO242 := n4_; have HB := n5_; clear n0_ n1_ n2_ n3_ n4_ n5_; (try clear hb); (try clear hb2); (try clear hk); (try clear hi); obtain ⟨Ao51, co51, eo51⟩ := Kd.R_slice HO233.out; subst eo51; have p249 : 0 ≤ (0 : Int) := (by omega); have q249 : 0 < (t229.length : Int) := of_decide_eq_true (by first | (with_reducible assumption) | assumption); obtain ⟨ad249, e249, hx249_0, hx249_1, hx249_2, hx249_3, hx249_4⟩ := at_T43 (Kd.R_reads' HO233.out).2.2 0 p249 q249; cases e249; have qi249 : (0 < t229.length) = True := eq_true (by omega); (try rw [show ((0 : Int)).toNat = 0 from rfl] at hx249_0); (try rw [show 0 * 5 = 0 from rfl] at hx249_0); (try rw [Addr.add_zero'] at hx249_0); (try rw [show ((0 : Int)).toNat = 0 from rfl] at hx249_1); (try rw [show 0 * 5 = 0 from rfl] at hx249_1); (try rw [Addr.add_zero'] at hx249_1); (try rw [show ((0 : Int)).toNat = 0 from rfl] at hx249_2); (try rw [show 0 * 5 = 0 from rfl] at hx249_2); (try rw [Addr.add_zero'] at hx249_2); (try rw [show ((0 : Int)).toNat = 0 from rfl] at hx249_3); (try rw [show 0 * 5 = 0 from rfl] at hx249_3); (try rw [Addr.add_zero'] at hx249_3); (try rw [show ((0 : Int)).toNat = 0 from rfl] at hx249_4); (try rw [show 0 * 5 = 0 from rfl] at hx249_4); (try rw [Addr.add_zero'] at hx249_4); replace p249 := eq_true p249; replace q249 := eq_true q249; have p250 : 0 ≤ (1 : Int) := (by omega); have q250 : 1 < (t229.length : Int) := of_decide_eq_true (by first | (with_reducible assumption) | assumption); obtain ⟨ad250, e250, hx250_0, hx250_1, hx250_2, hx250_3, hx250_4⟩ := at_T43 (Kd.R_reads' HO233.out).2.2 1 p250 q250; obtain rfl : ad249 = ad250 := (by injection e250); (try simp only [show (1 : Int).toNat = 1 from rfl, Nat.reduceMul, Nat.reduceEqDiff, Go.Addr.add, ↓reduceIte] at hx250_0); (try simp only [show (1 : Int).toNat = 1 from rfl, Nat.reduceMul, Nat.reduceEqDiff, Go.Addr.add, ↓reduceIte] at hx250_1); (try simp only [show (1 : Int).toNat = 1 from rfl, Nat.reduceMul, Nat.reduceEqDiff, Go.Addr.add, ↓reduceIte] at hx250_2); (try simp only [show (1 : Int).toNat = 1 from rfl, Nat.reduceMul, Nat.reduceEqDiff, Go.Addr.add, ↓reduceIte] at hx250_3); (try simp only [show (1 : Int).toNat = 1 from rfl, Nat.reduceMul, Nat.reduceEqDiff, Go.Addr.add, ↓reduceIte] at hx250_4); have qi250 : (1 < t229.length) = True := eq_true (by omega); (try rw [show ((1 : Int)).toNat = 1 from rfl] at hx250_0); (try rw [show 1 * 5 = 5 from rfl] at hx250_0); (try rw [show ((1 : Int)).toNat = 1 from rfl] at hx250_1); (try rw [show 1 * 5 = 5 from rfl] at hx250_1); (try rw [show ((1 : Int)).toNat = 1 from rfl] at hx250_2); (try rw [show 1 * 5 = 5 from rfl] at hx250_2); (try rw [show ((1 : Int)).toNat = 1 from rfl] at hx250_3); (try rw [show 1 * 5 = 5 from rfl] at hx250_3); (try rw [show ((1 : Int)).toNat = 1 from rfl] at hx250_4); (try rw [show 1 * 5 = 5 from rfl] at hx250_4); replace p250 := eq_true p250; replace q250 := eq_true q250; have p251 : 0 ≤ (2 : Int) := (by omega); have q251 : 2 < (t229.length : Int) := of_decide_eq_true (by first | (with_reducible assumption) | assumption); obtain ⟨ad251, e251, hx251_0, hx251_1, hx251_2, hx251_3, hx251_4⟩ := at_T43 (Kd.R_reads' HO233.out).2.2 2 p251 q251; obtain rfl : ad249 = ad251 := (by injection e251); (try simp only [show (2 : Int).toNat = 2 from rfl, Nat.reduceMul, Nat.reduceEqDiff, Go.Addr.add, ↓reduceIte] at hx251_0); (try simp only [show (2 : Int).toNat = 2 from rfl, Nat.reduceMul, Nat.reduceEqDiff, Go.Addr.add, ↓reduceIte] at hx251_1); (try simp only [show (2 : Int).toNat = 2 from rfl, Nat.reduceMul, Nat.reduceEqDiff, Go.Addr.add, ↓reduceIte] at hx251_2); (try simp only [show (2 : Int).toNat = 2 from rfl, Nat.reduceMul, Nat.reduceEqDiff, Go.Addr.add, ↓reduceIte] at hx251_3); (try simp only [show (2 : Int).toNat = 2 from rfl, Nat.reduceMul, Nat.reduceEqDiff, Go.Addr.add, ↓reduceIte] at hx251_4); have qi251 : (2 < t229.length) = True := eq_true (by omega); (try rw [show ((2 : Int)).toNat = 2 from rfl] at hx251_0); (try rw [show 2 * 5 = 10 from rfl] at hx251_0); (try rw [show ((2 : Int)).toNat = 2 from rfl] at hx251_1); (try rw [show 2 * 5 = 10 from rfl] at hx251_1); (try rw [show ((2 : Int)).toNat = 2 from rfl] at hx251_2); (try rw [show 2 * 5 = 10 from rfl] at hx251_2); (try rw [show ((2 : Int)).toNat = 2 from rfl] at hx251_3); (try rw [show 2 * 5 = 10 from rfl] at hx251_3); (try rw [show ((2 : Int)).toNat = 2 from rfl] at hx251_4); (try rw [show 2 * 5 = 10 from rfl] at hx251_4); replace p251 := eq_true p251; replace q251 := eq_true q251) | (go_at_call 29; (with_reducible refine (accounts_Total.calls k _ _ t220 t252 _ ?side1 ?side2 A35.out).mono ?_); (case side1 => repeat (first | exact (Kd.R_reads' HO222.out).2.2 | (with_reducible refine Kd.C_alloc ?_ _) | (with_reducible refine Kd.C_drewN ?_ _) | (with_reducible refine Kd.C_drew ?_))); (case side2 => exact (Kd.R_reads' HO222.out).2.1); rintro e w52 ⟨rfl, hb⟩; have n0_ := Aside0.mk (Kd.R_below (by (with_reducible repeat (first | apply Kd.R_alloc | apply Kd.R_drewN | apply Kd.R_drew)); exact HO222.out) hb); have n1_ := Aside0.mk (Kd.R_below (by (with_reducible repeat (first | apply Kd.R_alloc | apply Kd.R_drewN | apply Kd.R_drew)); exact HO225.out) hb); have n2_ := Aside0.mk (Kd.R_below (by (with_reducible repeat (first | apply Kd.R_alloc | apply Kd.R_drewN | apply Kd.R_drew)); exact HO233.out) hb); have n3_ := Aside0.mk (Kd.R_below (by (with_reducible repeat (first | apply Kd.R_alloc | apply Kd.R_drewN | apply Kd.R_drew)); exact HO238.out) hb); have n4_ := Aside0.mk (Kd.R_below (by (with_reducible repeat (first | apply Kd.R_alloc | apply Kd.R_drewN | apply Kd.R_drew)); exact HO242.out) hb); have n5_ := Aside0.mk (below_step (by repeat (first | (with_reducible first | exact HB.out | apply below_alloc | apply pw_below_drewN | apply below_drew1) | exact HB.out)) hb); clear HO222; clear HO225; clear HO233; clear HO238; clear HO242; clear HB; have HO222 := n0_; have HO225 := n1_; have HO233 := n2_; have HO238 := n3_; have HO242 := n4_; have HB := n5_; clear n0_ n1_ n2_ n3_ n4_ n5_; (try clear hb); (try clear hb2); (try clear hk); (try clear hi)) | (go_at_call 35; (with_reducible refine (accounts_Inside.calls k _ _ t220 2 1 true _ ?side1 ?side2 A37.out).mono ?_); (case side1 => repeat (first | exact (Kd.R_reads' HO222.out).2.2 | (with_reducible refine Kd.C_alloc ?_ _) | (with_reducible refine Kd.C_drewN ?_ _) | (with_reducible refine Kd.C_drew ?_))); (case side2 => exact (Kd.R_reads' HO222.out).2.1); rintro e w53 ⟨rfl, hb⟩; have n0_ := Aside0.mk (Kd.R_below (by (with_reducible repeat (first | apply Kd.R_alloc | apply Kd.R_drewN | apply Kd.R_drew)); exact HO222.out) hb); have n1_ := Aside0.mk (Kd.R_below (by (with_reducible repeat (first | apply Kd.R_alloc | apply Kd.R_drewN | apply Kd.R_drew)); exact HO225.out) hb); have n2_ := Aside0.mk (Kd.R_below (by (with_reducible repeat (first | apply Kd.R_alloc | apply Kd.R_drewN | apply Kd.R_drew)); exact HO233.out) hb); have n3_ := Aside0.mk (Kd.R_below (by (with_reducible repeat (first | apply Kd.R_alloc | apply Kd.R_drewN | apply Kd.R_drew)); exact HO238.out) hb); have n4_ := Aside0.mk (Kd.R_below (by (with_reducible repeat (first | apply Kd.R_alloc | apply Kd.R_drewN | apply Kd.R_drew)); exact HO242.out) hb); have n5_ := Aside0.mk (below_step (by repeat (first | (with_reducible first | exact HB.out | apply below_alloc | apply pw_below_drewN | apply below_drew1) | exact HB.out)) hb); clear HO222; clear HO225; clear HO233; clear HO238; clear HO242; clear HB; have HO222 := n0_; have HO225 := n1_; have HO233 := n2_; have HO238 := n3_; have HO242 := n4_; have HB := n5_; clear n0_ n1_ n2_ n3_ n4_ n5_; (try clear hb); (try clear hb2); (try clear hk); (try clear hi)) | (go_at_call 35; (with_reducible refine (accounts_Inside.calls k _ _ t220 1 2 t254 _ ?side1 ?side2 A39.out).mono ?_); (case side1 => repeat (first | exact (Kd.R_reads' HO222.out).2.2 | (with_reducible refine Kd.C_alloc ?_ _) | (with_reducible refine Kd.C_drewN ?_ _) | (with_reducible refine Kd.C_drew ?_))); (case side2 => exact (Kd.R_reads' HO222.out).2.1); rintro e w54 ⟨rfl, hb⟩; have n0_ := Aside0.mk (Kd.R_below (by (with_reducible repeat (first | apply Kd.R_alloc | apply Kd.R_drewN | apply Kd.R_drew)); exact HO222.out) hb); have n1_ := Aside0.mk (Kd.R_below (by (with_reducible repeat (first | apply Kd.R_alloc | apply Kd.R_drewN | apply Kd.R_drew)); exact HO225.out) hb); have n2_ := Aside0.mk (Kd.R_below (by (with_reducible repeat (first | apply Kd.R_alloc | apply Kd.R_drewN | apply Kd.R_drew)); exact HO233.out) hb); have n3_ := Aside0.mk (Kd.R_below (by (with_reducible repeat (first | apply Kd.R_alloc | apply Kd.R_drewN | apply Kd.R_drew)); exact HO238.out) hb); have n4_ := Aside0.mk (Kd.R_below (by (with_reducible repeat (first | apply Kd.R_alloc | apply Kd.R_drewN | apply Kd.R_drew)); exact HO242.out) hb); have n5_ := Aside0.mk (below_step (by repeat (first | (with_reducible first | exact HB.out | apply below_alloc | apply pw_below_drewN | apply below_drew1) | exact HB.out)) hb); clear HO222; clear HO225; clear HO233; clear HO238; clear HO242; clear HB; have HO222 := n0_; have HO225 := n1_; have HO233 := n2_; have HO238 := n3_; have HO242 := n4_; have HB := n5_; clear n0_ n1_ n2_ n3_ n4_ n5_; (try clear hb); (try clear hb2); (try clear hk); (try clear hi))); simp only [List.append_eq, List.cons_append, List.nil_append]))
                                                        go_wp2_with (first | ((with_reducible refine gate_callee (f := 47) rfl ?_); refine goesL_ (some 14) rfl rfl Try.func47 (by kernel_rfl) rfl #[] rfl (by (try simp only [List.map_toArray, List.map_cons, List.map_nil]); first | done | rfl | (simp only [List.length_drop, List.length_take]; rfl)) ?_; (with_reducible refine (estoverslaw19_three.calls  t220 _ A1.out).mono ?_); rintro e w40 ⟨v221, rfl, ho0, hb⟩; refine ⟨_, rfl, ?_⟩; have n0_ := Aside0.mk (Kd.R_lower ho0 (below_size (by repeat (first | (with_reducible first | exact HB.out | apply below_alloc | apply pw_below_drewN | apply below_drew1) | exact HB.out)))); have n1_ := Aside0.mk (below_step (by repeat (first | (with_reducible first | exact HB.out | apply below_alloc | apply pw_below_drewN | apply below_drew1) | exact HB.out)) hb); clear HB; have HO222 := n0_; have HB := n1_; clear n0_ n1_; (try clear hb); (try clear hb2); (try clear hk); (try clear hi); (try clear ho0); obtain ⟨Ao41, co41, eo41⟩ := Kd.R_slice HO222.out; subst eo41) | ((with_reducible refine gate_callee (f := 31) rfl ?_); refine goesL_ (some 16) rfl rfl Try.func31 (by kernel_rfl) rfl #[.slice Ao41 t220.length co41, .int .i64 2] rfl (by (try simp only [List.map_toArray, List.map_cons, List.map_nil]); first | done | rfl | (simp only [List.length_drop, List.length_take]; rfl)) ?_; (with_reducible refine (accounts_Path.calls k _ _ t220 2 t223 _ ?side1 ?side2 A2.out).mono ?_); (case side1 => repeat (first | exact (Kd.R_reads' HO222.out).2.2 | (with_reducible refine Kd.C_alloc ?_ _) | (with_reducible refine Kd.C_drewN ?_ _) | (with_reducible refine Kd.C_drew ?_))); (case side2 => exact (Kd.R_reads' HO222.out).2.1); rintro e w42 ⟨v224, rfl, ho0, hb⟩; refine ⟨_, rfl, ?_⟩; have n0_ := Aside0.mk (Kd.R_below (by (with_reducible repeat (first | apply Kd.R_alloc | apply Kd.R_drewN | apply Kd.R_drew)); exact HO222.out) hb); have n1_ := Aside0.mk (Kd.R_lower ho0 (below_size (by repeat (first | (with_reducible first | exact HB.out | apply below_alloc | apply pw_below_drewN | apply below_drew1) | exact HB.out)))); have n2_ := Aside0.mk (below_step (by repeat (first | (with_reducible first | exact HB.out | apply below_alloc | apply pw_below_drewN | apply below_drew1) | exact HB.out)) hb); clear HO222; clear HB; have HO222 := n0_; have HO225 := n1_; have HB := n2_; clear n0_ n1_ n2_; (try clear hb); (try clear hb2); (try clear hk); (try clear hi); (try clear ho0)) | ((with_reducible refine gate_callee (f := 33) rfl ?_); refine goesL_ (some 19) rfl rfl Try.func33 (by kernel_rfl) rfl #[.slice Ao41 t220.length co41, .int .i64 2] rfl (by (try simp only [List.map_toArray, List.map_cons, List.map_nil]); first | done | rfl | (simp only [List.length_drop, List.length_take]; rfl)) ?_; (with_reducible refine (accounts_Margin.calls k _ _ t220 2 t226 t227 t228 _ ?side1 ?side2 A3.out).mono ?_); (case side1 => repeat (first | exact (Kd.R_reads' HO222.out).2.2 | (with_reducible refine Kd.C_alloc ?_ _) | (with_reducible refine Kd.C_drewN ?_ _) | (with_reducible refine Kd.C_drew ?_))); (case side2 => exact (Kd.R_reads' HO222.out).2.1); rintro e w43 ⟨rfl, hb⟩; refine ⟨_, rfl, ?_⟩; have n0_ := Aside0.mk (Kd.R_below (by (with_reducible repeat (first | apply Kd.R_alloc | apply Kd.R_drewN | apply Kd.R_drew)); exact HO222.out) hb); have n1_ := Aside0.mk (Kd.R_below (by (with_reducible repeat (first | apply Kd.R_alloc | apply Kd.R_drewN | apply Kd.R_drew)); exact HO225.out) hb); have n2_ := Aside0.mk (below_step (by repeat (first | (with_reducible first | exact HB.out | apply below_alloc | apply pw_below_drewN | apply below_drew1) | exact HB.out)) hb); clear HO222; clear HO225; clear HB; have HO222 := n0_; have HO225 := n1_; have HB := n2_; clear n0_ n1_ n2_; (try clear hb); (try clear hb2); (try clear hk); (try clear hi)) | ((with_reducible refine gate_callee (f := 39) rfl ?_); refine goesL_ (some 25) rfl rfl Try.func39 (by kernel_rfl) rfl #[.slice Ao41 t220.length co41, .int .i64 2, .int .i64 2] rfl (by (try simp only [List.map_toArray, List.map_cons, List.map_nil]); first | done | rfl | (simp only [List.length_drop, List.length_take]; rfl)) ?_; (with_reducible refine (accounts_Charge.calls k _ _ t220 2 2 t229 t230 t231 _ ?side1 ?side2 A4.out).mono ?_); (case side1 => repeat (first | exact (Kd.R_reads' HO222.out).2.2 | (with_reducible refine Kd.C_alloc ?_ _) | (with_reducible refine Kd.C_drewN ?_ _) | (with_reducible refine Kd.C_drew ?_))); (case side2 => exact (Kd.R_reads' HO222.out).2.1); rintro e w44 ⟨v232, rfl, ho0, hb⟩; refine ⟨_, rfl, ?_⟩; have n0_ := Aside0.mk (Kd.R_elder' (by (with_reducible repeat (first | apply Kd.R_alloc | apply Kd.R_drewN | apply Kd.R_drew)); exact HO222.out) (Kd.R_base ho0) hb); have n1_ := Aside0.mk (Kd.R_below (by (with_reducible repeat (first | apply Kd.R_alloc | apply Kd.R_drewN | apply Kd.R_drew)); exact HO225.out) hb); have n2_ := Aside0.mk (Kd.R_lower (Kd.R_new' ho0 (Kd.R_lt (by (with_reducible repeat (first | apply Kd.R_alloc | apply Kd.R_drewN | apply Kd.R_drew)); exact HO222.out))) (below_size (by repeat (first | (with_reducible first | exact HB.out | apply below_alloc | apply pw_below_drewN | apply below_drew1) | exact HB.out)))); have n3_ := Aside0.mk (below_step (by repeat (first | (with_reducible first | exact HB.out | apply below_alloc | apply pw_below_drewN | apply below_drew1) | exact HB.out)) hb); clear HO222; clear HO225; clear HB; have HO222 := n0_; have HO225 := n1_; have HO233 := n2_; have HB := n3_; clear n0_ n1_ n2_ n3_; (try clear hb); (try clear hb2); (try clear hk); (try clear hi); (try clear ho0)) | ((with_reducible refine gate_callee (f := 39) rfl ?_); refine goesL_ (some 31) rfl rfl Try.func39 (by kernel_rfl) rfl #[.slice Ao41 t220.length co41, .int .i64 2, .int .i64 3] rfl (by (try simp only [List.map_toArray, List.map_cons, List.map_nil]); first | done | rfl | (simp only [List.length_drop, List.length_take]; rfl)) ?_; (with_reducible refine (accounts_Charge.calls k _ _ t220 2 3 t234 t235 t236 _ ?side1 ?side2 A5.out).mono ?_); (case side1 => repeat (first | exact (Kd.R_reads' HO222.out).2.2 | (with_reducible refine Kd.C_alloc ?_ _) | (with_reducible refine Kd.C_drewN ?_ _) | (with_reducible refine Kd.C_drew ?_))); (case side2 => exact (Kd.R_reads' HO222.out).2.1); rintro e w45 ⟨v237, rfl, ho0, hb⟩; refine ⟨_, rfl, ?_⟩; have n0_ := Aside0.mk (Kd.R_elder' (by (with_reducible repeat (first | apply Kd.R_alloc | apply Kd.R_drewN | apply Kd.R_drew)); exact HO222.out) (Kd.R_base ho0) hb); have n1_ := Aside0.mk (Kd.R_below (by (with_reducible repeat (first | apply Kd.R_alloc | apply Kd.R_drewN | apply Kd.R_drew)); exact HO225.out) hb); have n2_ := Aside0.mk (Kd.R_elder' (by (with_reducible repeat (first | apply Kd.R_alloc | apply Kd.R_drewN | apply Kd.R_drew)); exact HO233.out) (Kd.R_base ho0) hb); have n3_ := Aside0.mk (Kd.R_lower (Kd.R_new' (Kd.R_new' ho0 (Kd.R_lt (by (with_reducible repeat (first | apply Kd.R_alloc | apply Kd.R_drewN | apply Kd.R_drew)); exact HO222.out))) (Kd.R_lt (by (with_reducible repeat (first | apply Kd.R_alloc | apply Kd.R_drewN | apply Kd.R_drew)); exact HO233.out))) (below_size (by repeat (first | (with_reducible first | exact HB.out | apply below_alloc | apply pw_below_drewN | apply below_drew1) | exact HB.out)))); have n4_ := Aside0.mk (below_step (by repeat (first | (with_reducible first | exact HB.out | apply below_alloc | apply pw_below_drewN | apply below_drew1) | exact HB.out)) hb); clear HO222; clear HO225; clear HO233; clear HB; have HO222 := n0_; have HO225 := n1_; have HO233 := n2_; have HO238 := n3_; have HB := n4_; clear n0_ n1_ n2_ n3_ n4_; (try clear hb); (try clear hb2); (try clear hk); (try clear hi); (try clear ho0)) | ((with_reducible refine gate_callee (f := 41) rfl ?_); refine goesL_ (some 37) rfl rfl Try.func41 (by kernel_rfl) rfl #[.slice Ao41 t220.length co41, .int .i64 1, .int .i64 2] rfl (by (try simp only [List.map_toArray, List.map_cons, List.map_nil]); first | done | rfl | (simp only [List.length_drop, List.length_take]; rfl)) ?_; (with_reducible refine (accounts_Uncharge.calls k _ _ t220 1 2 t239 t240 _ ?side1 ?side2 A6.out).mono ?_); (case side1 => repeat (first | exact (Kd.R_reads' HO222.out).2.2 | (with_reducible refine Kd.C_alloc ?_ _) | (with_reducible refine Kd.C_drewN ?_ _) | (with_reducible refine Kd.C_drew ?_))); (case side2 => exact (Kd.R_reads' HO222.out).2.1); rintro e w46 ⟨v241, rfl, ho0, hb⟩; refine ⟨_, rfl, ?_⟩; have n0_ := Aside0.mk (Kd.R_elder' (by (with_reducible repeat (first | apply Kd.R_alloc | apply Kd.R_drewN | apply Kd.R_drew)); exact HO222.out) (Kd.R_base ho0) hb); have n1_ := Aside0.mk (Kd.R_below (by (with_reducible repeat (first | apply Kd.R_alloc | apply Kd.R_drewN | apply Kd.R_drew)); exact HO225.out) hb); have n2_ := Aside0.mk (Kd.R_elder' (by (with_reducible repeat (first | apply Kd.R_alloc | apply Kd.R_drewN | apply Kd.R_drew)); exact HO233.out) (Kd.R_base ho0) hb); have n3_ := Aside0.mk (Kd.R_elder' (by (with_reducible repeat (first | apply Kd.R_alloc | apply Kd.R_drewN | apply Kd.R_drew)); exact HO238.out) (Kd.R_base ho0) hb); have n4_ := Aside0.mk (Kd.R_lower (Kd.R_new' (Kd.R_new' (Kd.R_new' ho0 (Kd.R_lt (by (with_reducible repeat (first | apply Kd.R_alloc | apply Kd.R_drewN | apply Kd.R_drew)); exact HO222.out))) (Kd.R_lt (by (with_reducible repeat (first | apply Kd.R_alloc | apply Kd.R_drewN | apply Kd.R_drew)); exact HO233.out))) (Kd.R_lt (by (with_reducible repeat (first | apply Kd.R_alloc | apply Kd.R_drewN | apply Kd.R_drew)); exact HO238.out))) (below_size (by repeat (first | (with_reducible first | exact HB.out | apply below_alloc | apply pw_below_drewN | apply below_drew1) | exact HB.out)))); have n5_ := Aside0.mk (below_step (by repeat (first | (with_reducible first | exact HB.out | apply below_alloc | apply pw_below_drewN | apply below_drew1) | exact HB.out)) hb); clear HO222; clear HO225; clear HO233; clear HO238; clear HB; have HO222 := n0_; have HO225 := n1_; have HO233 := n2_; have HO238 := n3_; have HO242 := n4_; have HB := n5_; clear n0_ n1_ n2_ n3_ n4_ n5_; (try clear hb); (try clear hb2); (try clear hk); (try clear hi); (try clear ho0)) | ((with_reducible refine gate_callee (f := 28) rfl ?_); refine goesL_ (some 41) rfl rfl Try.func28 (by kernel_rfl) rfl #[.slice Ao41 t220.length co41] rfl (by (try simp only [List.map_toArray, List.map_cons, List.map_nil]); first | done | rfl | (simp only [List.length_drop, List.length_take]; rfl)) ?_; (with_reducible refine (accounts_Check.calls k _ _ t220 t243 _ ?side1 ?side2 A7.out).mono ?_); (case side1 => repeat (first | exact (Kd.R_reads' HO222.out).2.2 | (with_reducible refine Kd.C_alloc ?_ _) | (with_reducible refine Kd.C_drewN ?_ _) | (with_reducible refine Kd.C_drew ?_))); (case side2 => exact (Kd.R_reads' HO222.out).2.1); rintro e w47 ⟨rfl, hb⟩; refine ⟨_, rfl, ?_⟩; have n0_ := Aside0.mk (Kd.R_below (by (with_reducible repeat (first | apply Kd.R_alloc | apply Kd.R_drewN | apply Kd.R_drew)); exact HO222.out) hb); have n1_ := Aside0.mk (Kd.R_below (by (with_reducible repeat (first | apply Kd.R_alloc | apply Kd.R_drewN | apply Kd.R_drew)); exact HO225.out) hb); have n2_ := Aside0.mk (Kd.R_below (by (with_reducible repeat (first | apply Kd.R_alloc | apply Kd.R_drewN | apply Kd.R_drew)); exact HO233.out) hb); have n3_ := Aside0.mk (Kd.R_below (by (with_reducible repeat (first | apply Kd.R_alloc | apply Kd.R_drewN | apply Kd.R_drew)); exact HO238.out) hb); have n4_ := Aside0.mk (Kd.R_below (by (with_reducible repeat (first | apply Kd.R_alloc | apply Kd.R_drewN | apply Kd.R_drew)); exact HO242.out) hb); have n5_ := Aside0.mk (below_step (by repeat (first | (with_reducible first | exact HB.out | apply below_alloc | apply pw_below_drewN | apply below_drew1) | exact HB.out)) hb); clear HO222; clear HO225; clear HO233; clear HO238; clear HO242; clear HB; have HO222 := n0_; have HO225 := n1_; have HO233 := n2_; have HO238 := n3_; have HO242 := n4_; have HB := n5_; clear n0_ n1_ n2_ n3_ n4_ n5_; (try clear hb); (try clear hb2); (try clear hk); (try clear hi); obtain ⟨Ao48, co48, eo48⟩ := Kd.R_slice HO225.out; subst eo48; have p244 : 0 ≤ (0 : Int) := (by omega); have q244 : 0 < (t223.length : Int) := of_decide_eq_true (by first | (with_reducible assumption) | assumption); obtain ⟨ad244, e244, hx244_0⟩ := Kd.at_int (Kd.R_reads' HO225.out).2.2 0 p244 q244; cases e244; have qi244 : (0 < t223.length) = True := eq_true (by omega); (try rw [show ((0 : Int)).toNat = 0 from rfl] at hx244_0); (try rw [Addr.add_zero'] at hx244_0); replace p244 := eq_true p244; replace q244 := eq_true q244; have p245 : 0 ≤ (1 : Int) := (by omega); have q245 : 1 < (t223.length : Int) := of_decide_eq_true (by first | (with_reducible assumption) | assumption); obtain ⟨ad245, e245, hx245_0⟩ := Kd.at_int (Kd.R_reads' HO225.out).2.2 1 p245 q245; obtain rfl : ad244 = ad245 := (by injection e245); (try simp only [show (1 : Int).toNat = 1 from rfl, Nat.reduceMul, Nat.reduceEqDiff, Go.Addr.add, ↓reduceIte] at hx245_0); have qi245 : (1 < t223.length) = True := eq_true (by omega); (try rw [show ((1 : Int)).toNat = 1 from rfl] at hx245_0); replace p245 := eq_true p245; replace q245 := eq_true q245; have p246 : 0 ≤ (2 : Int) := (by omega); have q246 : 2 < (t223.length : Int) := of_decide_eq_true (by first | (with_reducible assumption) | assumption); obtain ⟨ad246, e246, hx246_0⟩ := Kd.at_int (Kd.R_reads' HO225.out).2.2 2 p246 q246; obtain rfl : ad244 = ad246 := (by injection e246); (try simp only [show (2 : Int).toNat = 2 from rfl, Nat.reduceMul, Nat.reduceEqDiff, Go.Addr.add, ↓reduceIte] at hx246_0); have qi246 : (2 < t223.length) = True := eq_true (by omega); (try rw [show ((2 : Int)).toNat = 2 from rfl] at hx246_0); replace p246 := eq_true p246; replace q246 := eq_true q246) | (go_at_call 37; (with_reducible refine (accounts_Own.calls k _ _ t220 0 t247 _ ?side1 ?side2 A16.out).mono ?_); (case side1 => repeat (first | exact (Kd.R_reads' HO222.out).2.2 | (with_reducible refine Kd.C_alloc ?_ _) | (with_reducible refine Kd.C_drewN ?_ _) | (with_reducible refine Kd.C_drew ?_))); (case side2 => exact (Kd.R_reads' HO222.out).2.1); rintro e w49 ⟨rfl, hb⟩; have n0_ := Aside0.mk (Kd.R_below (by (with_reducible repeat (first | apply Kd.R_alloc | apply Kd.R_drewN | apply Kd.R_drew)); exact HO222.out) hb); have n1_ := Aside0.mk (Kd.R_below (by (with_reducible repeat (first | apply Kd.R_alloc | apply Kd.R_drewN | apply Kd.R_drew)); exact HO225.out) hb); have n2_ := Aside0.mk (Kd.R_below (by (with_reducible repeat (first | apply Kd.R_alloc | apply Kd.R_drewN | apply Kd.R_drew)); exact HO233.out) hb); have n3_ := Aside0.mk (Kd.R_below (by (with_reducible repeat (first | apply Kd.R_alloc | apply Kd.R_drewN | apply Kd.R_drew)); exact HO238.out) hb); have n4_ := Aside0.mk (Kd.R_below (by (with_reducible repeat (first | apply Kd.R_alloc | apply Kd.R_drewN | apply Kd.R_drew)); exact HO242.out) hb); have n5_ := Aside0.mk (below_step (by repeat (first | (with_reducible first | exact HB.out | apply below_alloc | apply pw_below_drewN | apply below_drew1) | exact HB.out)) hb); clear HO222; clear HO225; clear HO233; clear HO238; clear HO242; clear HB; have HO222 := n0_; have HO225 := n1_; have HO233 := n2_; have HO238 := n3_; have HO242 := n4_; have HB := n5_; clear n0_ n1_ n2_ n3_ n4_ n5_; (try clear hb); (try clear hb2); (try clear hk); (try clear hi)) | (go_at_call 37; (with_reducible refine (accounts_Own.calls k _ _ t220 2 t248 _ ?side1 ?side2 A18.out).mono ?_); (case side1 => repeat (first | exact (Kd.R_reads' HO222.out).2.2 | (with_reducible refine Kd.C_alloc ?_ _) | (with_reducible refine Kd.C_drewN ?_ _) | (with_reducible refine Kd.C_drew ?_))); (case side2 => exact (Kd.R_reads' HO222.out).2.1); rintro e w50 ⟨rfl, hb⟩; have n0_ := Aside0.mk (Kd.R_below (by (with_reducible repeat (first | apply Kd.R_alloc | apply Kd.R_drewN | apply Kd.R_drew)); exact HO222.out) hb); have n1_ := Aside0.mk (Kd.R_below (by (with_reducible repeat (first | apply Kd.R_alloc | apply Kd.R_drewN | apply Kd.R_drew)); exact HO225.out) hb); have n2_ := Aside0.mk (Kd.R_below (by (with_reducible repeat (first | apply Kd.R_alloc | apply Kd.R_drewN | apply Kd.R_drew)); exact HO233.out) hb); have n3_ := Aside0.mk (Kd.R_below (by (with_reducible repeat (first | apply Kd.R_alloc | apply Kd.R_drewN | apply Kd.R_drew)); exact HO238.out) hb); have n4_ := Aside0.mk (Kd.R_below (by (with_reducible repeat (first | apply Kd.R_alloc | apply Kd.R_drewN | apply Kd.R_drew)); exact HO242.out) hb); have n5_ := Aside0.mk (below_step (by repeat (first | (with_reducible first | exact HB.out | apply below_alloc | apply pw_below_drewN | apply below_drew1) | exact HB.out)) hb); clear HO222; clear HO225; clear HO233; clear HO238; clear HO242; clear HB; have HO222 := n0_; have HO225 := n1_; have HO233 := n2_; have HO238 := n3_; have HO242 := n4_; have HB := n5_; clear n0_ n1_ n2_ n3_ n4_ n5_; (try clear hb); (try clear hb2); (try clear hk); (try clear hi); obtain ⟨Ao51, co51, eo51⟩ := Kd.R_slice HO233.out; subst eo51; have p249 : 0 ≤ (0 : Int) := (by omega); have q249 : 0 < (t229.length : Int) := of_decide_eq_true (by first | (with_reducible assumption) | assumption); obtain ⟨ad249, e249, hx249_0, hx249_1, hx249_2, hx249_3, hx249_4⟩ := at_T43 (Kd.R_reads' HO233.out).2.2 0 p249 q249; cases e249; have qi249 : (0 < t229.length) = True := eq_true (by omega); (try rw [show ((0 : Int)).toNat = 0 from rfl] at hx249_0); (try rw [show 0 * 5 = 0 from rfl] at hx249_0); (try rw [Addr.add_zero'] at hx249_0); (try rw [show ((0 : Int)).toNat = 0 from rfl] at hx249_1); (try rw [show 0 * 5 = 0 from rfl] at hx249_1); (try rw [Addr.add_zero'] at hx249_1); (try rw [show ((0 : Int)).toNat = 0 from rfl] at hx249_2); (try rw [show 0 * 5 = 0 from rfl] at hx249_2); (try rw [Addr.add_zero'] at hx249_2); (try rw [show ((0 : Int)).toNat = 0 from rfl] at hx249_3); (try rw [show 0 * 5 = 0 from rfl] at hx249_3); (try rw [Addr.add_zero'] at hx249_3); (try rw [show ((0 : Int)).toNat = 0 from rfl] at hx249_4); (try rw [show 0 * 5 = 0 from rfl] at hx249_4); (try rw [Addr.add_zero'] at hx249_4); replace p249 := eq_true p249; replace q249 := eq_true q249; have p250 : 0 ≤ (1 : Int) := (by omega); have q250 : 1 < (t229.length : Int) := of_decide_eq_true (by first | (with_reducible assumption) | assumption); obtain ⟨ad250, e250, hx250_0, hx250_1, hx250_2, hx250_3, hx250_4⟩ := at_T43 (Kd.R_reads' HO233.out).2.2 1 p250 q250; obtain rfl : ad249 = ad250 := (by injection e250); (try simp only [show (1 : Int).toNat = 1 from rfl, Nat.reduceMul, Nat.reduceEqDiff, Go.Addr.add, ↓reduceIte] at hx250_0); (try simp only [show (1 : Int).toNat = 1 from rfl, Nat.reduceMul, Nat.reduceEqDiff, Go.Addr.add, ↓reduceIte] at hx250_1); (try simp only [show (1 : Int).toNat = 1 from rfl, Nat.reduceMul, Nat.reduceEqDiff, Go.Addr.add, ↓reduceIte] at hx250_2); (try simp only [show (1 : Int).toNat = 1 from rfl, Nat.reduceMul, Nat.reduceEqDiff, Go.Addr.add, ↓reduceIte] at hx250_3); (try simp only [show (1 : Int).toNat = 1 from rfl, Nat.reduceMul, Nat.reduceEqDiff, Go.Addr.add, ↓reduceIte] at hx250_4); have qi250 : (1 < t229.length) = True := eq_true (by omega); (try rw [show ((1 : Int)).toNat = 1 from rfl] at hx250_0); (try rw [show 1 * 5 = 5 from rfl] at hx250_0); (try rw [show ((1 : Int)).toNat = 1 from rfl] at hx250_1); (try rw [show 1 * 5 = 5 from rfl] at hx250_1); (try rw [show ((1 : Int)).toNat = 1 from rfl] at hx250_2); (try rw [show 1 * 5 = 5 from rfl] at hx250_2); (try rw [show ((1 : Int)).toNat = 1 from rfl] at hx250_3); (try rw [show 1 * 5 = 5 from rfl] at hx250_3); (try rw [show ((1 : Int)).toNat = 1 from rfl] at hx250_4); (try rw [show 1 * 5 = 5 from rfl] at hx250_4); replace p250 := eq_true p250; replace q250 := eq_true q250; have p251 : 0 ≤ (2 : Int) := (by omega); have q251 : 2 < (t229.length : Int) := of_decide_eq_true (by first | (with_reducible assumption) | assumption); obtain ⟨ad251, e251, hx251_0, hx251_1, hx251_2, hx251_3, hx251_4⟩ := at_T43 (Kd.R_reads' HO233.out).2.2 2 p251 q251; obtain rfl : ad249 = ad251 := (by injection e251); (try simp only [show (2 : Int).toNat = 2 from rfl, Nat.reduceMul, Nat.reduceEqDiff, Go.Addr.add, ↓reduceIte] at hx251_0); (try simp only [show (2 : Int).toNat = 2 from rfl, Nat.reduceMul, Nat.reduceEqDiff, Go.Addr.add, ↓reduceIte] at hx251_1); (try simp only [show (2 : Int).toNat = 2 from rfl, Nat.reduceMul, Nat.reduceEqDiff, Go.Addr.add, ↓reduceIte] at hx251_2); (try simp only [show (2 : Int).toNat = 2 from rfl, Nat.reduceMul, Nat.reduceEqDiff, Go.Addr.add, ↓reduceIte] at hx251_3); (try simp only [show (2 : Int).toNat = 2 from rfl, Nat.reduceMul, Nat.reduceEqDiff, Go.Addr.add, ↓reduceIte] at hx251_4); have qi251 : (2 < t229.length) = True := eq_true (by omega); (try rw [show ((2 : Int)).toNat = 2 from rfl] at hx251_0); (try rw [show 2 * 5 = 10 from rfl] at hx251_0); (try rw [show ((2 : Int)).toNat = 2 from rfl] at hx251_1); (try rw [show 2 * 5 = 10 from rfl] at hx251_1); (try rw [show ((2 : Int)).toNat = 2 from rfl] at hx251_2); (try rw [show 2 * 5 = 10 from rfl] at hx251_2); (try rw [show ((2 : Int)).toNat = 2 from rfl] at hx251_3); (try rw [show 2 * 5 = 10 from rfl] at hx251_3); (try rw [show ((2 : Int)).toNat = 2 from rfl] at hx251_4); (try rw [show 2 * 5 = 10 from rfl] at hx251_4); replace p251 := eq_true p251; replace q251 := eq_true q251) | (go_at_call 29; (with_reducible refine (accounts_Total.calls k _ _ t220 t252 _ ?side1 ?side2 A35.out).mono ?_); (case side1 => repeat (first | exact (Kd.R_reads' HO222.out).2.2 | (with_reducible refine Kd.C_alloc ?_ _) | (with_reducible refine Kd.C_drewN ?_ _) | (with_reducible refine Kd.C_drew ?_))); (case side2 => exact (Kd.R_reads' HO222.out).2.1); rintro e w52 ⟨rfl, hb⟩; have n0_ := Aside0.mk (Kd.R_below (by (with_reducible repeat (first | apply Kd.R_alloc | apply Kd.R_drewN | apply Kd.R_drew)); exact HO222.out) hb); have n1_ := Aside0.mk (Kd.R_below (by (with_reducible repeat (first | apply Kd.R_alloc | apply Kd.R_drewN | apply Kd.R_drew)); exact HO225.out) hb); have n2_ := Aside0.mk (Kd.R_below (by (with_reducible repeat (first | apply Kd.R_alloc | apply Kd.R_drewN | apply Kd.R_drew)); exact HO233.out) hb); have n3_ := Aside0.mk (Kd.R_below (by (with_reducible repeat (first | apply Kd.R_alloc | apply Kd.R_drewN | apply Kd.R_drew)); exact HO238.out) hb); have n4_ := Aside0.mk (Kd.R_below (by (with_reducible repeat (first | apply Kd.R_alloc | apply Kd.R_drewN | apply Kd.R_drew)); exact HO242.out) hb); have n5_ := Aside0.mk (below_step (by repeat (first | (with_reducible first | exact HB.out | apply below_alloc | apply pw_below_drewN | apply below_drew1) | exact HB.out)) hb); clear HO222; clear HO225; clear HO233; clear HO238; clear HO242; clear HB; have HO222 := n0_; have HO225 := n1_; have HO233 := n2_; have HO238 := n3_; have HO242 := n4_; have HB := n5_; clear n0_ n1_ n2_ n3_ n4_ n5_; (try clear hb); (try clear hb2); (try clear hk); (try clear hi)) | (go_at_call 35; (with_reducible refine (accounts_Inside.calls k _ _ t220 2 1 true _ ?side1 ?side2 A37.out).mono ?_); (case side1 => repeat (first | exact (Kd.R_reads' HO222.out).2.2 | (with_reducible refine Kd.C_alloc ?_ _) | (with_reducible refine Kd.C_drewN ?_ _) | (with_reducible refine Kd.C_drew ?_))); (case side2 => exact (Kd.R_reads' HO222.out).2.1); rintro e w53 ⟨rfl, hb⟩; have n0_ := Aside0.mk (Kd.R_below (by (with_reducible repeat (first | apply Kd.R_alloc | apply Kd.R_drewN | apply Kd.R_drew)); exact HO222.out) hb); have n1_ := Aside0.mk (Kd.R_below (by (with_reducible repeat (first | apply Kd.R_alloc | apply Kd.R_drewN | apply Kd.R_drew)); exact HO225.out) hb); have n2_ := Aside0.mk (Kd.R_below (by (with_reducible repeat (first | apply Kd.R_alloc | apply Kd.R_drewN | apply Kd.R_drew)); exact HO233.out) hb); have n3_ := Aside0.mk (Kd.R_below (by (with_reducible repeat (first | apply Kd.R_alloc | apply Kd.R_drewN | apply Kd.R_drew)); exact HO238.out) hb); have n4_ := Aside0.mk (Kd.R_below (by (with_reducible repeat (first | apply Kd.R_alloc | apply Kd.R_drewN | apply Kd.R_drew)); exact HO242.out) hb); have n5_ := Aside0.mk (below_step (by repeat (first | (with_reducible first | exact HB.out | apply below_alloc | apply pw_below_drewN | apply below_drew1) | exact HB.out)) hb); clear HO222; clear HO225; clear HO233; clear HO238; clear HO242; clear HB; have HO222 := n0_; have HO225 := n1_; have HO233 := n2_; have HO238 := n3_; have HO242 := n4_; have HB := n5_; clear n0_ n1_ n2_ n3_ n4_ n5_; (try clear hb); (try clear hb2); (try clear hk); (try clear hi)) | (go_at_call 35; (with_reducible refine (accounts_Inside.calls k _ _ t220 1 2 t254 _ ?side1 ?side2 A39.out).mono ?_); (case side1 => repeat (first | exact (Kd.R_reads' HO222.out).2.2 | (with_reducible refine Kd.C_alloc ?_ _) | (with_reducible refine Kd.C_drewN ?_ _) | (with_reducible refine Kd.C_drew ?_))); (case side2 => exact (Kd.R_reads' HO222.out).2.1); rintro e w54 ⟨rfl, hb⟩; have n0_ := Aside0.mk (Kd.R_below (by (with_reducible repeat (first | apply Kd.R_alloc | apply Kd.R_drewN | apply Kd.R_drew)); exact HO222.out) hb); have n1_ := Aside0.mk (Kd.R_below (by (with_reducible repeat (first | apply Kd.R_alloc | apply Kd.R_drewN | apply Kd.R_drew)); exact HO225.out) hb); have n2_ := Aside0.mk (Kd.R_below (by (with_reducible repeat (first | apply Kd.R_alloc | apply Kd.R_drewN | apply Kd.R_drew)); exact HO233.out) hb); have n3_ := Aside0.mk (Kd.R_below (by (with_reducible repeat (first | apply Kd.R_alloc | apply Kd.R_drewN | apply Kd.R_drew)); exact HO238.out) hb); have n4_ := Aside0.mk (Kd.R_below (by (with_reducible repeat (first | apply Kd.R_alloc | apply Kd.R_drewN | apply Kd.R_drew)); exact HO242.out) hb); have n5_ := Aside0.mk (below_step (by repeat (first | (with_reducible first | exact HB.out | apply below_alloc | apply pw_below_drewN | apply below_drew1) | exact HB.out)) hb); clear HO222; clear HO225; clear HO233; clear HO238; clear HO242; clear HB; have HO222 := n0_; have HO225 := n1_; have HO233 := n2_; have HO238 := n3_; have HO242 := n4_; have HB := n5_; clear n0_ n1_ n2_ n3_ n4_ n5_; (try clear hb); (try clear hb2); (try clear hk); (try clear hi)))
                                                        go_ret
                                                        exact ⟨by first | rfl | (simp [errW_none, errW_some] <;> rfl) | (simp [*, errW_none, errW_some] <;> rfl), by repeat (first | (with_reducible first | exact HB.out | apply below_alloc | apply pw_below_drewN | apply below_drew1) | exact HB.out)⟩
                                                      · replace c38 := Bool.eq_false_iff.mpr c38
                                                        subst c38
                                                        have H1 : (none) = some r := by rw [if_neg (show ¬ (false = true) by decide)] at H; exact H
                                                        clear H
                                                        have H := H1
                                                        clear H1
                                                        exact absurd H (by simp)
                                                    · rw [if_neg c36] at H
                                                      exact absurd H (by simp)
                                                  · rw [if_neg c34] at H
                                                    exact absurd H (by simp)
                                                · rw [if_neg c33] at H
                                                  exact absurd H (by simp)
                                              · rw [if_neg c32] at H
                                                exact absurd H (by simp)
                                            · rw [if_neg c31] at H
                                              exact absurd H (by simp)
                                          · rw [if_neg c30] at H
                                            exact absurd H (by simp)
                                        · rw [if_neg c29] at H
                                          exact absurd H (by simp)
                                      · rw [if_neg c28] at H
                                        exact absurd H (by simp)
                                    · rw [if_neg c27] at H
                                      exact absurd H (by simp)
                                  · rw [if_neg c26] at H
                                    exact absurd H (by simp)
                                · rw [if_neg c25] at H
                                  exact absurd H (by simp)
                              · rw [if_neg c24] at H
                                exact absurd H (by simp)
                            · rw [if_neg c23] at H
                              exact absurd H (by simp)
                          · rw [if_neg c22] at H
                            exact absurd H (by simp)
                        · rw [if_neg c21] at H
                          exact absurd H (by simp)
                      · rw [if_neg c20] at H
                        exact absurd H (by simp)
                    · rw [if_neg c19] at H
                      exact absurd H (by simp)
                  · rw [if_neg c17] at H
                    exact absurd H (by simp)
                · rw [if_neg c15] at H
                  exact absurd H (by simp)
              · rw [if_neg c14] at H
                exact absurd H (by simp)
            · rw [if_neg c13] at H
              exact absurd H (by simp)
          · rw [if_neg c12] at H
            exact absurd H (by simp)
        · rw [if_neg c11] at H
          exact absurd H (by simp)
      · rw [if_neg c10] at H
        exact absurd H (by simp)
    · rw [if_neg c9] at H
      exact absurd H (by simp)
  · rw [if_neg c8] at H
    exact absurd H (by simp)

/-! ### estoverslaw19_Few: function 27 -/
def estoverslaw19_Few.f (l0 : List (S43)) : Option (Bool) := some (decide ((l0.length : Int) ≤ 20))
set_option maxHeartbeats 8000000 in
set_option maxRecDepth 100000 in
theorem estoverslaw19_Few.calls (A0 : Option Addr) (c0 : Nat) (l0 : List (S43)) (r : Bool) (w : World) (hr0 : Kd.C k43 w A0 l0.length l0) (hc0 : l0.length ≤ c0) (h : estoverslaw19_Few.f l0 = some r) :
    Calls Try.prog 27 #[.slice A0 l0.length c0] w fun e w' => e = .returned (.bool r) ∧ Drawn0 w w' := by
  have HR0 := Aside0.mk hr0
  have HC0 := Aside0.mk hc0
  clear hr0 hc0
  have H : (some (decide ((l0.length : Int) ≤ 20))) = some r := h
  clear h
  obtain rfl := Option.some.inj H
  go_enter Try.func27, Try.ntmps27
  go_wp2
  go_ret
  exact ⟨by first | rfl | (simp; done) | (simp [*]; done), by repeat (first | exact Drawn0.refl _ | apply Drawn0.step)⟩

/-! ### estoversref19_Total: function 30 -/
def estoversref19_Total.f (k : Nat) (l0 : List (S43)) : Option (Int) := (estoversref19_Check.f k l0).bind fun t255 => (if t255 = 0 then (if 0 < (l0.length : Int) then (some ((rd_T43 l0 0).f1)) else (none)) else (some (-1)))
theorem estoversref19_Total.mono : ∀ a0 k, LeO (estoversref19_Total.f k a0) (estoversref19_Total.f (k + 1) a0) := by
  intro a0 k
  unfold estoversref19_Total.f
  repeat' first
      | (with_reducible exact estoversref19_Check.mono _ _)
      | (with_reducible exact LeO.refl _)
      | (with_reducible exact LeO.none _)
      | (with_reducible refine LeO.ite ?_ ?_)
      | (with_reducible refine LeO.bind ?_ (fun _ => ?_))
      | exact estoversref19_Check.mono _ _
      | exact LeO.none _
      | refine LeO.ite ?_ ?_
      | refine LeO.bind ?_ (fun _ => ?_)
set_option maxHeartbeats 8000000 in
set_option maxRecDepth 100000 in
theorem estoversref19_Total.calls (k : Nat) (A0 : Option Addr) (c0 : Nat) (l0 : List (S43)) (r : Int) (w : World) (hr0 : Kd.C k43 w A0 l0.length l0) (hc0 : l0.length ≤ c0) (h : estoversref19_Total.f k l0 = some r) :
    Calls Try.prog 30 #[.slice A0 l0.length c0] w fun e w' => e = .returned (.int .i64 r) ∧ Drawn0 w w' := by
  have HR0 := Aside0.mk hr0
  have HC0 := Aside0.mk hc0
  clear hr0 hc0
  have H : ((estoversref19_Check.f k l0).bind fun t255 => (if t255 = 0 then (if 0 < (l0.length : Int) then (some ((rd_T43 l0 0).f1)) else (none)) else (some (-1)))) = some r := h
  clear h
  replace H := Option.bind_eq_some_iff.mp H
  obtain ⟨t255, A20, H⟩ := H
  replace H : (if t255 = 0 then (if 0 < (l0.length : Int) then (some ((rd_T43 l0 0).f1)) else (none)) else (some (-1))) = some r := H
  have A2 := Aside0.mk A20
  clear A20
  by_cases c3 : t255 = 0
  · rw [if_pos c3] at H
    have c3b0 : (t255 == 0) = true := beq_iff_eq.mpr c3
    have c3b1 : (t255 != 0) = false := bne_eq_false_iff_eq.mpr c3
    clear c3
    by_cases c4 : 0 < (l0.length : Int)
    · rw [if_pos c4] at H
      have c4b0 : decide (0 < (l0.length : Int)) = true := decide_eq_true c4
      have c4b1 : decide (0 < l0.length) = true := decide_eq_true (by omega)
      clear c4
      obtain rfl := Option.some.inj H
      go_enter Try.func30, Try.ntmps30
      go_wp2_with (first | ((with_reducible refine gate_callee (f := 25) rfl ?_); refine goesL_ (some 4) rfl rfl Try.func25 (by kernel_rfl) rfl #[.slice A0 l0.length c0] rfl (by (try simp only [List.map_toArray, List.map_cons, List.map_nil]); first | done | rfl | (simp only [List.length_drop, List.length_take]; rfl)) ?_; (with_reducible refine (estoversref19_Check.calls k _ _ l0 t255 _ ?side1 ?side2 A2.out).mono ?_); (case side1 => repeat (first | exact HR0.out | (with_reducible refine Kd.C_alloc ?_ _) | (with_reducible refine Kd.C_drewN ?_ _) | (with_reducible refine Kd.C_drew ?_))); (case side2 => exact HC0.out); rintro e w' ⟨rfl, ⟨nd, rfl⟩⟩; refine ⟨_, rfl, ?_⟩; have p256 : 0 ≤ (0 : Int) := (by omega); have q256 : 0 < (l0.length : Int) := of_decide_eq_true (by first | (with_reducible assumption) | assumption); obtain ⟨ad256, e256, hx256_0, hx256_1, hx256_2, hx256_3, hx256_4⟩ := at_T43 HR0.out 0 p256 q256; cases e256; have qi256 : (0 < l0.length) = True := eq_true (by omega); (try rw [show ((0 : Int)).toNat = 0 from rfl] at hx256_0); (try rw [show 0 * 5 = 0 from rfl] at hx256_0); (try rw [Addr.add_zero'] at hx256_0); (try rw [show ((0 : Int)).toNat = 0 from rfl] at hx256_1); (try rw [show 0 * 5 = 0 from rfl] at hx256_1); (try rw [Addr.add_zero'] at hx256_1); (try rw [show ((0 : Int)).toNat = 0 from rfl] at hx256_2); (try rw [show 0 * 5 = 0 from rfl] at hx256_2); (try rw [Addr.add_zero'] at hx256_2); (try rw [show ((0 : Int)).toNat = 0 from rfl] at hx256_3); (try rw [show 0 * 5 = 0 from rfl] at hx256_3); (try rw [Addr.add_zero'] at hx256_3); (try rw [show ((0 : Int)).toNat = 0 from rfl] at hx256_4); (try rw [show 0 * 5 = 0 from rfl] at hx256_4); (try rw [Addr.add_zero'] at hx256_4); replace p256 := eq_true p256; replace q256 := eq_true q256))
      go_ret
      exact ⟨by first | rfl | (simp; done) | (simp [*]; done), by repeat (first | exact Drawn0.refl _ | apply Drawn0.step)⟩
    · rw [if_neg c4] at H
      exact absurd H (by simp)
  · rw [if_neg c3] at H
    have c3b0 : (t255 == 0) = false := beq_eq_false_iff_ne.mpr c3
    have c3b1 : (t255 != 0) = true := bne_iff_ne.mpr c3
    obtain rfl := Option.some.inj H
    go_enter Try.func30, Try.ntmps30
    go_wp2_with (first | ((with_reducible refine gate_callee (f := 25) rfl ?_); refine goesL_ (some 4) rfl rfl Try.func25 (by kernel_rfl) rfl #[.slice A0 l0.length c0] rfl (by (try simp only [List.map_toArray, List.map_cons, List.map_nil]); first | done | rfl | (simp only [List.length_drop, List.length_take]; rfl)) ?_; (with_reducible refine (estoversref19_Check.calls k _ _ l0 t255 _ ?side1 ?side2 A2.out).mono ?_); (case side1 => repeat (first | exact HR0.out | (with_reducible refine Kd.C_alloc ?_ _) | (with_reducible refine Kd.C_drewN ?_ _) | (with_reducible refine Kd.C_drew ?_))); (case side2 => exact HC0.out); rintro e w' ⟨rfl, ⟨nd, rfl⟩⟩; refine ⟨_, rfl, ?_⟩))
    go_ret
    exact ⟨by first | rfl | (simp; done) | (simp [*]; done), by repeat (first | exact Drawn0.refl _ | apply Drawn0.step)⟩

/-! ### estoverslaw19_AccountsChecks: function 9 -/
def estoverslaw19_AccountsChecks.j0 : Nat → List (S43) → Bool → Option (Bool)
  | 0, _, _ => none
  | k + 1, x0, x9 => if x9 = true then ((estoverslaw19_awake.f k).bind fun t259 => (some t259)) else ((accounts_Check.f k x0).bind fun t260 => ((estoversref19_Check.f k x0).bind fun t261 => (if t260 = t261 then ((accounts_Total.f k x0).bind fun t262 => ((estoversref19_Total.f k x0).bind fun t263 => (some (t262 == t263)))) else (none))))
def estoverslaw19_AccountsChecks.f (k : Nat) (l0 : List (S43)) : Option (Bool) := (estoverslaw19_awake.f k).bind fun t257 => (if t257 = true then ((estoverslaw19_Few.f l0).bind fun t258 => (estoverslaw19_AccountsChecks.j0 k l0 (!t258))) else (estoverslaw19_AccountsChecks.j0 k l0 true))
theorem estoverslaw19_AccountsChecks.mono_l : ∀ k, (∀ y0 y1, LeO (estoverslaw19_AccountsChecks.j0 k y0 y1) (estoverslaw19_AccountsChecks.j0 (k + 1) y0 y1))
  | 0 => fun _ _ r h => by simp [estoverslaw19_AccountsChecks.j0] at h
  | k + 1 => by
    have ih0 := estoverslaw19_AccountsChecks.mono_l k
    · intro y0 y1
      unfold estoverslaw19_AccountsChecks.j0
      repeat' first
      | (with_reducible exact ih0 _ _)
      | (with_reducible exact accounts_Check.mono _ _)
      | (with_reducible exact accounts_Total.mono _ _)
      | (with_reducible exact estoverslaw19_awake.mono _)
      | (with_reducible exact estoversref19_Check.mono _ _)
      | (with_reducible exact estoversref19_Total.mono _ _)
      | (with_reducible exact LeO.refl _)
      | (with_reducible exact LeO.none _)
      | (with_reducible refine LeO.ite ?_ ?_)
      | (with_reducible refine LeO.bind ?_ (fun _ => ?_))
      | exact ih0 _ _
      | exact accounts_Check.mono _ _
      | exact accounts_Total.mono _ _
      | exact estoverslaw19_awake.mono _
      | exact estoversref19_Check.mono _ _
      | exact estoversref19_Total.mono _ _
      | exact LeO.none _
      | refine LeO.ite ?_ ?_
      | refine LeO.bind ?_ (fun _ => ?_)
theorem estoverslaw19_AccountsChecks.mono : ∀ a0 k, LeO (estoverslaw19_AccountsChecks.f k a0) (estoverslaw19_AccountsChecks.f (k + 1) a0) := by
  intro a0 k
  have ih0 := estoverslaw19_AccountsChecks.mono_l k
  unfold estoverslaw19_AccountsChecks.f
  repeat' first
      | (with_reducible exact ih0 _ _)
      | (with_reducible exact accounts_Check.mono _ _)
      | (with_reducible exact accounts_Total.mono _ _)
      | (with_reducible exact estoverslaw19_awake.mono _)
      | (with_reducible exact estoversref19_Check.mono _ _)
      | (with_reducible exact estoversref19_Total.mono _ _)
      | (with_reducible exact LeO.refl _)
      | (with_reducible exact LeO.none _)
      | (with_reducible refine LeO.ite ?_ ?_)
      | (with_reducible refine LeO.bind ?_ (fun _ => ?_))
      | exact ih0 _ _
      | exact accounts_Check.mono _ _
      | exact accounts_Total.mono _ _
      | exact estoverslaw19_awake.mono _
      | exact estoversref19_Check.mono _ _
      | exact estoversref19_Total.mono _ _
      | exact LeO.none _
      | refine LeO.ite ?_ ?_
      | refine LeO.bind ?_ (fun _ => ?_)
set_option maxHeartbeats 8000000 in
set_option maxRecDepth 100000 in
theorem estoverslaw19_AccountsChecks.calls (k : Nat) (A0 : Option Addr) (c0 : Nat) (l0 : List (S43)) (r : Bool) (w : World) (hr0 : Kd.C k43 w A0 l0.length l0) (hc0 : l0.length ≤ c0) (h : estoverslaw19_AccountsChecks.f k l0 = some r) :
    Calls Try.prog 9 #[.slice A0 l0.length c0] w fun e w' => e = .returned (.bool r) ∧ Below w.heap.size w w' := by
  have HR0 := Aside0.mk hr0
  have HC0 := Aside0.mk hc0
  clear hr0 hc0
  have HB := Aside0.mk (Below.refl w.heap.size w)
  have H : ((estoverslaw19_awake.f k).bind fun t257 => (if t257 = true then ((estoverslaw19_Few.f l0).bind fun t258 => (estoverslaw19_AccountsChecks.j0 k l0 (!t258))) else (estoverslaw19_AccountsChecks.j0 k l0 true))) = some r := h
  clear h
  have HC2 := Aside0.mk H
  clear H
  go_enter Try.func9, Try.ntmps9
  go_upto_region 1 with (fail)
  go_cut [9] (fun v9 wc => ∃ (kq : Nat) (x9_1 : Bool), v9 = .bool x9_1 ∧ Aside0 (estoverslaw19_AccountsChecks.j0 kq l0 x9_1 = some r) ∧ Aside0 (kq ≤ k) ∧ Aside0 (Below w.heap.size w wc))
  case first =>
    have H := HC2.out
    clear HC2
    replace H := Option.bind_eq_some_iff.mp H
    obtain ⟨t257, A30, H⟩ := H
    replace H : (if t257 = true then ((estoverslaw19_Few.f l0).bind fun t258 => (estoverslaw19_AccountsChecks.j0 k l0 (!t258))) else (estoverslaw19_AccountsChecks.j0 k l0 true)) = some r := H
    have A3 := Aside0.mk A30
    clear A30
    by_cases c4 : t257 = true
    · subst c4
      have H1 : ((estoverslaw19_Few.f l0).bind fun t258 => (estoverslaw19_AccountsChecks.j0 k l0 (!t258))) = some r := by rw [if_pos rfl] at H; exact H
      clear H
      have H := H1
      clear H1
      replace H := Option.bind_eq_some_iff.mp H
      obtain ⟨t258, A50, H⟩ := H
      replace H : (estoverslaw19_AccountsChecks.j0 k l0 (!t258)) = some r := H
      have A5 := Aside0.mk A50
      clear A50
      have H' := Aside0.mk H
      clear H
      go_wp2_with (first | ((with_reducible refine gate_callee (f := 26) rfl ?_); refine goesL_ (some 3) rfl rfl Try.func26 (by kernel_rfl) rfl #[] rfl (by (try simp only [List.map_toArray, List.map_cons, List.map_nil]); first | done | rfl | (simp only [List.length_drop, List.length_take]; rfl)) ?_; (with_reducible refine (estoverslaw19_awake.calls k  true _ A3.out).mono ?_); rintro e w6 ⟨rfl, hb⟩; refine ⟨_, rfl, ?_⟩; have n0_ := Aside0.mk (below_step (by repeat (first | (with_reducible first | exact HB.out | apply below_alloc | apply pw_below_drewN | apply below_drew1) | exact HB.out)) hb); clear HB; have HB := n0_; clear n0_; (try clear hb); (try clear hb2); (try clear hk); (try clear hi)) | (go_at_call 27; (with_reducible refine (estoverslaw19_Few.calls _ _ l0 t258 _ ?side1 ?side2 A5.out).mono ?_); (case side1 => repeat (first | exact (Kd.C_below HR0.out HB.out) | (with_reducible refine Kd.C_alloc ?_ _) | (with_reducible refine Kd.C_drewN ?_ _) | (with_reducible refine Kd.C_drew ?_))); (case side2 => exact HC0.out); rintro e w' ⟨rfl, ⟨nd, rfl⟩⟩))
      go_meet
      case rel => exact ⟨_, (!t258), (by first | rfl | (simp; done) | (simp [*]; done)), H', ⟨by first | omega | exact Nat.le_refl _⟩, ⟨by repeat (first | (with_reducible first | exact HB.out | apply below_alloc | apply pw_below_drewN | apply below_drew1) | exact HB.out)⟩⟩
    · replace c4 := Bool.eq_false_iff.mpr c4
      subst c4
      have H1 : (estoverslaw19_AccountsChecks.j0 k l0 true) = some r := by rw [if_neg (show ¬ (false = true) by decide)] at H; exact H
      clear H
      have H := H1
      clear H1
      have H' := Aside0.mk H
      clear H
      go_wp2_with (first | ((with_reducible refine gate_callee (f := 26) rfl ?_); refine goesL_ (some 3) rfl rfl Try.func26 (by kernel_rfl) rfl #[] rfl (by (try simp only [List.map_toArray, List.map_cons, List.map_nil]); first | done | rfl | (simp only [List.length_drop, List.length_take]; rfl)) ?_; (with_reducible refine (estoverslaw19_awake.calls k  false _ A3.out).mono ?_); rintro e w7 ⟨rfl, hb⟩; refine ⟨_, rfl, ?_⟩; have n0_ := Aside0.mk (below_step (by repeat (first | (with_reducible first | exact HB.out | apply below_alloc | apply pw_below_drewN | apply below_drew1) | exact HB.out)) hb); clear HB; have HB := n0_; clear n0_; (try clear hb); (try clear hb2); (try clear hk); (try clear hi)))
      go_meet
      case rel => exact ⟨_, (true), (by first | rfl | (simp; done) | (simp [*]; done)), H', ⟨by first | omega | exact Nat.le_refl _⟩, ⟨by repeat (first | (with_reducible first | exact HB.out | apply below_alloc | apply pw_below_drewN | apply below_drew1) | exact HB.out)⟩⟩
  case rest =>
    clear HC2
    try clear c2
    try clear p2
    try clear c4
    obtain ⟨kq, x9_1, rfl, HA, HJ1, HB⟩ := hcut
    cases kq with
    | zero => exact absurd HA.out (by simp [estoverslaw19_AccountsChecks.j0])
    | succ kj1 =>
      have H := HA.out
      clear HA
      simp only [estoverslaw19_AccountsChecks.j0] at H
      by_cases c8 : x9_1 = true
      · subst c8
        have H1 : ((estoverslaw19_awake.f kj1).bind fun t259 => (some t259)) = some r := by rw [if_pos rfl] at H; exact H
        clear H
        have H := H1
        clear H1
        replace H := Option.bind_eq_some_iff.mp H
        obtain ⟨t259, A90, H⟩ := H
        replace H : (some t259) = some r := H
        have A9 := Aside0.mk A90
        clear A90
        obtain rfl := Option.some.inj H
        go_wp2_with (first | ((with_reducible refine gate_callee (f := 26) rfl ?_); refine goesL_ (some 10) rfl rfl Try.func26 (by kernel_rfl) rfl #[] rfl (by (try simp only [List.map_toArray, List.map_cons, List.map_nil]); first | done | rfl | (simp only [List.length_drop, List.length_take]; rfl)) ?_; (with_reducible refine (estoverslaw19_awake.calls kj1  t259 _ A9.out).mono ?_); rintro e w10 ⟨rfl, hb⟩; refine ⟨_, rfl, ?_⟩; have n0_ := Aside0.mk (below_step (by repeat (first | (with_reducible first | exact HB.out | apply below_alloc | apply pw_below_drewN | apply below_drew1) | exact HB.out)) hb); clear HB; have HB := n0_; clear n0_; (try clear hb); (try clear hb2); (try clear hk); (try clear hi)))
        go_ret
        exact ⟨by first | rfl | (simp [errW_none, errW_some] <;> rfl) | (simp [*, errW_none, errW_some] <;> rfl), by repeat (first | (with_reducible first | exact HB.out | apply below_alloc | apply pw_below_drewN | apply below_drew1) | exact HB.out)⟩
      · replace c8 := Bool.eq_false_iff.mpr c8
        subst c8
        have H1 : ((accounts_Check.f kj1 l0).bind fun t260 => ((estoversref19_Check.f kj1 l0).bind fun t261 => (if t260 = t261 then ((accounts_Total.f kj1 l0).bind fun t262 => ((estoversref19_Total.f kj1 l0).bind fun t263 => (some (t262 == t263)))) else (none)))) = some r := by rw [if_neg (show ¬ (false = true) by decide)] at H; exact H
        clear H
        have H := H1
        clear H1
        replace H := Option.bind_eq_some_iff.mp H
        obtain ⟨t260, A110, H⟩ := H
        replace H : ((estoversref19_Check.f kj1 l0).bind fun t261 => (if t260 = t261 then ((accounts_Total.f kj1 l0).bind fun t262 => ((estoversref19_Total.f kj1 l0).bind fun t263 => (some (t262 == t263)))) else (none))) = some r := H
        have A11 := Aside0.mk A110
        clear A110
        replace H := Option.bind_eq_some_iff.mp H
        obtain ⟨t261, A120, H⟩ := H
        replace H : (if t260 = t261 then ((accounts_Total.f kj1 l0).bind fun t262 => ((estoversref19_Total.f kj1 l0).bind fun t263 => (some (t262 == t263)))) else (none)) = some r := H
        have A12 := Aside0.mk A120
        clear A120
        by_cases c13 : t260 = t261
        · rw [if_pos c13] at H
          have c13b0 : (t260 == t261) = true := beq_iff_eq.mpr c13
          have c13b1 : (t260 != t261) = false := bne_eq_false_iff_eq.mpr c13
          clear c13
          replace H := Option.bind_eq_some_iff.mp H
          obtain ⟨t262, A140, H⟩ := H
          replace H : ((estoversref19_Total.f kj1 l0).bind fun t263 => (some (t262 == t263))) = some r := H
          have A14 := Aside0.mk A140
          clear A140
          replace H := Option.bind_eq_some_iff.mp H
          obtain ⟨t263, A150, H⟩ := H
          replace H : (some (t262 == t263)) = some r := H
          have A15 := Aside0.mk A150
          clear A150
          obtain rfl := Option.some.inj H
          go_wp2_with (first | ((with_reducible refine gate_callee (f := 28) rfl ?_); refine goesL_ (some 12) rfl rfl Try.func28 (by kernel_rfl) rfl #[.slice A0 l0.length c0] rfl (by (try simp only [List.map_toArray, List.map_cons, List.map_nil]); first | done | rfl | (simp only [List.length_drop, List.length_take]; rfl)) ?_; (with_reducible refine (accounts_Check.calls kj1 _ _ l0 t260 _ ?side1 ?side2 A11.out).mono ?_); (case side1 => repeat (first | exact (Kd.C_below HR0.out HB.out) | (with_reducible refine Kd.C_alloc ?_ _) | (with_reducible refine Kd.C_drewN ?_ _) | (with_reducible refine Kd.C_drew ?_))); (case side2 => exact HC0.out); rintro e w16 ⟨rfl, hb⟩; refine ⟨_, rfl, ?_⟩; have n0_ := Aside0.mk (below_step (by repeat (first | (with_reducible first | exact HB.out | apply below_alloc | apply pw_below_drewN | apply below_drew1) | exact HB.out)) hb); clear HB; have HB := n0_; clear n0_; (try clear hb); (try clear hb2); (try clear hk); (try clear hi)) | ((with_reducible refine gate_callee (f := 25) rfl ?_); refine goesL_ (some 14) rfl rfl Try.func25 (by kernel_rfl) rfl #[.slice A0 l0.length c0] rfl (by (try simp only [List.map_toArray, List.map_cons, List.map_nil]); first | done | rfl | (simp only [List.length_drop, List.length_take]; rfl)) ?_; (with_reducible refine (estoversref19_Check.calls kj1 _ _ l0 t261 _ ?side1 ?side2 A12.out).mono ?_); (case side1 => repeat (first | exact (Kd.C_below HR0.out HB.out) | (with_reducible refine Kd.C_alloc ?_ _) | (with_reducible refine Kd.C_drewN ?_ _) | (with_reducible refine Kd.C_drew ?_))); (case side2 => exact HC0.out); rintro e w' ⟨rfl, ⟨nd, rfl⟩⟩; refine ⟨_, rfl, ?_⟩) | (go_at_call 29; (with_reducible refine (accounts_Total.calls kj1 _ _ l0 t262 _ ?side1 ?side2 A14.out).mono ?_); (case side1 => repeat (first | exact (Kd.C_below HR0.out (by repeat (first | (with_reducible first | exact HB.out | apply below_alloc | apply pw_below_drewN | apply below_drew1) | exact HB.out))) | (with_reducible refine Kd.C_alloc ?_ _) | (with_reducible refine Kd.C_drewN ?_ _) | (with_reducible refine Kd.C_drew ?_))); (case side2 => exact HC0.out); rintro e w17 ⟨rfl, hb⟩; have n0_ := Aside0.mk (below_step (by repeat (first | (with_reducible first | exact HB.out | apply below_alloc | apply pw_below_drewN | apply below_drew1) | exact HB.out)) hb); clear HB; have HB := n0_; clear n0_; (try clear hb); (try clear hb2); (try clear hk); (try clear hi)) | (go_at_call 30; (with_reducible refine (estoversref19_Total.calls kj1 _ _ l0 t263 _ ?side1 ?side2 A15.out).mono ?_); (case side1 => repeat (first | exact (Kd.C_below HR0.out HB.out) | (with_reducible refine Kd.C_alloc ?_ _) | (with_reducible refine Kd.C_drewN ?_ _) | (with_reducible refine Kd.C_drew ?_))); (case side2 => exact HC0.out); rintro e w' ⟨rfl, ⟨nd, rfl⟩⟩))
          go_ret
          exact ⟨by first | rfl | (simp [errW_none, errW_some] <;> rfl) | (simp [*, errW_none, errW_some] <;> rfl), by repeat (first | (with_reducible first | exact HB.out | apply below_alloc | apply pw_below_drewN | apply below_drew1) | exact HB.out)⟩
        · rw [if_neg c13] at H
          exact absurd H (by simp)

end Go.Proofs.Ytpomppjeknmciaa.PAccountsChecks
