-- Printed by a copy of the kit's printer that this session has patched (wip/tools/patch_print.py): the session's own text. Lean checks it.
import Derived.Test.YtpomppjeknmciaaPAccountsCommutex0
import Derived.Test.YtpomppjeknmciaaPAccountsCommutex1
import Derived.Test.YtpomppjeknmciaaPAccountsCommutex3
import Derived.Test.YtpomppjeknmciaaPAccountsCommutex4
import Derived.Test.YtpomppjeknmciaaPAccountsCommutex5
namespace Go.Proofs.Ytpomppjeknmciaa.PAccountsCommute
open Go.RowKit Go.Proofs.YtpomppjeknmciaaW.PrintWords Go.Proofs.YtpomppjeknmciaaW.PrintLast Go.Proofs.YtpomppjeknmciaaW.PrintMore
attribute [local go_sem] max2_int min2_int max_two min_two max_three min_three max_four min_four   -- for this text's walks alone
set_option linter.unusedVariables false
set_option linter.unusedSimpArgs false

attribute [local go_sem high] eqA43
/-! ### estoverslaw19_awake: function 26 -/
def estoverslaw19_awake.f (k : Nat)  : Option (Bool) := (estoverslaw19_three.f).bind fun t199 => ((accounts_Path.f k t199 2).bind fun t202 => ((accounts_Margin.f k t199 2).bind fun bt205 => ((accounts_Charge.f k t199 2 2).bind fun bt208 => ((accounts_Charge.f k t199 2 3).bind fun bt213 => ((accounts_Uncharge.f k t199 1 2).bind fun bt218 => ((accounts_Check.f k t199).bind fun t222 => (if t222 = 0 then (if (t202.length : Int) = 3 then (if 0 < (t202.length : Int) then (if (rd t202 0) = 2 then (if 1 < (t202.length : Int) then (if (rd t202 1) = 1 then (if 2 < (t202.length : Int) then (if (rd t202 2) = 0 then ((accounts_Own.f k t199 0).bind fun t226 => (if t226 = 1 then ((accounts_Own.f k t199 2).bind fun t227 => (if t227 = 3 then (if bt205.1 = 2 then (if bt205.2.1 = 1 then (if bt205.2.2 = 0 then (if (bt208.1.length : Int) = 3 then (if 0 < (bt208.1.length : Int) then (if ((rd_T43 bt208.1 0).f1) = 7 then (if 1 < (bt208.1.length : Int) then (if ((rd_T43 bt208.1 1).f1) = 6 then (if 2 < (bt208.1.length : Int) then (if ((rd_T43 bt208.1 2).f1) = 5 then (if bt208.2.1 = (-1) then (if bt208.2.2 = 0 then (if bt213.2.1 = 1 then (if bt213.2.2 = 17 then (if bt218.2 = 11 then ((accounts_Total.f k t199).bind fun t231 => (if t231 = 5 then ((accounts_Inside.f k t199 2 1).bind fun t232 => (if t232 = true then ((accounts_Inside.f k t199 1 2).bind fun t233 => (some (!t233))) else (none))) else (none))) else (none)) else (none)) else (none)) else (none)) else (none)) else (none)) else (none)) else (none)) else (none)) else (none)) else (none)) else (none)) else (none)) else (none)) else (none)) else (none))) else (none))) else (none)) else (none)) else (none)) else (none)) else (none)) else (none)) else (none)) else (none))))))))
theorem estoverslaw19_awake.mono : ∀ k, LeO (estoverslaw19_awake.f k ) (estoverslaw19_awake.f (k + 1) ) := by
  intro  k
  unfold estoverslaw19_awake.f
  repeat' first
      | (with_reducible exact accounts_Charge.mono _ _ _ _)
      | (with_reducible exact accounts_Check.mono _ _)
      | (with_reducible exact accounts_Inside.mono _ _ _ _)
      | (with_reducible exact accounts_Margin.mono _ _ _)
      | (with_reducible exact accounts_Own.mono _ _ _)
      | (with_reducible exact accounts_Path.mono _ _ _)
      | (with_reducible exact accounts_Total.mono _ _)
      | (with_reducible exact accounts_Uncharge.mono _ _ _ _)
      | (with_reducible exact LeO.refl _)
      | (with_reducible exact LeO.none _)
      | (with_reducible refine LeO.ite ?_ ?_)
      | (with_reducible refine LeO.bind ?_ (fun _ => ?_))
      | exact accounts_Charge.mono _ _ _ _
      | exact accounts_Check.mono _ _
      | exact accounts_Inside.mono _ _ _ _
      | exact accounts_Margin.mono _ _ _
      | exact accounts_Own.mono _ _ _
      | exact accounts_Path.mono _ _ _
      | exact accounts_Total.mono _ _
      | exact accounts_Uncharge.mono _ _ _ _
      | exact LeO.none _
      | refine LeO.ite ?_ ?_
      | refine LeO.bind ?_ (fun _ => ?_)
set_option maxHeartbeats 8000000 in
set_option maxRecDepth 100000 in
theorem estoverslaw19_awake.calls (k : Nat)  (r : Bool) (w : World) (h : estoverslaw19_awake.f k  = some r) :
    Calls Try.prog 26 #[] w fun e w' => e = .returned (.bool r) ∧ Below w.heap.size w w' := by
  have HB := Aside0.mk (Below.refl w.heap.size w)
  have H : ((estoverslaw19_three.f).bind fun t199 => ((accounts_Path.f k t199 2).bind fun t202 => ((accounts_Margin.f k t199 2).bind fun bt205 => ((accounts_Charge.f k t199 2 2).bind fun bt208 => ((accounts_Charge.f k t199 2 3).bind fun bt213 => ((accounts_Uncharge.f k t199 1 2).bind fun bt218 => ((accounts_Check.f k t199).bind fun t222 => (if t222 = 0 then (if (t202.length : Int) = 3 then (if 0 < (t202.length : Int) then (if (rd t202 0) = 2 then (if 1 < (t202.length : Int) then (if (rd t202 1) = 1 then (if 2 < (t202.length : Int) then (if (rd t202 2) = 0 then ((accounts_Own.f k t199 0).bind fun t226 => (if t226 = 1 then ((accounts_Own.f k t199 2).bind fun t227 => (if t227 = 3 then (if bt205.1 = 2 then (if bt205.2.1 = 1 then (if bt205.2.2 = 0 then (if (bt208.1.length : Int) = 3 then (if 0 < (bt208.1.length : Int) then (if ((rd_T43 bt208.1 0).f1) = 7 then (if 1 < (bt208.1.length : Int) then (if ((rd_T43 bt208.1 1).f1) = 6 then (if 2 < (bt208.1.length : Int) then (if ((rd_T43 bt208.1 2).f1) = 5 then (if bt208.2.1 = (-1) then (if bt208.2.2 = 0 then (if bt213.2.1 = 1 then (if bt213.2.2 = 17 then (if bt218.2 = 11 then ((accounts_Total.f k t199).bind fun t231 => (if t231 = 5 then ((accounts_Inside.f k t199 2 1).bind fun t232 => (if t232 = true then ((accounts_Inside.f k t199 1 2).bind fun t233 => (some (!t233))) else (none))) else (none))) else (none)) else (none)) else (none)) else (none)) else (none)) else (none)) else (none)) else (none)) else (none)) else (none)) else (none)) else (none)) else (none)) else (none)) else (none)) else (none))) else (none))) else (none)) else (none)) else (none)) else (none)) else (none)) else (none)) else (none)) else (none))))))))) = some r := h
  clear h
  replace H := Option.bind_eq_some_iff.mp H
  obtain ⟨t199, A10, H⟩ := H
  replace H : ((accounts_Path.f k t199 2).bind fun t202 => ((accounts_Margin.f k t199 2).bind fun bt205 => ((accounts_Charge.f k t199 2 2).bind fun bt208 => ((accounts_Charge.f k t199 2 3).bind fun bt213 => ((accounts_Uncharge.f k t199 1 2).bind fun bt218 => ((accounts_Check.f k t199).bind fun t222 => (if t222 = 0 then (if (t202.length : Int) = 3 then (if 0 < (t202.length : Int) then (if (rd t202 0) = 2 then (if 1 < (t202.length : Int) then (if (rd t202 1) = 1 then (if 2 < (t202.length : Int) then (if (rd t202 2) = 0 then ((accounts_Own.f k t199 0).bind fun t226 => (if t226 = 1 then ((accounts_Own.f k t199 2).bind fun t227 => (if t227 = 3 then (if bt205.1 = 2 then (if bt205.2.1 = 1 then (if bt205.2.2 = 0 then (if (bt208.1.length : Int) = 3 then (if 0 < (bt208.1.length : Int) then (if ((rd_T43 bt208.1 0).f1) = 7 then (if 1 < (bt208.1.length : Int) then (if ((rd_T43 bt208.1 1).f1) = 6 then (if 2 < (bt208.1.length : Int) then (if ((rd_T43 bt208.1 2).f1) = 5 then (if bt208.2.1 = (-1) then (if bt208.2.2 = 0 then (if bt213.2.1 = 1 then (if bt213.2.2 = 17 then (if bt218.2 = 11 then ((accounts_Total.f k t199).bind fun t231 => (if t231 = 5 then ((accounts_Inside.f k t199 2 1).bind fun t232 => (if t232 = true then ((accounts_Inside.f k t199 1 2).bind fun t233 => (some (!t233))) else (none))) else (none))) else (none)) else (none)) else (none)) else (none)) else (none)) else (none)) else (none)) else (none)) else (none)) else (none)) else (none)) else (none)) else (none)) else (none)) else (none)) else (none))) else (none))) else (none)) else (none)) else (none)) else (none)) else (none)) else (none)) else (none)) else (none)))))))) = some r := H
  have A1 := Aside0.mk A10
  clear A10
  replace H := Option.bind_eq_some_iff.mp H
  obtain ⟨t202, A20, H⟩ := H
  replace H : ((accounts_Margin.f k t199 2).bind fun bt205 => ((accounts_Charge.f k t199 2 2).bind fun bt208 => ((accounts_Charge.f k t199 2 3).bind fun bt213 => ((accounts_Uncharge.f k t199 1 2).bind fun bt218 => ((accounts_Check.f k t199).bind fun t222 => (if t222 = 0 then (if (t202.length : Int) = 3 then (if 0 < (t202.length : Int) then (if (rd t202 0) = 2 then (if 1 < (t202.length : Int) then (if (rd t202 1) = 1 then (if 2 < (t202.length : Int) then (if (rd t202 2) = 0 then ((accounts_Own.f k t199 0).bind fun t226 => (if t226 = 1 then ((accounts_Own.f k t199 2).bind fun t227 => (if t227 = 3 then (if bt205.1 = 2 then (if bt205.2.1 = 1 then (if bt205.2.2 = 0 then (if (bt208.1.length : Int) = 3 then (if 0 < (bt208.1.length : Int) then (if ((rd_T43 bt208.1 0).f1) = 7 then (if 1 < (bt208.1.length : Int) then (if ((rd_T43 bt208.1 1).f1) = 6 then (if 2 < (bt208.1.length : Int) then (if ((rd_T43 bt208.1 2).f1) = 5 then (if bt208.2.1 = (-1) then (if bt208.2.2 = 0 then (if bt213.2.1 = 1 then (if bt213.2.2 = 17 then (if bt218.2 = 11 then ((accounts_Total.f k t199).bind fun t231 => (if t231 = 5 then ((accounts_Inside.f k t199 2 1).bind fun t232 => (if t232 = true then ((accounts_Inside.f k t199 1 2).bind fun t233 => (some (!t233))) else (none))) else (none))) else (none)) else (none)) else (none)) else (none)) else (none)) else (none)) else (none)) else (none)) else (none)) else (none)) else (none)) else (none)) else (none)) else (none)) else (none)) else (none))) else (none))) else (none)) else (none)) else (none)) else (none)) else (none)) else (none)) else (none)) else (none))))))) = some r := H
  have A2 := Aside0.mk A20
  clear A20
  replace H := Option.bind_eq_some_iff.mp H
  obtain ⟨⟨t205, t206, t207⟩, A30, H⟩ := H
  replace H : ((accounts_Charge.f k t199 2 2).bind fun bt208 => ((accounts_Charge.f k t199 2 3).bind fun bt213 => ((accounts_Uncharge.f k t199 1 2).bind fun bt218 => ((accounts_Check.f k t199).bind fun t222 => (if t222 = 0 then (if (t202.length : Int) = 3 then (if 0 < (t202.length : Int) then (if (rd t202 0) = 2 then (if 1 < (t202.length : Int) then (if (rd t202 1) = 1 then (if 2 < (t202.length : Int) then (if (rd t202 2) = 0 then ((accounts_Own.f k t199 0).bind fun t226 => (if t226 = 1 then ((accounts_Own.f k t199 2).bind fun t227 => (if t227 = 3 then (if t205 = 2 then (if t206 = 1 then (if t207 = 0 then (if (bt208.1.length : Int) = 3 then (if 0 < (bt208.1.length : Int) then (if ((rd_T43 bt208.1 0).f1) = 7 then (if 1 < (bt208.1.length : Int) then (if ((rd_T43 bt208.1 1).f1) = 6 then (if 2 < (bt208.1.length : Int) then (if ((rd_T43 bt208.1 2).f1) = 5 then (if bt208.2.1 = (-1) then (if bt208.2.2 = 0 then (if bt213.2.1 = 1 then (if bt213.2.2 = 17 then (if bt218.2 = 11 then ((accounts_Total.f k t199).bind fun t231 => (if t231 = 5 then ((accounts_Inside.f k t199 2 1).bind fun t232 => (if t232 = true then ((accounts_Inside.f k t199 1 2).bind fun t233 => (some (!t233))) else (none))) else (none))) else (none)) else (none)) else (none)) else (none)) else (none)) else (none)) else (none)) else (none)) else (none)) else (none)) else (none)) else (none)) else (none)) else (none)) else (none)) else (none))) else (none))) else (none)) else (none)) else (none)) else (none)) else (none)) else (none)) else (none)) else (none)))))) = some r := H
  have A3 := Aside0.mk A30
  clear A30
  replace H := Option.bind_eq_some_iff.mp H
  obtain ⟨⟨t208, t209, t210⟩, A40, H⟩ := H
  replace H : ((accounts_Charge.f k t199 2 3).bind fun bt213 => ((accounts_Uncharge.f k t199 1 2).bind fun bt218 => ((accounts_Check.f k t199).bind fun t222 => (if t222 = 0 then (if (t202.length : Int) = 3 then (if 0 < (t202.length : Int) then (if (rd t202 0) = 2 then (if 1 < (t202.length : Int) then (if (rd t202 1) = 1 then (if 2 < (t202.length : Int) then (if (rd t202 2) = 0 then ((accounts_Own.f k t199 0).bind fun t226 => (if t226 = 1 then ((accounts_Own.f k t199 2).bind fun t227 => (if t227 = 3 then (if t205 = 2 then (if t206 = 1 then (if t207 = 0 then (if (t208.length : Int) = 3 then (if 0 < (t208.length : Int) then (if ((rd_T43 t208 0).f1) = 7 then (if 1 < (t208.length : Int) then (if ((rd_T43 t208 1).f1) = 6 then (if 2 < (t208.length : Int) then (if ((rd_T43 t208 2).f1) = 5 then (if t209 = (-1) then (if t210 = 0 then (if bt213.2.1 = 1 then (if bt213.2.2 = 17 then (if bt218.2 = 11 then ((accounts_Total.f k t199).bind fun t231 => (if t231 = 5 then ((accounts_Inside.f k t199 2 1).bind fun t232 => (if t232 = true then ((accounts_Inside.f k t199 1 2).bind fun t233 => (some (!t233))) else (none))) else (none))) else (none)) else (none)) else (none)) else (none)) else (none)) else (none)) else (none)) else (none)) else (none)) else (none)) else (none)) else (none)) else (none)) else (none)) else (none)) else (none))) else (none))) else (none)) else (none)) else (none)) else (none)) else (none)) else (none)) else (none)) else (none))))) = some r := H
  have A4 := Aside0.mk A40
  clear A40
  replace H := Option.bind_eq_some_iff.mp H
  obtain ⟨⟨t213, t214, t215⟩, A50, H⟩ := H
  replace H : ((accounts_Uncharge.f k t199 1 2).bind fun bt218 => ((accounts_Check.f k t199).bind fun t222 => (if t222 = 0 then (if (t202.length : Int) = 3 then (if 0 < (t202.length : Int) then (if (rd t202 0) = 2 then (if 1 < (t202.length : Int) then (if (rd t202 1) = 1 then (if 2 < (t202.length : Int) then (if (rd t202 2) = 0 then ((accounts_Own.f k t199 0).bind fun t226 => (if t226 = 1 then ((accounts_Own.f k t199 2).bind fun t227 => (if t227 = 3 then (if t205 = 2 then (if t206 = 1 then (if t207 = 0 then (if (t208.length : Int) = 3 then (if 0 < (t208.length : Int) then (if ((rd_T43 t208 0).f1) = 7 then (if 1 < (t208.length : Int) then (if ((rd_T43 t208 1).f1) = 6 then (if 2 < (t208.length : Int) then (if ((rd_T43 t208 2).f1) = 5 then (if t209 = (-1) then (if t210 = 0 then (if t214 = 1 then (if t215 = 17 then (if bt218.2 = 11 then ((accounts_Total.f k t199).bind fun t231 => (if t231 = 5 then ((accounts_Inside.f k t199 2 1).bind fun t232 => (if t232 = true then ((accounts_Inside.f k t199 1 2).bind fun t233 => (some (!t233))) else (none))) else (none))) else (none)) else (none)) else (none)) else (none)) else (none)) else (none)) else (none)) else (none)) else (none)) else (none)) else (none)) else (none)) else (none)) else (none)) else (none)) else (none))) else (none))) else (none)) else (none)) else (none)) else (none)) else (none)) else (none)) else (none)) else (none)))) = some r := H
  have A5 := Aside0.mk A50
  clear A50
  replace H := Option.bind_eq_some_iff.mp H
  obtain ⟨⟨t218, t219⟩, A60, H⟩ := H
  replace H : ((accounts_Check.f k t199).bind fun t222 => (if t222 = 0 then (if (t202.length : Int) = 3 then (if 0 < (t202.length : Int) then (if (rd t202 0) = 2 then (if 1 < (t202.length : Int) then (if (rd t202 1) = 1 then (if 2 < (t202.length : Int) then (if (rd t202 2) = 0 then ((accounts_Own.f k t199 0).bind fun t226 => (if t226 = 1 then ((accounts_Own.f k t199 2).bind fun t227 => (if t227 = 3 then (if t205 = 2 then (if t206 = 1 then (if t207 = 0 then (if (t208.length : Int) = 3 then (if 0 < (t208.length : Int) then (if ((rd_T43 t208 0).f1) = 7 then (if 1 < (t208.length : Int) then (if ((rd_T43 t208 1).f1) = 6 then (if 2 < (t208.length : Int) then (if ((rd_T43 t208 2).f1) = 5 then (if t209 = (-1) then (if t210 = 0 then (if t214 = 1 then (if t215 = 17 then (if t219 = 11 then ((accounts_Total.f k t199).bind fun t231 => (if t231 = 5 then ((accounts_Inside.f k t199 2 1).bind fun t232 => (if t232 = true then ((accounts_Inside.f k t199 1 2).bind fun t233 => (some (!t233))) else (none))) else (none))) else (none)) else (none)) else (none)) else (none)) else (none)) else (none)) else (none)) else (none)) else (none)) else (none)) else (none)) else (none)) else (none)) else (none)) else (none)) else (none))) else (none))) else (none)) else (none)) else (none)) else (none)) else (none)) else (none)) else (none)) else (none))) = some r := H
  have A6 := Aside0.mk A60
  clear A60
  replace H := Option.bind_eq_some_iff.mp H
  obtain ⟨t222, A70, H⟩ := H
  replace H : (if t222 = 0 then (if (t202.length : Int) = 3 then (if 0 < (t202.length : Int) then (if (rd t202 0) = 2 then (if 1 < (t202.length : Int) then (if (rd t202 1) = 1 then (if 2 < (t202.length : Int) then (if (rd t202 2) = 0 then ((accounts_Own.f k t199 0).bind fun t226 => (if t226 = 1 then ((accounts_Own.f k t199 2).bind fun t227 => (if t227 = 3 then (if t205 = 2 then (if t206 = 1 then (if t207 = 0 then (if (t208.length : Int) = 3 then (if 0 < (t208.length : Int) then (if ((rd_T43 t208 0).f1) = 7 then (if 1 < (t208.length : Int) then (if ((rd_T43 t208 1).f1) = 6 then (if 2 < (t208.length : Int) then (if ((rd_T43 t208 2).f1) = 5 then (if t209 = (-1) then (if t210 = 0 then (if t214 = 1 then (if t215 = 17 then (if t219 = 11 then ((accounts_Total.f k t199).bind fun t231 => (if t231 = 5 then ((accounts_Inside.f k t199 2 1).bind fun t232 => (if t232 = true then ((accounts_Inside.f k t199 1 2).bind fun t233 => (some (!t233))) else (none))) else (none))) else (none)) else (none)) else (none)) else (none)) else (none)) else (none)) else (none)) else (none)) else (none)) else (none)) else (none)) else (none)) else (none)) else (none)) else (none)) else (none))) else (none))) else (none)) else (none)) else (none)) else (none)) else (none)) else (none)) else (none)) else (none)) = some r := H
  have A7 := Aside0.mk A70
  clear A70
  by_cases c8 : t222 = 0
  · rw [if_pos c8] at H
    have c8b0 : (t222 == 0) = true := beq_iff_eq.mpr c8
    have c8b1 : (t222 != 0) = false := bne_eq_false_iff_eq.mpr c8
    clear c8
    by_cases c9 : (t202.length : Int) = 3
    · rw [if_pos c9] at H
      have c9b0 : ((t202.length : Int) == 3) = true := beq_iff_eq.mpr c9
      have c9b1 : ((t202.length : Int) != 3) = false := bne_eq_false_iff_eq.mpr c9
      clear c9
      by_cases c10 : 0 < (t202.length : Int)
      · rw [if_pos c10] at H
        have c10b0 : decide (0 < (t202.length : Int)) = true := decide_eq_true c10
        have c10b1 : decide (0 < t202.length) = true := decide_eq_true (by omega)
        clear c10
        by_cases c11 : (rd t202 0) = 2
        · rw [if_pos c11] at H
          have c11b0 : ((rd t202 0) == 2) = true := beq_iff_eq.mpr c11
          have c11b1 : ((rd t202 0) != 2) = false := bne_eq_false_iff_eq.mpr c11
          clear c11
          by_cases c12 : 1 < (t202.length : Int)
          · rw [if_pos c12] at H
            have c12b0 : decide (1 < (t202.length : Int)) = true := decide_eq_true c12
            have c12b1 : decide (1 < t202.length) = true := decide_eq_true (by omega)
            clear c12
            by_cases c13 : (rd t202 1) = 1
            · rw [if_pos c13] at H
              have c13b0 : ((rd t202 1) == 1) = true := beq_iff_eq.mpr c13
              have c13b1 : ((rd t202 1) != 1) = false := bne_eq_false_iff_eq.mpr c13
              clear c13
              by_cases c14 : 2 < (t202.length : Int)
              · rw [if_pos c14] at H
                have c14b0 : decide (2 < (t202.length : Int)) = true := decide_eq_true c14
                have c14b1 : decide (2 < t202.length) = true := decide_eq_true (by omega)
                clear c14
                by_cases c15 : (rd t202 2) = 0
                · rw [if_pos c15] at H
                  have c15b0 : ((rd t202 2) == 0) = true := beq_iff_eq.mpr c15
                  have c15b1 : ((rd t202 2) != 0) = false := bne_eq_false_iff_eq.mpr c15
                  clear c15
                  replace H := Option.bind_eq_some_iff.mp H
                  obtain ⟨t226, A160, H⟩ := H
                  replace H : (if t226 = 1 then ((accounts_Own.f k t199 2).bind fun t227 => (if t227 = 3 then (if t205 = 2 then (if t206 = 1 then (if t207 = 0 then (if (t208.length : Int) = 3 then (if 0 < (t208.length : Int) then (if ((rd_T43 t208 0).f1) = 7 then (if 1 < (t208.length : Int) then (if ((rd_T43 t208 1).f1) = 6 then (if 2 < (t208.length : Int) then (if ((rd_T43 t208 2).f1) = 5 then (if t209 = (-1) then (if t210 = 0 then (if t214 = 1 then (if t215 = 17 then (if t219 = 11 then ((accounts_Total.f k t199).bind fun t231 => (if t231 = 5 then ((accounts_Inside.f k t199 2 1).bind fun t232 => (if t232 = true then ((accounts_Inside.f k t199 1 2).bind fun t233 => (some (!t233))) else (none))) else (none))) else (none)) else (none)) else (none)) else (none)) else (none)) else (none)) else (none)) else (none)) else (none)) else (none)) else (none)) else (none)) else (none)) else (none)) else (none)) else (none))) else (none)) = some r := H
                  have A16 := Aside0.mk A160
                  clear A160
                  by_cases c17 : t226 = 1
                  · rw [if_pos c17] at H
                    have c17b0 : (t226 == 1) = true := beq_iff_eq.mpr c17
                    have c17b1 : (t226 != 1) = false := bne_eq_false_iff_eq.mpr c17
                    clear c17
                    replace H := Option.bind_eq_some_iff.mp H
                    obtain ⟨t227, A180, H⟩ := H
                    replace H : (if t227 = 3 then (if t205 = 2 then (if t206 = 1 then (if t207 = 0 then (if (t208.length : Int) = 3 then (if 0 < (t208.length : Int) then (if ((rd_T43 t208 0).f1) = 7 then (if 1 < (t208.length : Int) then (if ((rd_T43 t208 1).f1) = 6 then (if 2 < (t208.length : Int) then (if ((rd_T43 t208 2).f1) = 5 then (if t209 = (-1) then (if t210 = 0 then (if t214 = 1 then (if t215 = 17 then (if t219 = 11 then ((accounts_Total.f k t199).bind fun t231 => (if t231 = 5 then ((accounts_Inside.f k t199 2 1).bind fun t232 => (if t232 = true then ((accounts_Inside.f k t199 1 2).bind fun t233 => (some (!t233))) else (none))) else (none))) else (none)) else (none)) else (none)) else (none)) else (none)) else (none)) else (none)) else (none)) else (none)) else (none)) else (none)) else (none)) else (none)) else (none)) else (none)) else (none)) = some r := H
                    have A18 := Aside0.mk A180
                    clear A180
                    by_cases c19 : t227 = 3
                    · rw [if_pos c19] at H
                      have c19b0 : (t227 == 3) = true := beq_iff_eq.mpr c19
                      have c19b1 : (t227 != 3) = false := bne_eq_false_iff_eq.mpr c19
                      clear c19
                      by_cases c20 : t205 = 2
                      · rw [if_pos c20] at H
                        have c20b0 : (t205 == 2) = true := beq_iff_eq.mpr c20
                        have c20b1 : (t205 != 2) = false := bne_eq_false_iff_eq.mpr c20
                        clear c20
                        by_cases c21 : t206 = 1
                        · rw [if_pos c21] at H
                          have c21b0 : (t206 == 1) = true := beq_iff_eq.mpr c21
                          have c21b1 : (t206 != 1) = false := bne_eq_false_iff_eq.mpr c21
                          clear c21
                          by_cases c22 : t207 = 0
                          · rw [if_pos c22] at H
                            have c22b0 : (t207 == 0) = true := beq_iff_eq.mpr c22
                            have c22b1 : (t207 != 0) = false := bne_eq_false_iff_eq.mpr c22
                            clear c22
                            by_cases c23 : (t208.length : Int) = 3
                            · rw [if_pos c23] at H
                              have c23b0 : ((t208.length : Int) == 3) = true := beq_iff_eq.mpr c23
                              have c23b1 : ((t208.length : Int) != 3) = false := bne_eq_false_iff_eq.mpr c23
                              clear c23
                              by_cases c24 : 0 < (t208.length : Int)
                              · rw [if_pos c24] at H
                                have c24b0 : decide (0 < (t208.length : Int)) = true := decide_eq_true c24
                                have c24b1 : decide (0 < t208.length) = true := decide_eq_true (by omega)
                                clear c24
                                by_cases c25 : ((rd_T43 t208 0).f1) = 7
                                · rw [if_pos c25] at H
                                  have c25b0 : (((rd_T43 t208 0).f1) == 7) = true := beq_iff_eq.mpr c25
                                  have c25b1 : (((rd_T43 t208 0).f1) != 7) = false := bne_eq_false_iff_eq.mpr c25
                                  clear c25
                                  by_cases c26 : 1 < (t208.length : Int)
                                  · rw [if_pos c26] at H
                                    have c26b0 : decide (1 < (t208.length : Int)) = true := decide_eq_true c26
                                    have c26b1 : decide (1 < t208.length) = true := decide_eq_true (by omega)
                                    clear c26
                                    by_cases c27 : ((rd_T43 t208 1).f1) = 6
                                    · rw [if_pos c27] at H
                                      have c27b0 : (((rd_T43 t208 1).f1) == 6) = true := beq_iff_eq.mpr c27
                                      have c27b1 : (((rd_T43 t208 1).f1) != 6) = false := bne_eq_false_iff_eq.mpr c27
                                      clear c27
                                      by_cases c28 : 2 < (t208.length : Int)
                                      · rw [if_pos c28] at H
                                        have c28b0 : decide (2 < (t208.length : Int)) = true := decide_eq_true c28
                                        have c28b1 : decide (2 < t208.length) = true := decide_eq_true (by omega)
                                        clear c28
                                        by_cases c29 : ((rd_T43 t208 2).f1) = 5
                                        · rw [if_pos c29] at H
                                          have c29b0 : (((rd_T43 t208 2).f1) == 5) = true := beq_iff_eq.mpr c29
                                          have c29b1 : (((rd_T43 t208 2).f1) != 5) = false := bne_eq_false_iff_eq.mpr c29
                                          clear c29
                                          by_cases c30 : t209 = (-1)
                                          · rw [if_pos c30] at H
                                            have c30b0 : (t209 == (-1)) = true := beq_iff_eq.mpr c30
                                            have c30b1 : (t209 != (-1)) = false := bne_eq_false_iff_eq.mpr c30
                                            clear c30
                                            by_cases c31 : t210 = 0
                                            · rw [if_pos c31] at H
                                              have c31b0 : (t210 == 0) = true := beq_iff_eq.mpr c31
                                              have c31b1 : (t210 != 0) = false := bne_eq_false_iff_eq.mpr c31
                                              clear c31
                                              by_cases c32 : t214 = 1
                                              · rw [if_pos c32] at H
                                                have c32b0 : (t214 == 1) = true := beq_iff_eq.mpr c32
                                                have c32b1 : (t214 != 1) = false := bne_eq_false_iff_eq.mpr c32
                                                clear c32
                                                by_cases c33 : t215 = 17
                                                · rw [if_pos c33] at H
                                                  have c33b0 : (t215 == 17) = true := beq_iff_eq.mpr c33
                                                  have c33b1 : (t215 != 17) = false := bne_eq_false_iff_eq.mpr c33
                                                  clear c33
                                                  by_cases c34 : t219 = 11
                                                  · rw [if_pos c34] at H
                                                    have c34b0 : (t219 == 11) = true := beq_iff_eq.mpr c34
                                                    have c34b1 : (t219 != 11) = false := bne_eq_false_iff_eq.mpr c34
                                                    clear c34
                                                    replace H := Option.bind_eq_some_iff.mp H
                                                    obtain ⟨t231, A350, H⟩ := H
                                                    replace H : (if t231 = 5 then ((accounts_Inside.f k t199 2 1).bind fun t232 => (if t232 = true then ((accounts_Inside.f k t199 1 2).bind fun t233 => (some (!t233))) else (none))) else (none)) = some r := H
                                                    have A35 := Aside0.mk A350
                                                    clear A350
                                                    by_cases c36 : t231 = 5
                                                    · rw [if_pos c36] at H
                                                      have c36b0 : (t231 == 5) = true := beq_iff_eq.mpr c36
                                                      have c36b1 : (t231 != 5) = false := bne_eq_false_iff_eq.mpr c36
                                                      clear c36
                                                      replace H := Option.bind_eq_some_iff.mp H
                                                      obtain ⟨t232, A370, H⟩ := H
                                                      replace H : (if t232 = true then ((accounts_Inside.f k t199 1 2).bind fun t233 => (some (!t233))) else (none)) = some r := H
                                                      have A37 := Aside0.mk A370
                                                      clear A370
                                                      by_cases c38 : t232 = true
                                                      · subst c38
                                                        have H1 : ((accounts_Inside.f k t199 1 2).bind fun t233 => (some (!t233))) = some r := by rw [if_pos rfl] at H; exact H
                                                        clear H
                                                        have H := H1
                                                        clear H1
                                                        replace H := Option.bind_eq_some_iff.mp H
                                                        obtain ⟨t233, A390, H⟩ := H
                                                        replace H : (some (!t233)) = some r := H
                                                        have A39 := Aside0.mk A390
                                                        clear A390
                                                        obtain rfl := Option.some.inj H
                                                        go_enter Try.func26, Try.ntmps26
                                                        (try (go_upto_region 7 with (first | ((with_reducible refine gate_callee (f := 47) rfl ?_); refine goesL_ (some 14) rfl rfl Try.func47 (by kernel_rfl) rfl #[] rfl (by (try simp only [List.map_toArray, List.map_cons, List.map_nil]); first | done | rfl | (simp only [List.length_drop, List.length_take]; rfl)) ?_; (with_reducible refine (estoverslaw19_three.calls  t199 _ A1.out).mono ?_); rintro e w40 ⟨v200, rfl, ho0, hb⟩; refine ⟨_, rfl, ?_⟩; have n0_ := Aside0.mk (Kd.R_lower ho0 (below_size (by repeat (first | (with_reducible first | exact HB.out | apply below_alloc | apply pw_below_drewN | apply below_drew1) | exact HB.out)))); have n1_ := Aside0.mk (below_step (by repeat (first | (with_reducible first | exact HB.out | apply below_alloc | apply pw_below_drewN | apply below_drew1) | exact HB.out)) hb); clear HB; have HO201 := n0_; have HB := n1_; clear n0_ n1_; (try clear hb); (try clear hb2); (try clear hk); (try clear hi); (try clear ho0); obtain ⟨Ao41, co41, eo41⟩ := Kd.R_slice HO201.out; subst eo41) | ((with_reducible refine gate_callee (f := 31) rfl ?_); refine goesL_ (some 16) rfl rfl Try.func31 (by kernel_rfl) rfl #[.slice Ao41 t199.length co41, .int .i64 2] rfl (by (try simp only [List.map_toArray, List.map_cons, List.map_nil]); first | done | rfl | (simp only [List.length_drop, List.length_take]; rfl)) ?_; (with_reducible refine (accounts_Path.calls k _ _ t199 2 t202 _ ?side1 ?side2 A2.out).mono ?_); (case side1 => repeat (first | exact (Kd.R_reads' HO201.out).2.2 | (with_reducible refine Kd.C_alloc ?_ _) | (with_reducible refine Kd.C_drewN ?_ _) | (with_reducible refine Kd.C_drew ?_))); (case side2 => exact (Kd.R_reads' HO201.out).2.1); rintro e w42 ⟨v203, rfl, ho0, hb⟩; refine ⟨_, rfl, ?_⟩; have n0_ := Aside0.mk (Kd.R_below (by (with_reducible repeat (first | apply Kd.R_alloc | apply Kd.R_drewN | apply Kd.R_drew)); exact HO201.out) hb); have n1_ := Aside0.mk (Kd.R_lower ho0 (below_size (by repeat (first | (with_reducible first | exact HB.out | apply below_alloc | apply pw_below_drewN | apply below_drew1) | exact HB.out)))); have n2_ := Aside0.mk (below_step (by repeat (first | (with_reducible first | exact HB.out | apply below_alloc | apply pw_below_drewN | apply below_drew1) | exact HB.out)) hb); clear HO201; clear HB; have HO201 := n0_; have HO204 := n1_; have HB := n2_; clear n0_ n1_ n2_; (try clear hb); (try clear hb2); (try clear hk); (try clear hi); (try clear ho0)) | ((with_reducible refine gate_callee (f := 33) rfl ?_); refine goesL_ (some 19) rfl rfl Try.func33 (by kernel_rfl) rfl #[.slice Ao41 t199.length co41, .int .i64 2] rfl (by (try simp only [List.map_toArray, List.map_cons, List.map_nil]); first | done | rfl | (simp only [List.length_drop, List.length_take]; rfl)) ?_; (with_reducible refine (accounts_Margin.calls k _ _ t199 2 t205 t206 t207 _ ?side1 ?side2 A3.out).mono ?_); (case side1 => repeat (first | exact (Kd.R_reads' HO201.out).2.2 | (with_reducible refine Kd.C_alloc ?_ _) | (with_reducible refine Kd.C_drewN ?_ _) | (with_reducible refine Kd.C_drew ?_))); (case side2 => exact (Kd.R_reads' HO201.out).2.1); rintro e w43 ⟨rfl, hb⟩; refine ⟨_, rfl, ?_⟩; have n0_ := Aside0.mk (Kd.R_below (by (with_reducible repeat (first | apply Kd.R_alloc | apply Kd.R_drewN | apply Kd.R_drew)); exact HO201.out) hb); have n1_ := Aside0.mk (Kd.R_below (by (with_reducible repeat (first | apply Kd.R_alloc | apply Kd.R_drewN | apply Kd.R_drew)); exact HO204.out) hb); have n2_ := Aside0.mk (below_step (by repeat (first | (with_reducible first | exact HB.out | apply below_alloc | apply pw_below_drewN | apply below_drew1) | exact HB.out)) hb); clear HO201; clear HO204; clear HB; have HO201 := n0_; have HO204 := n1_; have HB := n2_; clear n0_ n1_ n2_; (try clear hb); (try clear hb2); (try clear hk); (try clear hi)) | ((with_reducible refine gate_callee (f := 39) rfl ?_); refine goesL_ (some 25) rfl rfl Try.func39 (by kernel_rfl) rfl #[.slice Ao41 t199.length co41, .int .i64 2, .int .i64 2] rfl (by (try simp only [List.map_toArray, List.map_cons, List.map_nil]); first | done | rfl | (simp only [List.length_drop, List.length_take]; rfl)) ?_; (with_reducible refine (accounts_Charge.calls k _ _ t199 2 2 t208 t209 t210 _ ?side1 ?side2 A4.out).mono ?_); (case side1 => repeat (first | exact (Kd.R_reads' HO201.out).2.2 | (with_reducible refine Kd.C_alloc ?_ _) | (with_reducible refine Kd.C_drewN ?_ _) | (with_reducible refine Kd.C_drew ?_))); (case side2 => exact (Kd.R_reads' HO201.out).2.1); rintro e w44 ⟨v211, rfl, ho0, hb⟩; refine ⟨_, rfl, ?_⟩; have n0_ := Aside0.mk (Kd.R_elder' (by (with_reducible repeat (first | apply Kd.R_alloc | apply Kd.R_drewN | apply Kd.R_drew)); exact HO201.out) (Kd.R_base ho0) hb); have n1_ := Aside0.mk (Kd.R_below (by (with_reducible repeat (first | apply Kd.R_alloc | apply Kd.R_drewN | apply Kd.R_drew)); exact HO204.out) hb); have n2_ := Aside0.mk (Kd.R_lower (Kd.R_new' ho0 (Kd.R_lt (by (with_reducible repeat (first | apply Kd.R_alloc | apply Kd.R_drewN | apply Kd.R_drew)); exact HO201.out))) (below_size (by repeat (first | (with_reducible first | exact HB.out | apply below_alloc | apply pw_below_drewN | apply below_drew1) | exact HB.out)))); have n3_ := Aside0.mk (below_step (by repeat (first | (with_reducible first | exact HB.out | apply below_alloc | apply pw_below_drewN | apply below_drew1) | exact HB.out)) hb); clear HO201; clear HO204; clear HB; have HO201 := n0_; have HO204 := n1_; have HO212 := n2_; have HB := n3_; clear n0_ n1_ n2_ n3_; (try clear hb); (try clear hb2); (try clear hk); (try clear hi); (try clear ho0)) | ((with_reducible refine gate_callee (f := 39) rfl ?_); refine goesL_ (some 31) rfl rfl Try.func39 (by kernel_rfl) rfl #[.slice Ao41 t199.length co41, .int .i64 2, .int .i64 3] rfl (by (try simp only [List.map_toArray, List.map_cons, List.map_nil]); first | done | rfl | (simp only [List.length_drop, List.length_take]; rfl)) ?_; (with_reducible refine (accounts_Charge.calls k _ _ t199 2 3 t213 t214 t215 _ ?side1 ?side2 A5.out).mono ?_); (case side1 => repeat (first | exact (Kd.R_reads' HO201.out).2.2 | (with_reducible refine Kd.C_alloc ?_ _) | (with_reducible refine Kd.C_drewN ?_ _) | (with_reducible refine Kd.C_drew ?_))); (case side2 => exact (Kd.R_reads' HO201.out).2.1); rintro e w45 ⟨v216, rfl, ho0, hb⟩; refine ⟨_, rfl, ?_⟩; have n0_ := Aside0.mk (Kd.R_elder' (by (with_reducible repeat (first | apply Kd.R_alloc | apply Kd.R_drewN | apply Kd.R_drew)); exact HO201.out) (Kd.R_base ho0) hb); have n1_ := Aside0.mk (Kd.R_below (by (with_reducible repeat (first | apply Kd.R_alloc | apply Kd.R_drewN | apply Kd.R_drew)); exact HO204.out) hb); have n2_ := Aside0.mk (Kd.R_elder' (by (with_reducible repeat (first | apply Kd.R_alloc | apply Kd.R_drewN | apply Kd.R_drew)); exact HO212.out) (Kd.R_base ho0) hb); have n3_ := Aside0.mk (Kd.R_lower (Kd.R_new' (Kd.R_new' ho0 (Kd.R_lt (by (with_reducible repeat (first | apply Kd.R_alloc | apply Kd.R_drewN | apply Kd.R_drew)); exact HO201.out))) (Kd.R_lt (by (with_reducible repeat (first | apply Kd.R_alloc | apply Kd.R_drewN | apply Kd.R_drew)); exact HO212.out))) (below_size (by repeat (first | (with_reducible first | exact HB.out | apply below_alloc | apply pw_below_drewN | apply below_drew1) | exact HB.out)))); have n4_ := Aside0.mk (below_step (by repeat (first | (with_reducible first | exact HB.out | apply below_alloc | apply pw_below_drewN | apply below_drew1) | exact HB.out)) hb); clear HO201; clear HO204; clear HO212; clear HB; have HO201 := n0_; have HO204 := n1_; have HO212 := n2_; have HO217 := n3_; have HB := n4_; clear n0_ n1_ n2_ n3_ n4_; (try clear hb); (try clear hb2); (try clear hk); (try clear hi); (try clear ho0)) | ((with_reducible refine gate_callee (f := 41) rfl ?_); refine goesL_ (some 37) rfl rfl Try.func41 (by kernel_rfl) rfl #[.slice Ao41 t199.length co41, .int .i64 1, .int .i64 2] rfl (by (try simp only [List.map_toArray, List.map_cons, List.map_nil]); first | done | rfl | (simp only [List.length_drop, List.length_take]; rfl)) ?_; (with_reducible refine (accounts_Uncharge.calls k _ _ t199 1 2 t218 t219 _ ?side1 ?side2 A6.out).mono ?_); (case side1 => repeat (first | exact (Kd.R_reads' HO201.out).2.2 | (with_reducible refine Kd.C_alloc ?_ _) | (with_reducible refine Kd.C_drewN ?_ _) | (with_reducible refine Kd.C_drew ?_))); (case side2 => exact (Kd.R_reads' HO201.out).2.1); rintro e w46 ⟨v220, rfl, ho0, hb⟩; refine ⟨_, rfl, ?_⟩; have n0_ := Aside0.mk (Kd.R_elder' (by (with_reducible repeat (first | apply Kd.R_alloc | apply Kd.R_drewN | apply Kd.R_drew)); exact HO201.out) (Kd.R_base ho0) hb); have n1_ := Aside0.mk (Kd.R_below (by (with_reducible repeat (first | apply Kd.R_alloc | apply Kd.R_drewN | apply Kd.R_drew)); exact HO204.out) hb); have n2_ := Aside0.mk (Kd.R_elder' (by (with_reducible repeat (first | apply Kd.R_alloc | apply Kd.R_drewN | apply Kd.R_drew)); exact HO212.out) (Kd.R_base ho0) hb); have n3_ := Aside0.mk (Kd.R_elder' (by (with_reducible repeat (first | apply Kd.R_alloc | apply Kd.R_drewN | apply Kd.R_drew)); exact HO217.out) (Kd.R_base ho0) hb); have n4_ := Aside0.mk (Kd.R_lower (Kd.R_new' (Kd.R_new' (Kd.R_new' ho0 (Kd.R_lt (by (with_reducible repeat (first | apply Kd.R_alloc | apply Kd.R_drewN | apply Kd.R_drew)); exact HO201.out))) (Kd.R_lt (by (with_reducible repeat (first | apply Kd.R_alloc | apply Kd.R_drewN | apply Kd.R_drew)); exact HO212.out))) (Kd.R_lt (by (with_reducible repeat (first | apply Kd.R_alloc | apply Kd.R_drewN | apply Kd.R_drew)); exact HO217.out))) (below_size (by repeat (first | (with_reducible first | exact HB.out | apply below_alloc | apply pw_below_drewN | apply below_drew1) | exact HB.out)))); have n5_ := Aside0.mk (below_step (by repeat (first | (with_reducible first | exact HB.out | apply below_alloc | apply pw_below_drewN | apply below_drew1) | exact HB.out)) hb); clear HO201; clear HO204; clear HO212; clear HO217; clear HB; have HO201 := n0_; have HO204 := n1_; have HO212 := n2_; have HO217 := n3_; have HO221 := n4_; have HB := n5_; clear n0_ n1_ n2_ n3_ n4_ n5_; (try clear hb); (try clear hb2); (try clear hk); (try clear hi); (try clear ho0)) | ((with_reducible refine gate_callee (f := 28) rfl ?_); refine goesL_ (some 41) rfl rfl Try.func28 (by kernel_rfl) rfl #[.slice Ao41 t199.length co41] rfl (by (try simp only [List.map_toArray, List.map_cons, List.map_nil]); first | done | rfl | (simp only [List.length_drop, List.length_take]; rfl)) ?_; (with_reducible refine (accounts_Check.calls k _ _ t199 t222 _ ?side1 ?side2 A7.out).mono ?_); (case side1 => repeat (first | exact (Kd.R_reads' HO201.out).2.2 | (with_reducible refine Kd.C_alloc ?_ _) | (with_reducible refine Kd.C_drewN ?_ _) | (with_reducible refine Kd.C_drew ?_))); (case side2 => exact (Kd.R_reads' HO201.out).2.1); rintro e w47 ⟨rfl, hb⟩; refine ⟨_, rfl, ?_⟩; have n0_ := Aside0.mk (Kd.R_below (by (with_reducible repeat (first | apply Kd.R_alloc | apply Kd.R_drewN | apply Kd.R_drew)); exact HO201.out) hb); have n1_ := Aside0.mk (Kd.R_below (by (with_reducible repeat (first | apply Kd.R_alloc | apply Kd.R_drewN | apply Kd.R_drew)); exact HO204.out) hb); have n2_ := Aside0.mk (Kd.R_below (by (with_reducible repeat (first | apply Kd.R_alloc | apply Kd.R_drewN | apply Kd.R_drew)); exact HO212.out) hb); have n3_ := Aside0.mk (Kd.R_below (by (with_reducible repeat (first | apply Kd.R_alloc | apply Kd.R_drewN | apply Kd.R_drew)); exact HO217.out) hb); have n4_ := Aside0.mk (Kd.R_below (by (with_reducible repeat (first | apply Kd.R_alloc | apply Kd.R_drewN | apply Kd.R_drew)); exact HO221.out) hb); have n5_ := Aside0.mk (below_step (by repeat (first | (with_reducible first | exact HB.out | apply below_alloc | apply pw_below_drewN | apply below_drew1) | exact HB.out)) hb); clear HO201; clear HO204; clear HO212; clear HO217; clear HO221; clear HB; have HO201 := n0_; have HO204 := n1_; have HO212 := n2_; have HO217 := n3_; have HO221 := n4_; have HB := n5_; clear n0_ n1_ n2_ n3_ n4_ n5_; (try clear hb); (try clear hb2); (try clear hk); (try clear hi); obtain ⟨Ao48, co48, eo48⟩ := Kd.R_slice HO204.out; subst eo48; have p223 : 0 ≤ (0 : Int) := (by omega); have q223 : 0 < (t202.length : Int) := of_decide_eq_true (by first | (with_reducible assumption) | assumption); obtain ⟨ad223, e223, hx223_0⟩ := Kd.at_int (Kd.R_reads' HO204.out).2.2 0 p223 q223; cases e223; have qi223 : (0 < t202.length) = True := eq_true (by omega); (try rw [show ((0 : Int)).toNat = 0 from rfl] at hx223_0); (try rw [Addr.add_zero'] at hx223_0); replace p223 := eq_true p223; replace q223 := eq_true q223; have p224 : 0 ≤ (1 : Int) := (by omega); have q224 : 1 < (t202.length : Int) := of_decide_eq_true (by first | (with_reducible assumption) | assumption); obtain ⟨ad224, e224, hx224_0⟩ := Kd.at_int (Kd.R_reads' HO204.out).2.2 1 p224 q224; obtain rfl : ad223 = ad224 := (by injection e224); (try simp only [show (1 : Int).toNat = 1 from rfl, Nat.reduceMul, Nat.reduceEqDiff, Go.Addr.add, ↓reduceIte] at hx224_0); have qi224 : (1 < t202.length) = True := eq_true (by omega); (try rw [show ((1 : Int)).toNat = 1 from rfl] at hx224_0); replace p224 := eq_true p224; replace q224 := eq_true q224; have p225 : 0 ≤ (2 : Int) := (by omega); have q225 : 2 < (t202.length : Int) := of_decide_eq_true (by first | (with_reducible assumption) | assumption); obtain ⟨ad225, e225, hx225_0⟩ := Kd.at_int (Kd.R_reads' HO204.out).2.2 2 p225 q225; obtain rfl : ad223 = ad225 := (by injection e225); (try simp only [show (2 : Int).toNat = 2 from rfl, Nat.reduceMul, Nat.reduceEqDiff, Go.Addr.add, ↓reduceIte] at hx225_0); have qi225 : (2 < t202.length) = True := eq_true (by omega); (try rw [show ((2 : Int)).toNat = 2 from rfl] at hx225_0); replace p225 := eq_true p225; replace q225 := eq_true q225) | (go_at_call 37; (with_reducible refine (accounts_Own.calls k _ _ t199 0 t226 _ ?side1 ?side2 A16.out).mono ?_); (case side1 => repeat (first | exact (Kd.R_reads' HO201.out).2.2 | (with_reducible refine Kd.C_alloc ?_ _) | (with_reducible refine Kd.C_drewN ?_ _) | (with_reducible refine Kd.C_drew ?_))); (case side2 => exact (Kd.R_reads' HO201.out).2.1); rintro e w49 ⟨rfl, hb⟩; have n0_ := Aside0.mk (Kd.R_below (by (with_reducible repeat (first | apply Kd.R_alloc | apply Kd.R_drewN | apply Kd.R_drew)); exact HO201.out) hb); have n1_ := Aside0.mk (Kd.R_below (by (with_reducible repeat (first | apply Kd.R_alloc | apply Kd.R_drewN | apply Kd.R_drew)); exact HO204.out) hb); have n2_ := Aside0.mk (Kd.R_below (by (with_reducible repeat (first | apply Kd.R_alloc | apply Kd.R_drewN | apply Kd.R_drew)); exact HO212.out) hb); have n3_ := Aside0.mk (Kd.R_below (by (with_reducible repeat (first | apply Kd.R_alloc | apply Kd.R_drewN | apply Kd.R_drew)); exact HO217.out) hb); have n4_ := Aside0.mk (Kd.R_below (by (with_reducible repeat (first | apply Kd.R_alloc | apply Kd.R_drewN | apply Kd.R_drew)); exact HO221.out) hb); have n5_ := Aside0.mk (below_step (by repeat (first | (with_reducible first | exact HB.out | apply below_alloc | apply pw_below_drewN | apply below_drew1) | exact HB.out)) hb); clear HO201; clear HO204; clear HO212; clear HO217; clear HO221; clear HB; have HO201 := n0_; have HO204 := n1_; have HO212 := n2_; have HO217 := n3_; have HO221 := n4_; have HB := n5_; clear n0_ n1_ n2_ n3_ n4_ n5_; (try clear hb); (try clear hb2); (try clear hk); (try clear hi)) | (go_at_call 37; (with_reducible refine (accounts_Own.calls k _ _ t199 2 t227 _ ?side1 ?side2 A18.out).mono ?_); (case side1 => repeat (first | exact (Kd.R_reads' HO201.out).2.2 | (with_reducible refine Kd.C_alloc ?_ _) | (with_reducible refine Kd.C_drewN ?_ _) | (with_reducible refine Kd.C_drew ?_))); (case side2 => exact (Kd.R_reads' HO201.out).2.1); rintro e w50 ⟨rfl, hb⟩; have n0_ := Aside0.mk (Kd.R_below (by (with_reducible repeat (first | apply Kd.R_alloc | apply Kd.R_drewN | apply Kd.R_drew)); exact HO201.out) hb); have n1_ := Aside0.mk (Kd.R_below (by (with_reducible repeat (first | apply Kd.R_alloc | apply Kd.R_drewN | apply Kd.R_drew)); exact HO204.out) hb); have n2_ := Aside0.mk (Kd.R_below (by (with_reducible repeat (first | apply Kd.R_alloc | apply Kd.R_drewN | apply Kd.R_drew)); exact HO212.out) hb); have n3_ := Aside0.mk (Kd.R_below (by (with_reducible repeat (first | apply Kd.R_alloc | apply Kd.R_drewN | apply Kd.R_drew)); exact HO217.out) hb); have n4_ := Aside0.mk (Kd.R_below (by (with_reducible repeat (first | apply Kd.R_alloc | apply Kd.R_drewN | apply Kd.R_drew)); exact HO221.out) hb); have n5_ := Aside0.mk (below_step (by repeat (first | (with_reducible first | exact HB.out | apply below_alloc | apply pw_below_drewN | apply below_drew1) | exact HB.out)) hb); clear HO201; clear HO204; clear HO212; clear HO217; clear HO221; clear HB; have HO201 := n0_; have HO204 := n1_; have HO212 := n2_; have HO217 := n3_; have HO221 := n4_; have HB := n5_; clear n0_ n1_ n2_ n3_ n4_ n5_; (try clear hb); (try clear hb2); (try clear hk); (try clear hi); obtain ⟨Ao51, co51, eo51⟩ := Kd.R_slice HO212.out; subst eo51; have p228 : 0 ≤ (0 : Int) := (by omega); have q228 : 0 < (t208.length : Int) := of_decide_eq_true (by first | (with_reducible assumption) | assumption); obtain ⟨ad228, e228, hx228_0, hx228_1, hx228_2, hx228_3, hx228_4⟩ := at_T43 (Kd.R_reads' HO212.out).2.2 0 p228 q228; cases e228; have qi228 : (0 < t208.length) = True := eq_true (by omega); (try rw [show ((0 : Int)).toNat = 0 from rfl] at hx228_0); (try rw [show 0 * 5 = 0 from rfl] at hx228_0); (try rw [Addr.add_zero'] at hx228_0); (try rw [show ((0 : Int)).toNat = 0 from rfl] at hx228_1); (try rw [show 0 * 5 = 0 from rfl] at hx228_1); (try rw [Addr.add_zero'] at hx228_1); (try rw [show ((0 : Int)).toNat = 0 from rfl] at hx228_2); (try rw [show 0 * 5 = 0 from rfl] at hx228_2); (try rw [Addr.add_zero'] at hx228_2); (try rw [show ((0 : Int)).toNat = 0 from rfl] at hx228_3); (try rw [show 0 * 5 = 0 from rfl] at hx228_3); (try rw [Addr.add_zero'] at hx228_3); (try rw [show ((0 : Int)).toNat = 0 from rfl] at hx228_4); (try rw [show 0 * 5 = 0 from rfl] at hx228_4); (try rw [Addr.add_zero'] at hx228_4); replace p228 := eq_true p228; replace q228 := eq_true q228; have p229 : 0 ≤ (1 : Int) := (by omega); have q229 : 1 < (t208.length : Int) := of_decide_eq_true (by first | (with_reducible assumption) | assumption); obtain ⟨ad229, e229, hx229_0, hx229_1, hx229_2, hx229_3, hx229_4⟩ := at_T43 (Kd.R_reads' HO212.out).2.2 1 p229 q229; obtain rfl : ad228 = ad229 := (by injection e229); (try simp only [show (1 : Int).toNat = 1 from rfl, Nat.reduceMul, Nat.reduceEqDiff, Go.Addr.add, ↓reduceIte] at hx229_0); (try simp only [show (1 : Int).toNat = 1 from rfl, Nat.reduceMul, Nat.reduceEqDiff, Go.Addr.add, ↓reduceIte] at hx229_1); (try simp only [show (1 : Int).toNat = 1 from rfl, Nat.reduceMul, Nat.reduceEqDiff, Go.Addr.add, ↓reduceIte] at hx229_2); (try simp only [show (1 : Int).toNat = 1 from rfl, Nat.reduceMul, Nat.reduceEqDiff, Go.Addr.add, ↓reduceIte] at hx229_3); (try simp only [show (1 : Int).toNat = 1 from rfl, Nat.reduceMul, Nat.reduceEqDiff, Go.Addr.add, ↓reduceIte] at hx229_4); have qi229 : (1 < t208.length) = True := eq_true (by omega); (try rw [show ((1 : Int)).toNat = 1 from rfl] at hx229_0); (try rw [show 1 * 5 = 5 from rfl] at hx229_0); (try rw [show ((1 : Int)).toNat = 1 from rfl] at hx229_1); (try rw [show 1 * 5 = 5 from rfl] at hx229_1); (try rw [show ((1 : Int)).toNat = 1 from rfl] at hx229_2); (try rw [show 1 * 5 = 5 from rfl] at hx229_2); (try rw [show ((1 : Int)).toNat = 1 from rfl] at hx229_3); (try rw [show 1 * 5 = 5 from rfl] at hx229_3); (try rw [show ((1 : Int)).toNat = 1 from rfl] at hx229_4); (try rw [show 1 * 5 = 5 from rfl] at hx229_4); replace p229 := eq_true p229; replace q229 := eq_true q229; have p230 : 0 ≤ (2 : Int) := (by omega); have q230 : 2 < (t208.length : Int) := of_decide_eq_true (by first | (with_reducible assumption) | assumption); obtain ⟨ad230, e230, hx230_0, hx230_1, hx230_2, hx230_3, hx230_4⟩ := at_T43 (Kd.R_reads' HO212.out).2.2 2 p230 q230; obtain rfl : ad228 = ad230 := (by injection e230); (try simp only [show (2 : Int).toNat = 2 from rfl, Nat.reduceMul, Nat.reduceEqDiff, Go.Addr.add, ↓reduceIte] at hx230_0); (try simp only [show (2 : Int).toNat = 2 from rfl, Nat.reduceMul, Nat.reduceEqDiff, Go.Addr.add, ↓reduceIte] at hx230_1); (try simp only [show (2 : Int).toNat = 2 from rfl, Nat.reduceMul, Nat.reduceEqDiff, Go.Addr.add, ↓reduceIte] at hx230_2); (try simp only [show (2 : Int).toNat = 2 from rfl, Nat.reduceMul, Nat.reduceEqDiff, Go.Addr.add, ↓reduceIte] at hx230_3); (try simp only [show (2 : Int).toNat = 2 from rfl, Nat.reduceMul, Nat.reduceEqDiff, Go.Addr.add, ↓reduceIte] at hx230_4); have qi230 : (2 < t208.length) = True := eq_true (by omega); (try rw [show ((2 : Int)).toNat = 2 from rfl] at hx230_0); (try rw [show 2 * 5 = 10 from rfl] at hx230_0); (try rw [show ((2 : Int)).toNat = 2 from rfl] at hx230_1); (try rw [show 2 * 5 = 10 from rfl] at hx230_1); (try rw [show ((2 : Int)).toNat = 2 from rfl] at hx230_2); (try rw [show 2 * 5 = 10 from rfl] at hx230_2); (try rw [show ((2 : Int)).toNat = 2 from rfl] at hx230_3); (try rw [show 2 * 5 = 10 from rfl] at hx230_3); (try rw [show ((2 : Int)).toNat = 2 from rfl] at hx230_4); (try rw [show 2 * 5 = 10 from rfl] at hx230_4); replace p230 := eq_true p230; replace q230 := eq_true q230) | (go_at_call 29; (with_reducible refine (accounts_Total.calls k _ _ t199 t231 _ ?side1 ?side2 A35.out).mono ?_); (case side1 => repeat (first | exact (Kd.R_reads' HO201.out).2.2 | (with_reducible refine Kd.C_alloc ?_ _) | (with_reducible refine Kd.C_drewN ?_ _) | (with_reducible refine Kd.C_drew ?_))); (case side2 => exact (Kd.R_reads' HO201.out).2.1); rintro e w52 ⟨rfl, hb⟩; have n0_ := Aside0.mk (Kd.R_below (by (with_reducible repeat (first | apply Kd.R_alloc | apply Kd.R_drewN | apply Kd.R_drew)); exact HO201.out) hb); have n1_ := Aside0.mk (Kd.R_below (by (with_reducible repeat (first | apply Kd.R_alloc | apply Kd.R_drewN | apply Kd.R_drew)); exact HO204.out) hb); have n2_ := Aside0.mk (Kd.R_below (by (with_reducible repeat (first | apply Kd.R_alloc | apply Kd.R_drewN | apply Kd.R_drew)); exact HO212.out) hb); have n3_ := Aside0.mk (Kd.R_below (by (with_reducible repeat (first | apply Kd.R_alloc | apply Kd.R_drewN | apply Kd.R_drew)); exact HO217.out) hb); have n4_ := Aside0.mk (Kd.R_below (by (with_reducible repeat (first | apply Kd.R_alloc | apply Kd.R_drewN | apply Kd.R_drew)); exact HO221.out) hb); have n5_ := Aside0.mk (below_step (by repeat (first | (with_reducible first | exact HB.out | apply below_alloc | apply pw_below_drewN | apply below_drew1) | exact HB.out)) hb); clear HO201; clear HO204; clear HO212; clear HO217; clear HO221; clear HB; have HO201 := n0_; have HO204 := n1_; have HO212 := n2_; have HO217 := n3_; have HO221 := n4_; have HB := n5_; clear n0_ n1_ n2_ n3_ n4_ n5_; (try clear hb); (try clear hb2); (try clear hk); (try clear hi)) | (go_at_call 35; (with_reducible refine (accounts_Inside.calls k _ _ t199 2 1 true _ ?side1 ?side2 A37.out).mono ?_); (case side1 => repeat (first | exact (Kd.R_reads' HO201.out).2.2 | (with_reducible refine Kd.C_alloc ?_ _) | (with_reducible refine Kd.C_drewN ?_ _) | (with_reducible refine Kd.C_drew ?_))); (case side2 => exact (Kd.R_reads' HO201.out).2.1); rintro e w53 ⟨rfl, hb⟩; have n0_ := Aside0.mk (Kd.R_below (by (with_reducible repeat (first | apply Kd.R_alloc | apply Kd.R_drewN | apply Kd.R_drew)); exact HO201.out) hb); have n1_ := Aside0.mk (Kd.R_below (by (with_reducible repeat (first | apply Kd.R_alloc | apply Kd.R_drewN | apply Kd.R_drew)); exact HO204.out) hb); have n2_ := Aside0.mk (Kd.R_below (by (with_reducible repeat (first | apply Kd.R_alloc | apply Kd.R_drewN | apply Kd.R_drew)); exact HO212.out) hb); have n3_ := Aside0.mk (Kd.R_below (by (with_reducible repeat (first | apply Kd.R_alloc | apply Kd.R_drewN | apply Kd.R_drew)); exact HO217.out) hb); have n4_ := Aside0.mk (Kd.R_below (by (with_reducible repeat (first | apply Kd.R_alloc | apply Kd.R_drewN | apply Kd.R_drew)); exact HO221.out) hb); have n5_ := Aside0.mk (below_step (by repeat (first | (with_reducible first | exact HB.out | apply below_alloc | apply pw_below_drewN | apply below_drew1) | exact HB.out)) hb); clear HO201; clear HO204; clear HO212; clear HO217; clear HO221; clear HB; have HO201 := n0_; have HO204 := n1_; have HO212 := n2_; have HO217 := n3_; have HO221 := n4_; have HB := n5_; clear n0_ n1_ n2_ n3_ n4_ n5_; (try clear hb); (try clear hb2); (try clear hk); (try clear hi)) | (go_at_call 35; (with_reducible refine (accounts_Inside.calls k _ _ t199 1 2 t233 _ ?side1 ?side2 A39.out).mono ?_); (case side1 => repeat (first | exact (Kd.R_reads' HO201.out).2.2 | (with_reducible refine Kd.C_alloc ?_ _) | (with_reducible refine Kd.C_drewN ?_ _) | (with_reducible refine Kd.C_drew ?_))); (case side2 => exact (Kd.R_reads' HO201.out).2.1); rintro e w54 ⟨rfl, hb⟩; have n0_ := Aside0.mk (Kd.R_below (by (with_reducible repeat (first | apply Kd.R_alloc | apply Kd.R_drewN | apply Kd.R_drew)); exact HO201.out) hb); have n1_ := Aside0.mk (Kd.R_below (by (with_reducible repeat (first | apply Kd.R_alloc | apply Kd.R_drewN | apply Kd.R_drew)); exact HO204.out) hb); have n2_ := Aside0.mk (Kd.R_below (by (with_reducible repeat (first | apply Kd.R_alloc | apply Kd.R_drewN | apply Kd.R_drew)); exact HO212.out) hb); have n3_ := Aside0.mk (Kd.R_below (by (with_reducible repeat (first | apply Kd.R_alloc | apply Kd.R_drewN | apply Kd.R_drew)); exact HO217.out) hb); have n4_ := Aside0.mk (Kd.R_below (by (with_reducible repeat (first | apply Kd.R_alloc | apply Kd.R_drewN | apply Kd.R_drew)); exact HO221.out) hb); have n5_ := Aside0.mk (below_step (by repeat (first | (with_reducible first | exact HB.out | apply below_alloc | apply pw_below_drewN | apply below_drew1) | exact HB.out)) hb); clear HO201; clear HO204; clear HO212; clear HO217; clear HO221; clear HB; have HO201 := n0_; have HO204 := n1_; have HO212 := n2_; have HO217 := n3_; have HO221 := n4_; have HB := n5_; clear n0_ n1_ n2_ n3_ n4_ n5_; (try clear hb); (try clear hb2); (try clear hk); (try clear hi))); simp only [List.append_eq, List.cons_append, List.nil_append]))
                                                        go_wp2_with (first | ((with_reducible refine gate_callee (f := 47) rfl ?_); refine goesL_ (some 14) rfl rfl Try.func47 (by kernel_rfl) rfl #[] rfl (by (try simp only [List.map_toArray, List.map_cons, List.map_nil]); first | done | rfl | (simp only [List.length_drop, List.length_take]; rfl)) ?_; (with_reducible refine (estoverslaw19_three.calls  t199 _ A1.out).mono ?_); rintro e w40 ⟨v200, rfl, ho0, hb⟩; refine ⟨_, rfl, ?_⟩; have n0_ := Aside0.mk (Kd.R_lower ho0 (below_size (by repeat (first | (with_reducible first | exact HB.out | apply below_alloc | apply pw_below_drewN | apply below_drew1) | exact HB.out)))); have n1_ := Aside0.mk (below_step (by repeat (first | (with_reducible first | exact HB.out | apply below_alloc | apply pw_below_drewN | apply below_drew1) | exact HB.out)) hb); clear HB; have HO201 := n0_; have HB := n1_; clear n0_ n1_; (try clear hb); (try clear hb2); (try clear hk); (try clear hi); (try clear ho0); obtain ⟨Ao41, co41, eo41⟩ := Kd.R_slice HO201.out; subst eo41) | ((with_reducible refine gate_callee (f := 31) rfl ?_); refine goesL_ (some 16) rfl rfl Try.func31 (by kernel_rfl) rfl #[.slice Ao41 t199.length co41, .int .i64 2] rfl (by (try simp only [List.map_toArray, List.map_cons, List.map_nil]); first | done | rfl | (simp only [List.length_drop, List.length_take]; rfl)) ?_; (with_reducible refine (accounts_Path.calls k _ _ t199 2 t202 _ ?side1 ?side2 A2.out).mono ?_); (case side1 => repeat (first | exact (Kd.R_reads' HO201.out).2.2 | (with_reducible refine Kd.C_alloc ?_ _) | (with_reducible refine Kd.C_drewN ?_ _) | (with_reducible refine Kd.C_drew ?_))); (case side2 => exact (Kd.R_reads' HO201.out).2.1); rintro e w42 ⟨v203, rfl, ho0, hb⟩; refine ⟨_, rfl, ?_⟩; have n0_ := Aside0.mk (Kd.R_below (by (with_reducible repeat (first | apply Kd.R_alloc | apply Kd.R_drewN | apply Kd.R_drew)); exact HO201.out) hb); have n1_ := Aside0.mk (Kd.R_lower ho0 (below_size (by repeat (first | (with_reducible first | exact HB.out | apply below_alloc | apply pw_below_drewN | apply below_drew1) | exact HB.out)))); have n2_ := Aside0.mk (below_step (by repeat (first | (with_reducible first | exact HB.out | apply below_alloc | apply pw_below_drewN | apply below_drew1) | exact HB.out)) hb); clear HO201; clear HB; have HO201 := n0_; have HO204 := n1_; have HB := n2_; clear n0_ n1_ n2_; (try clear hb); (try clear hb2); (try clear hk); (try clear hi); (try clear ho0)) | ((with_reducible refine gate_callee (f := 33) rfl ?_); refine goesL_ (some 19) rfl rfl Try.func33 (by kernel_rfl) rfl #[.slice Ao41 t199.length co41, .int .i64 2] rfl (by (try simp only [List.map_toArray, List.map_cons, List.map_nil]); first | done | rfl | (simp only [List.length_drop, List.length_take]; rfl)) ?_; (with_reducible refine (accounts_Margin.calls k _ _ t199 2 t205 t206 t207 _ ?side1 ?side2 A3.out).mono ?_); (case side1 => repeat (first | exact (Kd.R_reads' HO201.out).2.2 | (with_reducible refine Kd.C_alloc ?_ _) | (with_reducible refine Kd.C_drewN ?_ _) | (with_reducible refine Kd.C_drew ?_))); (case side2 => exact (Kd.R_reads' HO201.out).2.1); rintro e w43 ⟨rfl, hb⟩; refine ⟨_, rfl, ?_⟩; have n0_ := Aside0.mk (Kd.R_below (by (with_reducible repeat (first | apply Kd.R_alloc | apply Kd.R_drewN | apply Kd.R_drew)); exact HO201.out) hb); have n1_ := Aside0.mk (Kd.R_below (by (with_reducible repeat (first | apply Kd.R_alloc | apply Kd.R_drewN | apply Kd.R_drew)); exact HO204.out) hb); have n2_ := Aside0.mk (below_step (by repeat (first | (with_reducible first | exact HB.out | apply below_alloc | apply pw_below_drewN | apply below_drew1) | exact HB.out)) hb); clear HO201; clear HO204; clear HB; have HO201 := n0_; have HO204 := n1_; have HB := n2_; clear n0_ n1_ n2_; (try clear hb); (try clear hb2); (try clear hk); (try clear hi)) | ((with_reducible refine gate_callee (f := 39) rfl ?_); refine goesL_ (some 25) rfl rfl Try.func39 (by kernel_rfl) rfl #[.slice Ao41 t199.length co41, .int .i64 2, .int .i64 2] rfl (by (try simp only [List.map_toArray, List.map_cons, List.map_nil]); first | done | rfl | (simp only [List.length_drop, List.length_take]; rfl)) ?_; (with_reducible refine (accounts_Charge.calls k _ _ t199 2 2 t208 t209 t210 _ ?side1 ?side2 A4.out).mono ?_); (case side1 => repeat (first | exact (Kd.R_reads' HO201.out).2.2 | (with_reducible refine Kd.C_alloc ?_ _) | (with_reducible refine Kd.C_drewN ?_ _) | (with_reducible refine Kd.C_drew ?_))); (case side2 => exact (Kd.R_reads' HO201.out).2.1); rintro e w44 ⟨v211, rfl, ho0, hb⟩; refine ⟨_, rfl, ?_⟩; have n0_ := Aside0.mk (Kd.R_elder' (by (with_reducible repeat (first | apply Kd.R_alloc | apply Kd.R_drewN | apply Kd.R_drew)); exact HO201.out) (Kd.R_base ho0) hb); have n1_ := Aside0.mk (Kd.R_below (by (with_reducible repeat (first | apply Kd.R_alloc | apply Kd.R_drewN | apply Kd.R_drew)); exact HO204.out) hb); have n2_ := Aside0.mk (Kd.R_lower (Kd.R_new' ho0 (Kd.R_lt (by (with_reducible repeat (first | apply Kd.R_alloc | apply Kd.R_drewN | apply Kd.R_drew)); exact HO201.out))) (below_size (by repeat (first | (with_reducible first | exact HB.out | apply below_alloc | apply pw_below_drewN | apply below_drew1) | exact HB.out)))); have n3_ := Aside0.mk (below_step (by repeat (first | (with_reducible first | exact HB.out | apply below_alloc | apply pw_below_drewN | apply below_drew1) | exact HB.out)) hb); clear HO201; clear HO204; clear HB; have HO201 := n0_; have HO204 := n1_; have HO212 := n2_; have HB := n3_; clear n0_ n1_ n2_ n3_; (try clear hb); (try clear hb2); (try clear hk); (try clear hi); (try clear ho0)) | ((with_reducible refine gate_callee (f := 39) rfl ?_); refine goesL_ (some 31) rfl rfl Try.func39 (by kernel_rfl) rfl #[.slice Ao41 t199.length co41, .int .i64 2, .int .i64 3] rfl (by (try simp only [List.map_toArray, List.map_cons, List.map_nil]); first | done | rfl | (simp only [List.length_drop, List.length_take]; rfl)) ?_; (with_reducible refine (accounts_Charge.calls k _ _ t199 2 3 t213 t214 t215 _ ?side1 ?side2 A5.out).mono ?_); (case side1 => repeat (first | exact (Kd.R_reads' HO201.out).2.2 | (with_reducible refine Kd.C_alloc ?_ _) | (with_reducible refine Kd.C_drewN ?_ _) | (with_reducible refine Kd.C_drew ?_))); (case side2 => exact (Kd.R_reads' HO201.out).2.1); rintro e w45 ⟨v216, rfl, ho0, hb⟩; refine ⟨_, rfl, ?_⟩; have n0_ := Aside0.mk (Kd.R_elder' (by (with_reducible repeat (first | apply Kd.R_alloc | apply Kd.R_drewN | apply Kd.R_drew)); exact HO201.out) (Kd.R_base ho0) hb); have n1_ := Aside0.mk (Kd.R_below (by (with_reducible repeat (first | apply Kd.R_alloc | apply Kd.R_drewN | apply Kd.R_drew)); exact HO204.out) hb); have n2_ := Aside0.mk (Kd.R_elder' (by (with_reducible repeat (first | apply Kd.R_alloc | apply Kd.R_drewN | apply Kd.R_drew)); exact HO212.out) (Kd.R_base ho0) hb); have n3_ := Aside0.mk (Kd.R_lower (Kd.R_new' (Kd.R_new' ho0 (Kd.R_lt (by (with_reducible repeat (first | apply Kd.R_alloc | apply Kd.R_drewN | apply Kd.R_drew)); exact HO201.out))) (Kd.R_lt (by (with_reducible repeat (first | apply Kd.R_alloc | apply Kd.R_drewN | apply Kd.R_drew)); exact HO212.out))) (below_size (by repeat (first | (with_reducible first | exact HB.out | apply below_alloc | apply pw_below_drewN | apply below_drew1) | exact HB.out)))); have n4_ := Aside0.mk (below_step (by repeat (first | (with_reducible first | exact HB.out | apply below_alloc | apply pw_below_drewN | apply below_drew1) | exact HB.out)) hb); clear HO201; clear HO204; clear HO212; clear HB; have HO201 := n0_; have HO204 := n1_; have HO212 := n2_; have HO217 := n3_; have HB := n4_; clear n0_ n1_ n2_ n3_ n4_; (try clear hb); (try clear hb2); (try clear hk); (try clear hi); (try clear ho0)) | ((with_reducible refine gate_callee (f := 41) rfl ?_); refine goesL_ (some 37) rfl rfl Try.func41 (by kernel_rfl) rfl #[.slice Ao41 t199.length co41, .int .i64 1, .int .i64 2] rfl (by (try simp only [List.map_toArray, List.map_cons, List.map_nil]); first | done | rfl | (simp only [List.length_drop, List.length_take]; rfl)) ?_; (with_reducible refine (accounts_Uncharge.calls k _ _ t199 1 2 t218 t219 _ ?side1 ?side2 A6.out).mono ?_); (case side1 => repeat (first | exact (Kd.R_reads' HO201.out).2.2 | (with_reducible refine Kd.C_alloc ?_ _) | (with_reducible refine Kd.C_drewN ?_ _) | (with_reducible refine Kd.C_drew ?_))); (case side2 => exact (Kd.R_reads' HO201.out).2.1); rintro e w46 ⟨v220, rfl, ho0, hb⟩; refine ⟨_, rfl, ?_⟩; have n0_ := Aside0.mk (Kd.R_elder' (by (with_reducible repeat (first | apply Kd.R_alloc | apply Kd.R_drewN | apply Kd.R_drew)); exact HO201.out) (Kd.R_base ho0) hb); have n1_ := Aside0.mk (Kd.R_below (by (with_reducible repeat (first | apply Kd.R_alloc | apply Kd.R_drewN | apply Kd.R_drew)); exact HO204.out) hb); have n2_ := Aside0.mk (Kd.R_elder' (by (with_reducible repeat (first | apply Kd.R_alloc | apply Kd.R_drewN | apply Kd.R_drew)); exact HO212.out) (Kd.R_base ho0) hb); have n3_ := Aside0.mk (Kd.R_elder' (by (with_reducible repeat (first | apply Kd.R_alloc | apply Kd.R_drewN | apply Kd.R_drew)); exact HO217.out) (Kd.R_base ho0) hb); have n4_ := Aside0.mk (Kd.R_lower (Kd.R_new' (Kd.R_new' (Kd.R_new' ho0 (Kd.R_lt (by (with_reducible repeat (first | apply Kd.R_alloc | apply Kd.R_drewN | apply Kd.R_drew)); exact HO201.out))) (Kd.R_lt (by (with_reducible repeat (first | apply Kd.R_alloc | apply Kd.R_drewN | apply Kd.R_drew)); exact HO212.out))) (Kd.R_lt (by (with_reducible repeat (first | apply Kd.R_alloc | apply Kd.R_drewN | apply Kd.R_drew)); exact HO217.out))) (below_size (by repeat (first | (with_reducible first | exact HB.out | apply below_alloc | apply pw_below_drewN | apply below_drew1) | exact HB.out)))); have n5_ := Aside0.mk (below_step (by repeat (first | (with_reducible first | exact HB.out | apply below_alloc | apply pw_below_drewN | apply below_drew1) | exact HB.out)) hb); clear HO201; clear HO204; clear HO212; clear HO217; clear HB; have HO201 := n0_; have HO204 := n1_; have HO212 := n2_; have HO217 := n3_; have HO221 := n4_; have HB := n5_; clear n0_ n1_ n2_ n3_ n4_ n5_; (try clear hb); (try clear hb2); (try clear hk); (try clear hi); (try clear ho0)) | ((with_reducible refine gate_callee (f := 28) rfl ?_); refine goesL_ (some 41) rfl rfl Try.func28 (by kernel_rfl) rfl #[.slice Ao41 t199.length co41] rfl (by (try simp only [List.map_toArray, List.map_cons, List.map_nil]); first | done | rfl | (simp only [List.length_drop, List.length_take]; rfl)) ?_; (with_reducible refine (accounts_Check.calls k _ _ t199 t222 _ ?side1 ?side2 A7.out).mono ?_); (case side1 => repeat (first | exact (Kd.R_reads' HO201.out).2.2 | (with_reducible refine Kd.C_alloc ?_ _) | (with_reducible refine Kd.C_drewN ?_ _) | (with_reducible refine Kd.C_drew ?_))); (case side2 => exact (Kd.R_reads' HO201.out).2.1); rintro e w47 ⟨rfl, hb⟩; refine ⟨_, rfl, ?_⟩; have n0_ := Aside0.mk (Kd.R_below (by (with_reducible repeat (first | apply Kd.R_alloc | apply Kd.R_drewN | apply Kd.R_drew)); exact HO201.out) hb); have n1_ := Aside0.mk (Kd.R_below (by (with_reducible repeat (first | apply Kd.R_alloc | apply Kd.R_drewN | apply Kd.R_drew)); exact HO204.out) hb); have n2_ := Aside0.mk (Kd.R_below (by (with_reducible repeat (first | apply Kd.R_alloc | apply Kd.R_drewN | apply Kd.R_drew)); exact HO212.out) hb); have n3_ := Aside0.mk (Kd.R_below (by (with_reducible repeat (first | apply Kd.R_alloc | apply Kd.R_drewN | apply Kd.R_drew)); exact HO217.out) hb); have n4_ := Aside0.mk (Kd.R_below (by (with_reducible repeat (first | apply Kd.R_alloc | apply Kd.R_drewN | apply Kd.R_drew)); exact HO221.out) hb); have n5_ := Aside0.mk (below_step (by repeat (first | (with_reducible first | exact HB.out | apply below_alloc | apply pw_below_drewN | apply below_drew1) | exact HB.out)) hb); clear HO201; clear HO204; clear HO212; clear HO217; clear HO221; clear HB; have HO201 := n0_; have HO204 := n1_; have HO212 := n2_; have HO217 := n3_; have HO221 := n4_; have HB := n5_; clear n0_ n1_ n2_ n3_ n4_ n5_; (try clear hb); (try clear hb2); (try clear hk); (try clear hi); obtain ⟨Ao48, co48, eo48⟩ := Kd.R_slice HO204.out; subst eo48; have p223 : 0 ≤ (0 : Int) := (by omega); have q223 : 0 < (t202.length : Int) := of_decide_eq_true (by first | (with_reducible assumption) | assumption); obtain ⟨ad223, e223, hx223_0⟩ := Kd.at_int (Kd.R_reads' HO204.out).2.2 0 p223 q223; cases e223; have qi223 : (0 < t202.length) = True := eq_true (by omega); (try rw [show ((0 : Int)).toNat = 0 from rfl] at hx223_0); (try rw [Addr.add_zero'] at hx223_0); replace p223 := eq_true p223; replace q223 := eq_true q223; have p224 : 0 ≤ (1 : Int) := (by omega); have q224 : 1 < (t202.length : Int) := of_decide_eq_true (by first | (with_reducible assumption) | assumption); obtain ⟨ad224, e224, hx224_0⟩ := Kd.at_int (Kd.R_reads' HO204.out).2.2 1 p224 q224; obtain rfl : ad223 = ad224 := (by injection e224); (try simp only [show (1 : Int).toNat = 1 from rfl, Nat.reduceMul, Nat.reduceEqDiff, Go.Addr.add, ↓reduceIte] at hx224_0); have qi224 : (1 < t202.length) = True := eq_true (by omega); (try rw [show ((1 : Int)).toNat = 1 from rfl] at hx224_0); replace p224 := eq_true p224; replace q224 := eq_true q224; have p225 : 0 ≤ (2 : Int) := (by omega); have q225 : 2 < (t202.length : Int) := of_decide_eq_true (by first | (with_reducible assumption) | assumption); obtain ⟨ad225, e225, hx225_0⟩ := Kd.at_int (Kd.R_reads' HO204.out).2.2 2 p225 q225; obtain rfl : ad223 = ad225 := (by injection e225); (try simp only [show (2 : Int).toNat = 2 from rfl, Nat.reduceMul, Nat.reduceEqDiff, Go.Addr.add, ↓reduceIte] at hx225_0); have qi225 : (2 < t202.length) = True := eq_true (by omega); (try rw [show ((2 : Int)).toNat = 2 from rfl] at hx225_0); replace p225 := eq_true p225; replace q225 := eq_true q225) | (go_at_call 37; (with_reducible refine (accounts_Own.calls k _ _ t199 0 t226 _ ?side1 ?side2 A16.out).mono ?_); (case side1 => repeat (first | exact (Kd.R_reads' HO201.out).2.2 | (with_reducible refine Kd.C_alloc ?_ _) | (with_reducible refine Kd.C_drewN ?_ _) | (with_reducible refine Kd.C_drew ?_))); (case side2 => exact (Kd.R_reads' HO201.out).2.1); rintro e w49 ⟨rfl, hb⟩; have n0_ := Aside0.mk (Kd.R_below (by (with_reducible repeat (first | apply Kd.R_alloc | apply Kd.R_drewN | apply Kd.R_drew)); exact HO201.out) hb); have n1_ := Aside0.mk (Kd.R_below (by (with_reducible repeat (first | apply Kd.R_alloc | apply Kd.R_drewN | apply Kd.R_drew)); exact HO204.out) hb); have n2_ := Aside0.mk (Kd.R_below (by (with_reducible repeat (first | apply Kd.R_alloc | apply Kd.R_drewN | apply Kd.R_drew)); exact HO212.out) hb); have n3_ := Aside0.mk (Kd.R_below (by (with_reducible repeat (first | apply Kd.R_alloc | apply Kd.R_drewN | apply Kd.R_drew)); exact HO217.out) hb); have n4_ := Aside0.mk (Kd.R_below (by (with_reducible repeat (first | apply Kd.R_alloc | apply Kd.R_drewN | apply Kd.R_drew)); exact HO221.out) hb); have n5_ := Aside0.mk (below_step (by repeat (first | (with_reducible first | exact HB.out | apply below_alloc | apply pw_below_drewN | apply below_drew1) | exact HB.out)) hb); clear HO201; clear HO204; clear HO212; clear HO217; clear HO221; clear HB; have HO201 := n0_; have HO204 := n1_; have HO212 := n2_; have HO217 := n3_; have HO221 := n4_; have HB := n5_; clear n0_ n1_ n2_ n3_ n4_ n5_; (try clear hb); (try clear hb2); (try clear hk); (try clear hi)) | (go_at_call 37; (with_reducible refine (accounts_Own.calls k _ _ t199 2 t227 _ ?side1 ?side2 A18.out).mono ?_); (case side1 => repeat (first | exact (Kd.R_reads' HO201.out).2.2 | (with_reducible refine Kd.C_alloc ?_ _) | (with_reducible refine Kd.C_drewN ?_ _) | (with_reducible refine Kd.C_drew ?_))); (case side2 => exact (Kd.R_reads' HO201.out).2.1); rintro e w50 ⟨rfl, hb⟩; have n0_ := Aside0.mk (Kd.R_below (by (with_reducible repeat (first | apply Kd.R_alloc | apply Kd.R_drewN | apply Kd.R_drew)); exact HO201.out) hb); have n1_ := Aside0.mk (Kd.R_below (by (with_reducible repeat (first | apply Kd.R_alloc | apply Kd.R_drewN | apply Kd.R_drew)); exact HO204.out) hb); have n2_ := Aside0.mk (Kd.R_below (by (with_reducible repeat (first | apply Kd.R_alloc | apply Kd.R_drewN | apply Kd.R_drew)); exact HO212.out) hb); have n3_ := Aside0.mk (Kd.R_below (by (with_reducible repeat (first | apply Kd.R_alloc | apply Kd.R_drewN | apply Kd.R_drew)); exact HO217.out) hb); have n4_ := Aside0.mk (Kd.R_below (by (with_reducible repeat (first | apply Kd.R_alloc | apply Kd.R_drewN | apply Kd.R_drew)); exact HO221.out) hb); have n5_ := Aside0.mk (below_step (by repeat (first | (with_reducible first | exact HB.out | apply below_alloc | apply pw_below_drewN | apply below_drew1) | exact HB.out)) hb); clear HO201; clear HO204; clear HO212; clear HO217; clear HO221; clear HB; have HO201 := n0_; have HO204 := n1_; have HO212 := n2_; have HO217 := n3_; have HO221 := n4_; have HB := n5_; clear n0_ n1_ n2_ n3_ n4_ n5_; (try clear hb); (try clear hb2); (try clear hk); (try clear hi); obtain ⟨Ao51, co51, eo51⟩ := Kd.R_slice HO212.out; subst eo51; have p228 : 0 ≤ (0 : Int) := (by omega); have q228 : 0 < (t208.length : Int) := of_decide_eq_true (by first | (with_reducible assumption) | assumption); obtain ⟨ad228, e228, hx228_0, hx228_1, hx228_2, hx228_3, hx228_4⟩ := at_T43 (Kd.R_reads' HO212.out).2.2 0 p228 q228; cases e228; have qi228 : (0 < t208.length) = True := eq_true (by omega); (try rw [show ((0 : Int)).toNat = 0 from rfl] at hx228_0); (try rw [show 0 * 5 = 0 from rfl] at hx228_0); (try rw [Addr.add_zero'] at hx228_0); (try rw [show ((0 : Int)).toNat = 0 from rfl] at hx228_1); (try rw [show 0 * 5 = 0 from rfl] at hx228_1); (try rw [Addr.add_zero'] at hx228_1); (try rw [show ((0 : Int)).toNat = 0 from rfl] at hx228_2); (try rw [show 0 * 5 = 0 from rfl] at hx228_2); (try rw [Addr.add_zero'] at hx228_2); (try rw [show ((0 : Int)).toNat = 0 from rfl] at hx228_3); (try rw [show 0 * 5 = 0 from rfl] at hx228_3); (try rw [Addr.add_zero'] at hx228_3); (try rw [show ((0 : Int)).toNat = 0 from rfl] at hx228_4); (try rw [show 0 * 5 = 0 from rfl] at hx228_4); (try rw [Addr.add_zero'] at hx228_4); replace p228 := eq_true p228; replace q228 := eq_true q228; have p229 : 0 ≤ (1 : Int) := (by omega); have q229 : 1 < (t208.length : Int) := of_decide_eq_true (by first | (with_reducible assumption) | assumption); obtain ⟨ad229, e229, hx229_0, hx229_1, hx229_2, hx229_3, hx229_4⟩ := at_T43 (Kd.R_reads' HO212.out).2.2 1 p229 q229; obtain rfl : ad228 = ad229 := (by injection e229); (try simp only [show (1 : Int).toNat = 1 from rfl, Nat.reduceMul, Nat.reduceEqDiff, Go.Addr.add, ↓reduceIte] at hx229_0); (try simp only [show (1 : Int).toNat = 1 from rfl, Nat.reduceMul, Nat.reduceEqDiff, Go.Addr.add, ↓reduceIte] at hx229_1); (try simp only [show (1 : Int).toNat = 1 from rfl, Nat.reduceMul, Nat.reduceEqDiff, Go.Addr.add, ↓reduceIte] at hx229_2); (try simp only [show (1 : Int).toNat = 1 from rfl, Nat.reduceMul, Nat.reduceEqDiff, Go.Addr.add, ↓reduceIte] at hx229_3); (try simp only [show (1 : Int).toNat = 1 from rfl, Nat.reduceMul, Nat.reduceEqDiff, Go.Addr.add, ↓reduceIte] at hx229_4); have qi229 : (1 < t208.length) = True := eq_true (by omega); (try rw [show ((1 : Int)).toNat = 1 from rfl] at hx229_0); (try rw [show 1 * 5 = 5 from rfl] at hx229_0); (try rw [show ((1 : Int)).toNat = 1 from rfl] at hx229_1); (try rw [show 1 * 5 = 5 from rfl] at hx229_1); (try rw [show ((1 : Int)).toNat = 1 from rfl] at hx229_2); (try rw [show 1 * 5 = 5 from rfl] at hx229_2); (try rw [show ((1 : Int)).toNat = 1 from rfl] at hx229_3); (try rw [show 1 * 5 = 5 from rfl] at hx229_3); (try rw [show ((1 : Int)).toNat = 1 from rfl] at hx229_4); (try rw [show 1 * 5 = 5 from rfl] at hx229_4); replace p229 := eq_true p229; replace q229 := eq_true q229; have p230 : 0 ≤ (2 : Int) := (by omega); have q230 : 2 < (t208.length : Int) := of_decide_eq_true (by first | (with_reducible assumption) | assumption); obtain ⟨ad230, e230, hx230_0, hx230_1, hx230_2, hx230_3, hx230_4⟩ := at_T43 (Kd.R_reads' HO212.out).2.2 2 p230 q230; obtain rfl : ad228 = ad230 := (by injection e230); (try simp only [show (2 : Int).toNat = 2 from rfl, Nat.reduceMul, Nat.reduceEqDiff, Go.Addr.add, ↓reduceIte] at hx230_0); (try simp only [show (2 : Int).toNat = 2 from rfl, Nat.reduceMul, Nat.reduceEqDiff, Go.Addr.add, ↓reduceIte] at hx230_1); (try simp only [show (2 : Int).toNat = 2 from rfl, Nat.reduceMul, Nat.reduceEqDiff, Go.Addr.add, ↓reduceIte] at hx230_2); (try simp only [show (2 : Int).toNat = 2 from rfl, Nat.reduceMul, Nat.reduceEqDiff, Go.Addr.add, ↓reduceIte] at hx230_3); (try simp only [show (2 : Int).toNat = 2 from rfl, Nat.reduceMul, Nat.reduceEqDiff, Go.Addr.add, ↓reduceIte] at hx230_4); have qi230 : (2 < t208.length) = True := eq_true (by omega); (try rw [show ((2 : Int)).toNat = 2 from rfl] at hx230_0); (try rw [show 2 * 5 = 10 from rfl] at hx230_0); (try rw [show ((2 : Int)).toNat = 2 from rfl] at hx230_1); (try rw [show 2 * 5 = 10 from rfl] at hx230_1); (try rw [show ((2 : Int)).toNat = 2 from rfl] at hx230_2); (try rw [show 2 * 5 = 10 from rfl] at hx230_2); (try rw [show ((2 : Int)).toNat = 2 from rfl] at hx230_3); (try rw [show 2 * 5 = 10 from rfl] at hx230_3); (try rw [show ((2 : Int)).toNat = 2 from rfl] at hx230_4); (try rw [show 2 * 5 = 10 from rfl] at hx230_4); replace p230 := eq_true p230; replace q230 := eq_true q230) | (go_at_call 29; (with_reducible refine (accounts_Total.calls k _ _ t199 t231 _ ?side1 ?side2 A35.out).mono ?_); (case side1 => repeat (first | exact (Kd.R_reads' HO201.out).2.2 | (with_reducible refine Kd.C_alloc ?_ _) | (with_reducible refine Kd.C_drewN ?_ _) | (with_reducible refine Kd.C_drew ?_))); (case side2 => exact (Kd.R_reads' HO201.out).2.1); rintro e w52 ⟨rfl, hb⟩; have n0_ := Aside0.mk (Kd.R_below (by (with_reducible repeat (first | apply Kd.R_alloc | apply Kd.R_drewN | apply Kd.R_drew)); exact HO201.out) hb); have n1_ := Aside0.mk (Kd.R_below (by (with_reducible repeat (first | apply Kd.R_alloc | apply Kd.R_drewN | apply Kd.R_drew)); exact HO204.out) hb); have n2_ := Aside0.mk (Kd.R_below (by (with_reducible repeat (first | apply Kd.R_alloc | apply Kd.R_drewN | apply Kd.R_drew)); exact HO212.out) hb); have n3_ := Aside0.mk (Kd.R_below (by (with_reducible repeat (first | apply Kd.R_alloc | apply Kd.R_drewN | apply Kd.R_drew)); exact HO217.out) hb); have n4_ := Aside0.mk (Kd.R_below (by (with_reducible repeat (first | apply Kd.R_alloc | apply Kd.R_drewN | apply Kd.R_drew)); exact HO221.out) hb); have n5_ := Aside0.mk (below_step (by repeat (first | (with_reducible first | exact HB.out | apply below_alloc | apply pw_below_drewN | apply below_drew1) | exact HB.out)) hb); clear HO201; clear HO204; clear HO212; clear HO217; clear HO221; clear HB; have HO201 := n0_; have HO204 := n1_; have HO212 := n2_; have HO217 := n3_; have HO221 := n4_; have HB := n5_; clear n0_ n1_ n2_ n3_ n4_ n5_; (try clear hb); (try clear hb2); (try clear hk); (try clear hi)) | (go_at_call 35; (with_reducible refine (accounts_Inside.calls k _ _ t199 2 1 true _ ?side1 ?side2 A37.out).mono ?_); (case side1 => repeat (first | exact (Kd.R_reads' HO201.out).2.2 | (with_reducible refine Kd.C_alloc ?_ _) | (with_reducible refine Kd.C_drewN ?_ _) | (with_reducible refine Kd.C_drew ?_))); (case side2 => exact (Kd.R_reads' HO201.out).2.1); rintro e w53 ⟨rfl, hb⟩; have n0_ := Aside0.mk (Kd.R_below (by (with_reducible repeat (first | apply Kd.R_alloc | apply Kd.R_drewN | apply Kd.R_drew)); exact HO201.out) hb); have n1_ := Aside0.mk (Kd.R_below (by (with_reducible repeat (first | apply Kd.R_alloc | apply Kd.R_drewN | apply Kd.R_drew)); exact HO204.out) hb); have n2_ := Aside0.mk (Kd.R_below (by (with_reducible repeat (first | apply Kd.R_alloc | apply Kd.R_drewN | apply Kd.R_drew)); exact HO212.out) hb); have n3_ := Aside0.mk (Kd.R_below (by (with_reducible repeat (first | apply Kd.R_alloc | apply Kd.R_drewN | apply Kd.R_drew)); exact HO217.out) hb); have n4_ := Aside0.mk (Kd.R_below (by (with_reducible repeat (first | apply Kd.R_alloc | apply Kd.R_drewN | apply Kd.R_drew)); exact HO221.out) hb); have n5_ := Aside0.mk (below_step (by repeat (first | (with_reducible first | exact HB.out | apply below_alloc | apply pw_below_drewN | apply below_drew1) | exact HB.out)) hb); clear HO201; clear HO204; clear HO212; clear HO217; clear HO221; clear HB; have HO201 := n0_; have HO204 := n1_; have HO212 := n2_; have HO217 := n3_; have HO221 := n4_; have HB := n5_; clear n0_ n1_ n2_ n3_ n4_ n5_; (try clear hb); (try clear hb2); (try clear hk); (try clear hi)) | (go_at_call 35; (with_reducible refine (accounts_Inside.calls k _ _ t199 1 2 t233 _ ?side1 ?side2 A39.out).mono ?_); (case side1 => repeat (first | exact (Kd.R_reads' HO201.out).2.2 | (with_reducible refine Kd.C_alloc ?_ _) | (with_reducible refine Kd.C_drewN ?_ _) | (with_reducible refine Kd.C_drew ?_))); (case side2 => exact (Kd.R_reads' HO201.out).2.1); rintro e w54 ⟨rfl, hb⟩; have n0_ := Aside0.mk (Kd.R_below (by (with_reducible repeat (first | apply Kd.R_alloc | apply Kd.R_drewN | apply Kd.R_drew)); exact HO201.out) hb); have n1_ := Aside0.mk (Kd.R_below (by (with_reducible repeat (first | apply Kd.R_alloc | apply Kd.R_drewN | apply Kd.R_drew)); exact HO204.out) hb); have n2_ := Aside0.mk (Kd.R_below (by (with_reducible repeat (first | apply Kd.R_alloc | apply Kd.R_drewN | apply Kd.R_drew)); exact HO212.out) hb); have n3_ := Aside0.mk (Kd.R_below (by (with_reducible repeat (first | apply Kd.R_alloc | apply Kd.R_drewN | apply Kd.R_drew)); exact HO217.out) hb); have n4_ := Aside0.mk (Kd.R_below (by (with_reducible repeat (first | apply Kd.R_alloc | apply Kd.R_drewN | apply Kd.R_drew)); exact HO221.out) hb); have n5_ := Aside0.mk (below_step (by repeat (first | (with_reducible first | exact HB.out | apply below_alloc | apply pw_below_drewN | apply below_drew1) | exact HB.out)) hb); clear HO201; clear HO204; clear HO212; clear HO217; clear HO221; clear HB; have HO201 := n0_; have HO204 := n1_; have HO212 := n2_; have HO217 := n3_; have HO221 := n4_; have HB := n5_; clear n0_ n1_ n2_ n3_ n4_ n5_; (try clear hb); (try clear hb2); (try clear hk); (try clear hi)))
                                                        go_ret
                                                        exact ⟨by first | rfl | (simp [errW_none, errW_some] <;> rfl) | (simp [*, errW_none, errW_some] <;> rfl), by repeat (first | (with_reducible first | exact HB.out | apply below_alloc | apply pw_below_drewN | apply below_drew1) | exact HB.out)⟩
                                                      · replace c38 := Bool.eq_false_iff.mpr c38
                                                        subst c38
                                                        have H1 : (none) = some r := by rw [if_neg (show ¬ (false = true) by decide)] at H; exact H
                                                        clear H
                                                        have H := H1
                                                        clear H1
                                                        exact absurd H (by simp)
                                                    · rw [if_neg c36] at H
                                                      exact absurd H (by simp)
                                                  · rw [if_neg c34] at H
                                                    exact absurd H (by simp)
                                                · rw [if_neg c33] at H
                                                  exact absurd H (by simp)
                                              · rw [if_neg c32] at H
                                                exact absurd H (by simp)
                                            · rw [if_neg c31] at H
                                              exact absurd H (by simp)
                                          · rw [if_neg c30] at H
                                            exact absurd H (by simp)
                                        · rw [if_neg c29] at H
                                          exact absurd H (by simp)
                                      · rw [if_neg c28] at H
                                        exact absurd H (by simp)
                                    · rw [if_neg c27] at H
                                      exact absurd H (by simp)
                                  · rw [if_neg c26] at H
                                    exact absurd H (by simp)
                                · rw [if_neg c25] at H
                                  exact absurd H (by simp)
                              · rw [if_neg c24] at H
                                exact absurd H (by simp)
                            · rw [if_neg c23] at H
                              exact absurd H (by simp)
                          · rw [if_neg c22] at H
                            exact absurd H (by simp)
                        · rw [if_neg c21] at H
                          exact absurd H (by simp)
                      · rw [if_neg c20] at H
                        exact absurd H (by simp)
                    · rw [if_neg c19] at H
                      exact absurd H (by simp)
                  · rw [if_neg c17] at H
                    exact absurd H (by simp)
                · rw [if_neg c15] at H
                  exact absurd H (by simp)
              · rw [if_neg c14] at H
                exact absurd H (by simp)
            · rw [if_neg c13] at H
              exact absurd H (by simp)
          · rw [if_neg c12] at H
            exact absurd H (by simp)
        · rw [if_neg c11] at H
          exact absurd H (by simp)
      · rw [if_neg c10] at H
        exact absurd H (by simp)
    · rw [if_neg c9] at H
      exact absurd H (by simp)
  · rw [if_neg c8] at H
    exact absurd H (by simp)

/-! ### estoverslaw19_Few: function 27 -/
def estoverslaw19_Few.f (l0 : List (S43)) : Option (Bool) := some (decide ((l0.length : Int) ≤ 20))
set_option maxHeartbeats 8000000 in
set_option maxRecDepth 100000 in
theorem estoverslaw19_Few.calls (A0 : Option Addr) (c0 : Nat) (l0 : List (S43)) (r : Bool) (w : World) (hr0 : Kd.C k43 w A0 l0.length l0) (hc0 : l0.length ≤ c0) (h : estoverslaw19_Few.f l0 = some r) :
    Calls Try.prog 27 #[.slice A0 l0.length c0] w fun e w' => e = .returned (.bool r) ∧ Drawn0 w w' := by
  have HR0 := Aside0.mk hr0
  have HC0 := Aside0.mk hc0
  clear hr0 hc0
  have H : (some (decide ((l0.length : Int) ≤ 20))) = some r := h
  clear h
  obtain rfl := Option.some.inj H
  go_enter Try.func27, Try.ntmps27
  go_wp2
  go_ret
  exact ⟨by first | rfl | (simp; done) | (simp [*]; done), by repeat (first | exact Drawn0.refl _ | apply Drawn0.step)⟩

/-! ### estoversref19_Same: function 43 -/
def estoversref19_Same.l0 : Nat → List (S43) → List (S43) → Int → Option (Bool)
  | 0, _, _, _ => none
  | k + 1, x0, x1, x5 => if x5 < (x0.length : Int) then (if 0 ≤ x5 then (if x5 < (x1.length : Int) then (if (!(((rd_T43 x0 x5).f0) == ((rd_T43 x1 x5).f0)) || (!(((rd_T43 x0 x5).f1) == ((rd_T43 x1 x5).f1)) || (!(((rd_T43 x0 x5).f2) == ((rd_T43 x1 x5).f2)) || (!(((rd_T43 x0 x5).f3) == ((rd_T43 x1 x5).f3)) || (!(((rd_T43 x0 x5).f4) == ((rd_T43 x1 x5).f4))))))) = true then (some false) else (estoversref19_Same.l0 k x0 x1 (wrap64 (x5 + 1)))) else (none)) else (none)) else (some true)
def estoversref19_Same.f (k : Nat) (l0 : List (S43)) (l1 : List (S43)) : Option (Bool) := if (l0.length : Int) = (l1.length : Int) then (estoversref19_Same.l0 k l0 l1 0) else (some false)
theorem estoversref19_Same.mono_l : ∀ k, (∀ y0 y1 y2, LeO (estoversref19_Same.l0 k y0 y1 y2) (estoversref19_Same.l0 (k + 1) y0 y1 y2))
  | 0 => fun _ _ _ r h => by simp [estoversref19_Same.l0] at h
  | k + 1 => by
    have ih0 := estoversref19_Same.mono_l k
    · intro y0 y1 y2
      unfold estoversref19_Same.l0
      repeat' first
      | (with_reducible exact ih0 _ _ _)
      | (with_reducible exact LeO.refl _)
      | (with_reducible exact LeO.none _)
      | (with_reducible refine LeO.ite ?_ ?_)
      | (with_reducible refine LeO.bind ?_ (fun _ => ?_))
      | exact ih0 _ _ _
      | exact LeO.none _
      | refine LeO.ite ?_ ?_
      | refine LeO.bind ?_ (fun _ => ?_)
theorem estoversref19_Same.mono : ∀ a0 a1 k, LeO (estoversref19_Same.f k a0 a1) (estoversref19_Same.f (k + 1) a0 a1) := by
  intro a0 a1 k
  have ih0 := estoversref19_Same.mono_l k
  unfold estoversref19_Same.f
  repeat' first
      | (with_reducible exact ih0 _ _ _)
      | (with_reducible exact LeO.refl _)
      | (with_reducible exact LeO.none _)
      | (with_reducible refine LeO.ite ?_ ?_)
      | (with_reducible refine LeO.bind ?_ (fun _ => ?_))
      | exact ih0 _ _ _
      | exact LeO.none _
      | refine LeO.ite ?_ ?_
      | refine LeO.bind ?_ (fun _ => ?_)
set_option maxHeartbeats 8000000 in
set_option maxRecDepth 100000 in
theorem estoversref19_Same.calls (k : Nat) (A0 : Option Addr) (c0 : Nat) (l0 : List (S43)) (A1 : Option Addr) (c1 : Nat) (l1 : List (S43)) (r : Bool) (w : World) (hr0 : Kd.C k43 w A0 l0.length l0) (hc0 : l0.length ≤ c0) (hr1 : Kd.C k43 w A1 l1.length l1) (hc1 : l1.length ≤ c1) (h : estoversref19_Same.f k l0 l1 = some r) :
    Calls Try.prog 43 #[.slice A0 l0.length c0, .slice A1 l1.length c1] w fun e w' => e = .returned (.bool r) ∧ Drawn0 w w' := by
  have hu43 := Try.underlying43
  have HR0 := Aside0.mk hr0
  have HC0 := Aside0.mk hc0
  clear hr0 hc0
  have HR1 := Aside0.mk hr1
  have HC1 := Aside0.mk hc1
  clear hr1 hc1
  have H : (if (l0.length : Int) = (l1.length : Int) then (estoversref19_Same.l0 k l0 l1 0) else (some false)) = some r := h
  clear h
  by_cases c3 : (l0.length : Int) = (l1.length : Int)
  · rw [if_pos c3] at H
    have c3b0 : ((l0.length : Int) == (l1.length : Int)) = true := beq_iff_eq.mpr c3
    have c3b1 : ((l0.length : Int) != (l1.length : Int)) = false := bne_eq_false_iff_eq.mpr c3
    have c3b2 : (l0.length == l1.length) = true := by first | simpa using c3 | (simp at c3 ⊢; omega)
    clear c3
    have H' := Aside0.mk H
    clear H
    go_enter Try.func43, Try.ntmps43
    go_wp2
    repeat (go_quiet (fail); try go_wp2)
    go_loopg [5] k (fun kq v5 w' => ∃ (x5_1 : Int), v5 = .int .i64 x5_1 ∧ Aside0 (estoversref19_Same.l0 kq l0 l1 x5_1 = some r) ∧ Aside0 (kq ≤ k) ∧ Drawn0 w w')
    case atStart => exact ⟨(0), (by first | rfl | (simp; done) | (simp [*]; done)), H', ⟨Nat.le_refl _⟩, by repeat (first | exact Drawn0.refl _ | apply Drawn0.step)⟩
    case round =>
      clear H'
      try clear c1
      try clear p2
      try clear c3
      try clear c3b0
      try clear c3b1
      try clear c3b2
      obtain ⟨x5_1, rfl, HA, HK1, ⟨m1, rfl⟩⟩ := hrel
      cases gk with
      | zero => exact absurd HA.out (by simp [estoversref19_Same.l0])
      | succ k1 =>
        have H := HA.out
        clear HA
        simp only [estoversref19_Same.l0] at H
        by_cases c4 : x5_1 < (l0.length : Int)
        · rw [if_pos c4] at H
          have c4b0 : decide (x5_1 < (l0.length : Int)) = true := decide_eq_true c4
          clear c4
          by_cases c5 : 0 ≤ x5_1
          · rw [if_pos c5] at H
            have c5b0 : decide (0 ≤ x5_1) = true := decide_eq_true c5
            clear c5
            by_cases c6 : x5_1 < (l1.length : Int)
            · rw [if_pos c6] at H
              have c6b0 : decide (x5_1 < (l1.length : Int)) = true := decide_eq_true c6
              clear c6
              by_cases c7 : (!(((rd_T43 l0 x5_1).f0) == ((rd_T43 l1 x5_1).f0)) || (!(((rd_T43 l0 x5_1).f1) == ((rd_T43 l1 x5_1).f1)) || (!(((rd_T43 l0 x5_1).f2) == ((rd_T43 l1 x5_1).f2)) || (!(((rd_T43 l0 x5_1).f3) == ((rd_T43 l1 x5_1).f3)) || (!(((rd_T43 l0 x5_1).f4) == ((rd_T43 l1 x5_1).f4))))))) = true
              · rw [if_pos c7] at H
                have c7b0 : (!(((rd_T43 l0 x5_1).f0) == ((rd_T43 l1 x5_1).f0)) || (!(((rd_T43 l0 x5_1).f1) == ((rd_T43 l1 x5_1).f1)) || (!(((rd_T43 l0 x5_1).f2) == ((rd_T43 l1 x5_1).f2)) || (!(((rd_T43 l0 x5_1).f3) == ((rd_T43 l1 x5_1).f3)) || (!(((rd_T43 l0 x5_1).f4) == ((rd_T43 l1 x5_1).f4))))))) = true := c7
                clear c7
                obtain rfl := Option.some.inj H
                have p234 : 0 ≤ (x5_1 : Int) := of_decide_eq_true (by first | (with_reducible assumption) | assumption)
                have q234 : x5_1 < (l0.length : Int) := of_decide_eq_true (by first | (with_reducible assumption) | assumption)
                obtain ⟨ad234, e234, hx234_0, hx234_1, hx234_2, hx234_3, hx234_4⟩ := at_T43 HR0.out x5_1 p234 q234
                cases e234
                replace p234 := eq_true p234
                replace q234 := eq_true q234
                have p235 : 0 ≤ (x5_1 : Int) := of_decide_eq_true (by first | (with_reducible assumption) | assumption)
                have q235 : x5_1 < (l1.length : Int) := of_decide_eq_true (by first | (with_reducible assumption) | assumption)
                obtain ⟨ad235, e235, hx235_0, hx235_1, hx235_2, hx235_3, hx235_4⟩ := at_T43 HR1.out x5_1 p235 q235
                cases e235
                replace p235 := eq_true p235
                replace q235 := eq_true q235
                go_wp2
                repeat (go_quiet (fail); try go_wp2)
                go_ret
                exact ⟨by first | rfl | (simp; done) | (simp [*]; done), by repeat (first | exact Drawn0.refl _ | apply Drawn0.step)⟩
              · rw [if_neg c7] at H
                have c7b0 : (!(((rd_T43 l0 x5_1).f0) == ((rd_T43 l1 x5_1).f0)) || (!(((rd_T43 l0 x5_1).f1) == ((rd_T43 l1 x5_1).f1)) || (!(((rd_T43 l0 x5_1).f2) == ((rd_T43 l1 x5_1).f2)) || (!(((rd_T43 l0 x5_1).f3) == ((rd_T43 l1 x5_1).f3)) || (!(((rd_T43 l0 x5_1).f4) == ((rd_T43 l1 x5_1).f4))))))) = false := by simpa using c7
                clear c7
                have H' := Aside0.mk H
                clear H
                have p234 : 0 ≤ (x5_1 : Int) := of_decide_eq_true (by first | (with_reducible assumption) | assumption)
                have q234 : x5_1 < (l0.length : Int) := of_decide_eq_true (by first | (with_reducible assumption) | assumption)
                obtain ⟨ad234, e234, hx234_0, hx234_1, hx234_2, hx234_3, hx234_4⟩ := at_T43 HR0.out x5_1 p234 q234
                cases e234
                replace p234 := eq_true p234
                replace q234 := eq_true q234
                have p235 : 0 ≤ (x5_1 : Int) := of_decide_eq_true (by first | (with_reducible assumption) | assumption)
                have q235 : x5_1 < (l1.length : Int) := of_decide_eq_true (by first | (with_reducible assumption) | assumption)
                obtain ⟨ad235, e235, hx235_0, hx235_1, hx235_2, hx235_3, hx235_4⟩ := at_T43 HR1.out x5_1 p235 q235
                cases e235
                replace p235 := eq_true p235
                replace q235 := eq_true q235
                go_wp2
                repeat (go_quiet (fail); try go_wp2)
                go_roundg k1
                case measure => have := HK1.out; omega
                case rel => exact ⟨(wrap64 (x5_1 + 1)), (by first | rfl | (simp; done) | (simp [*]; done)), H', ⟨by have := HK1.out; omega⟩, by repeat (first | exact Drawn0.refl _ | apply Drawn0.step)⟩
            · rw [if_neg c6] at H
              exact absurd H (by simp)
          · rw [if_neg c5] at H
            exact absurd H (by simp)
        · rw [if_neg c4] at H
          have c4b0 : decide (x5_1 < (l0.length : Int)) = false := decide_eq_false c4
          clear c4
          obtain rfl := Option.some.inj H
          go_wp2
          repeat (go_quiet (fail); try go_wp2)
          go_ret
          exact ⟨by first | rfl | (simp; done) | (simp [*]; done), by repeat (first | exact Drawn0.refl _ | apply Drawn0.step)⟩
  · rw [if_neg c3] at H
    have c3b0 : ((l0.length : Int) == (l1.length : Int)) = false := beq_eq_false_iff_ne.mpr c3
    have c3b1 : ((l0.length : Int) != (l1.length : Int)) = true := bne_iff_ne.mpr c3
    have c3b2 : (l0.length == l1.length) = false := by first | simpa using c3 | (simp at c3 ⊢; omega)
    obtain rfl := Option.some.inj H
    go_enter Try.func43, Try.ntmps43
    go_wp2
    repeat (go_quiet (fail); try go_wp2)
    go_ret
    exact ⟨by first | rfl | (simp; done) | (simp [*]; done), by repeat (first | exact Drawn0.refl _ | apply Drawn0.step)⟩

/-! ### estoverslaw19_AccountsCommute: function 15 -/
def estoverslaw19_AccountsCommute.j0 : Nat → List (S43) → Bool → Bool → Int → Int → Bool → Int → Int → Option (Bool)
  | 0, _, _, _, _, _, _, _, _ => none
  | k + 1, x0, x24, x237000, x237001, x237002, x238000, x238001, x238002 => if x24 = true then ((estoverslaw19_awake.f k).bind fun t240 => (some t240)) else ((accounts_Charge.f k x0 x237001 x237002).bind fun bt241 => (if bt241.2.2 = 0 then ((accounts_Charge.f k bt241.1 x238001 x238002).bind fun bt246 => (if bt246.2.2 = 0 then ((accounts_Charge.f k x0 x238001 x238002).bind fun bt251 => ((accounts_Charge.f k bt251.1 x237001 x237002).bind fun bt256 => (if bt251.2.2 = 0 then (if bt256.2.2 = 0 then ((estoversref19_Same.f k bt246.1 bt256.1).bind fun t261 => (some t261)) else (none)) else (none)))) else (some true))) else (some true)))
def estoverslaw19_AccountsCommute.f (k : Nat) (l0 : List (S43)) (a1_0 : Bool) (a1_1 : Int) (a1_2 : Int) (a2_0 : Bool) (a2_1 : Int) (a2_2 : Int) : Option (Bool) := (estoverslaw19_awake.f k).bind fun t238 => (if t238 = true then ((estoverslaw19_Few.f l0).bind fun t239 => (estoverslaw19_AccountsCommute.j0 k l0 (!t239) a1_0 a1_1 a1_2 a2_0 a2_1 a2_2)) else (estoverslaw19_AccountsCommute.j0 k l0 true a1_0 a1_1 a1_2 a2_0 a2_1 a2_2))
theorem estoverslaw19_AccountsCommute.mono_l : ∀ k, (∀ y0 y1 y2 y3 y4 y5 y6 y7, LeO (estoverslaw19_AccountsCommute.j0 k y0 y1 y2 y3 y4 y5 y6 y7) (estoverslaw19_AccountsCommute.j0 (k + 1) y0 y1 y2 y3 y4 y5 y6 y7))
  | 0 => fun _ _ _ _ _ _ _ _ r h => by simp [estoverslaw19_AccountsCommute.j0] at h
  | k + 1 => by
    have ih0 := estoverslaw19_AccountsCommute.mono_l k
    · intro y0 y1 y2 y3 y4 y5 y6 y7
      unfold estoverslaw19_AccountsCommute.j0
      repeat' first
      | (with_reducible exact ih0 _ _ _ _ _ _ _ _)
      | (with_reducible exact accounts_Charge.mono _ _ _ _)
      | (with_reducible exact estoverslaw19_awake.mono _)
      | (with_reducible exact estoversref19_Same.mono _ _ _)
      | (with_reducible exact LeO.refl _)
      | (with_reducible exact LeO.none _)
      | (with_reducible refine LeO.ite ?_ ?_)
      | (with_reducible refine LeO.bind ?_ (fun _ => ?_))
      | exact ih0 _ _ _ _ _ _ _ _
      | exact accounts_Charge.mono _ _ _ _
      | exact estoverslaw19_awake.mono _
      | exact estoversref19_Same.mono _ _ _
      | exact LeO.none _
      | refine LeO.ite ?_ ?_
      | refine LeO.bind ?_ (fun _ => ?_)
theorem estoverslaw19_AccountsCommute.mono : ∀ a0 a1 a2 a3 a4 a5 a6 k, LeO (estoverslaw19_AccountsCommute.f k a0 a1 a2 a3 a4 a5 a6) (estoverslaw19_AccountsCommute.f (k + 1) a0 a1 a2 a3 a4 a5 a6) := by
  intro a0 a1 a2 a3 a4 a5 a6 k
  have ih0 := estoverslaw19_AccountsCommute.mono_l k
  unfold estoverslaw19_AccountsCommute.f
  repeat' first
      | (with_reducible exact ih0 _ _ _ _ _ _ _ _)
      | (with_reducible exact accounts_Charge.mono _ _ _ _)
      | (with_reducible exact estoverslaw19_awake.mono _)
      | (with_reducible exact estoversref19_Same.mono _ _ _)
      | (with_reducible exact LeO.refl _)
      | (with_reducible exact LeO.none _)
      | (with_reducible refine LeO.ite ?_ ?_)
      | (with_reducible refine LeO.bind ?_ (fun _ => ?_))
      | exact ih0 _ _ _ _ _ _ _ _
      | exact accounts_Charge.mono _ _ _ _
      | exact estoverslaw19_awake.mono _
      | exact estoversref19_Same.mono _ _ _
      | exact LeO.none _
      | refine LeO.ite ?_ ?_
      | refine LeO.bind ?_ (fun _ => ?_)
set_option maxHeartbeats 8000000 in
set_option maxRecDepth 100000 in
theorem estoverslaw19_AccountsCommute.calls (k : Nat) (A0 : Option Addr) (c0 : Nat) (l0 : List (S43)) (a1_0 : Bool) (a1_1 : Int) (a1_2 : Int) (a2_0 : Bool) (a2_1 : Int) (a2_2 : Int) (r : Bool) (w : World) (hr0 : Kd.C k43 w A0 l0.length l0) (hc0 : l0.length ≤ c0) (h : estoverslaw19_AccountsCommute.f k l0 a1_0 a1_1 a1_2 a2_0 a2_1 a2_2 = some r) :
    Calls Try.prog 15 #[.slice A0 l0.length c0, .agg #[.bool a1_0, .int .i64 a1_1, .int .i64 a1_2], .agg #[.bool a2_0, .int .i64 a2_1, .int .i64 a2_2]] w fun e w' => e = .returned (.bool r) ∧ Below w.heap.size w w' := by
  have hu52 := Try.underlying52
  have HR0 := Aside0.mk hr0
  have HC0 := Aside0.mk hc0
  clear hr0 hc0
  have HB := Aside0.mk (Below.refl w.heap.size w)
  have H : ((estoverslaw19_awake.f k).bind fun t238 => (if t238 = true then ((estoverslaw19_Few.f l0).bind fun t239 => (estoverslaw19_AccountsCommute.j0 k l0 (!t239) a1_0 a1_1 a1_2 a2_0 a2_1 a2_2)) else (estoverslaw19_AccountsCommute.j0 k l0 true a1_0 a1_1 a1_2 a2_0 a2_1 a2_2))) = some r := h
  clear h
  have HC4 := Aside0.mk H
  clear H
  go_enter Try.func15, Try.ntmps15
  go_upto_region 1 with (first | ((with_reducible refine gate_dst (N := 4) rfl ?_); refine box_event ?hg (N := 4) ?hd (cs := #[.bool a1_0, .int .i64 a1_1, .int .i64 a1_2]) (t := 52) ?hr ?_; (case hd => rfl); (case hg => rfl); (case hr => first | (go_simp; done) | (go_simp; rfl)); intro gb236 hg w5 hbox hb; have n0_ := Aside0.mk (below_step (by repeat (first | (with_reducible first | exact HB.out | apply below_alloc | apply pw_below_drewN | apply below_drew1) | exact HB.out)) hb); have n1_ := Aside0.mk (hbox); have n2_ := Aside0.mk ((by rw [hg]; exact (below_size (by repeat (first | (with_reducible first | exact HB.out | apply below_alloc | apply pw_below_drewN | apply below_drew1) | exact HB.out))) : w.heap.size ≤ gb236)); have n3_ := Aside0.mk ((by rw [hg]; exact (below_size (by repeat (first | (with_reducible first | exact HB.out | apply below_alloc | apply pw_below_drewN | apply below_drew1) | exact HB.out))) : w.heap.size ≤ gb236)); clear HB; have HB := n0_; have BK236 := n1_; have GW236 := n2_; have GE236 := n3_; clear n0_ n1_ n2_ n3_; clear hb hbox hg) | ((with_reducible refine gate_dst (N := 5) rfl ?_); refine box_event ?hg (N := 5) ?hd (cs := #[.bool a2_0, .int .i64 a2_1, .int .i64 a2_2]) (t := 52) ?hr ?_; (case hd => rfl); (case hg => rfl); (case hr => first | (go_simp; done) | (go_simp; rfl)); intro gb237 hg w6 hbox hb; have n0_ := Aside0.mk (blk_below (g := gb236) (o := .cells #[.bool a1_0, .int .i64 a1_1, .int .i64 a1_2] 52 (0, 0)) (by (with_reducible repeat (first | refine blk_drewN ?_ _ | refine blk_drew ?_ | refine blk_alloc ?_ _)); exact BK236.out) hb); have n1_ := Aside0.mk (below_step (by repeat (first | (with_reducible first | exact HB.out | apply below_alloc | apply pw_below_drewN | apply below_drew1 | refine below_set ?_ GE236.out) | exact HB.out)) hb); have n2_ := Aside0.mk (hbox); have n3_ := Aside0.mk ((by rw [hg]; exact (below_size (by repeat (first | (with_reducible first | exact HB.out | apply below_alloc | apply pw_below_drewN | apply below_drew1 | refine below_set ?_ GE236.out) | exact HB.out))) : w.heap.size ≤ gb237)); have n4_ := Aside0.mk ((by rw [hg]; exact (below_size (by repeat (first | (with_reducible first | exact HB.out | apply below_alloc | apply pw_below_drewN | apply below_drew1 | refine below_set ?_ GE236.out) | exact HB.out))) : w.heap.size ≤ gb237)); have n5_ := Aside0.mk ((by rw [hg]; exact Nat.ne_of_lt (blk_lt (g := gb236) (o := .cells #[.bool a1_0, .int .i64 a1_1, .int .i64 a1_2] 52 (0, 0)) (by (with_reducible repeat (first | refine blk_drewN ?_ _ | refine blk_drew ?_ | refine blk_alloc ?_ _)); exact BK236.out)) : gb236 ≠ gb237)); have n6_ := Aside0.mk ((by rw [hg]; exact Nat.ne_of_gt (blk_lt (g := gb236) (o := .cells #[.bool a1_0, .int .i64 a1_1, .int .i64 a1_2] 52 (0, 0)) (by (with_reducible repeat (first | refine blk_drewN ?_ _ | refine blk_drew ?_ | refine blk_alloc ?_ _)); exact BK236.out)) : gb237 ≠ gb236)); clear BK236; clear HB; have BK236 := n0_; have HB := n1_; have BK237 := n2_; have GW237 := n3_; have GE237 := n4_; have NB236_237 := n5_; have NB237_236 := n6_; clear n0_ n1_ n2_ n3_ n4_ n5_ n6_; clear hb hbox hg))
  (try simp only [Act.put, List.setIfInBounds_toArray, List.set_cons_zero, List.set_cons_succ])
  go_cut [24] (fun v24 wc => ∃ (kq : Nat) (x24_3 : Bool), v24 = .bool x24_3 ∧ Aside0 (estoverslaw19_AccountsCommute.j0 kq l0 x24_3 a1_0 a1_1 a1_2 a2_0 a2_1 a2_2 = some r) ∧ Aside0 (kq ≤ k) ∧ Aside0 (wc.heap[gb236]? = some (.cells #[.bool a1_0, .int .i64 a1_1, .int .i64 a1_2] 52 (0, 0))) ∧ Aside0 (wc.heap[gb237]? = some (.cells #[.bool a2_0, .int .i64 a2_1, .int .i64 a2_2] 52 (0, 0))) ∧ Aside0 (Below w.heap.size w wc))
  case first =>
    have H := HC4.out
    clear HC4
    replace H := Option.bind_eq_some_iff.mp H
    obtain ⟨t238, A70, H⟩ := H
    replace H : (if t238 = true then ((estoverslaw19_Few.f l0).bind fun t239 => (estoverslaw19_AccountsCommute.j0 k l0 (!t239) a1_0 a1_1 a1_2 a2_0 a2_1 a2_2)) else (estoverslaw19_AccountsCommute.j0 k l0 true a1_0 a1_1 a1_2 a2_0 a2_1 a2_2)) = some r := H
    have A7 := Aside0.mk A70
    clear A70
    by_cases c8 : t238 = true
    · subst c8
      have H1 : ((estoverslaw19_Few.f l0).bind fun t239 => (estoverslaw19_AccountsCommute.j0 k l0 (!t239) a1_0 a1_1 a1_2 a2_0 a2_1 a2_2)) = some r := by rw [if_pos rfl] at H; exact H
      clear H
      have H := H1
      clear H1
      replace H := Option.bind_eq_some_iff.mp H
      obtain ⟨t239, A90, H⟩ := H
      replace H : (estoverslaw19_AccountsCommute.j0 k l0 (!t239) a1_0 a1_1 a1_2 a2_0 a2_1 a2_2) = some r := H
      have A9 := Aside0.mk A90
      clear A90
      have H' := Aside0.mk H
      clear H
      go_wp2_with (first | ((with_reducible refine gate_callee (f := 26) rfl ?_); refine goesL_ (some 18) rfl rfl Try.func26 (by kernel_rfl) rfl #[] rfl (by (try simp only [List.map_toArray, List.map_cons, List.map_nil]); first | done | rfl | (simp only [List.length_drop, List.length_take]; rfl)) ?_; (with_reducible refine (estoverslaw19_awake.calls k  true _ A7.out).mono ?_); rintro e w10 ⟨rfl, hb⟩; refine ⟨_, rfl, ?_⟩; have n0_ := Aside0.mk (blk_below (g := gb236) (o := .cells #[.bool a1_0, .int .i64 a1_1, .int .i64 a1_2] 52 (0, 0)) (by (with_reducible repeat (first | refine blk_drewN ?_ _ | refine blk_drew ?_ | refine blk_alloc ?_ _)); exact BK236.out) hb); have n1_ := Aside0.mk (blk_below (g := gb237) (o := .cells #[.bool a2_0, .int .i64 a2_1, .int .i64 a2_2] 52 (0, 0)) (by (with_reducible repeat (first | refine blk_drewN ?_ _ | refine blk_drew ?_ | refine blk_alloc ?_ _)); exact BK237.out) hb); have n2_ := Aside0.mk (below_step (by repeat (first | (with_reducible first | exact HB.out | apply below_alloc | apply pw_below_drewN | apply below_drew1 | refine below_set ?_ GE236.out | refine below_set ?_ GE237.out) | exact HB.out)) hb); clear BK236; clear BK237; clear HB; have BK236 := n0_; have BK237 := n1_; have HB := n2_; clear n0_ n1_ n2_; (try clear hb); (try clear hb2); (try clear hk); (try clear hi)) | (go_at_call 27; (with_reducible refine (estoverslaw19_Few.calls _ _ l0 t239 _ ?side1 ?side2 A9.out).mono ?_); (case side1 => repeat (first | exact (Kd.C_below HR0.out HB.out) | (with_reducible refine Kd.C_alloc ?_ _) | (with_reducible refine Kd.C_drewN ?_ _) | (with_reducible refine Kd.C_drew ?_))); (case side2 => exact HC0.out); rintro e w' ⟨rfl, ⟨nd, rfl⟩⟩))
      go_meet
      case rel => exact ⟨_, (!t239), (by first | rfl | (simp; done) | (simp [*]; done)), H', ⟨by first | omega | exact Nat.le_refl _⟩, ⟨by (with_reducible repeat (first | refine blk_drewN ?_ _ | refine blk_drew ?_ | refine blk_alloc ?_ _)); exact BK236.out⟩, ⟨by (with_reducible repeat (first | refine blk_drewN ?_ _ | refine blk_drew ?_ | refine blk_alloc ?_ _)); exact BK237.out⟩, ⟨by repeat (first | (with_reducible first | exact HB.out | apply below_alloc | apply pw_below_drewN | apply below_drew1 | refine below_set ?_ GE236.out | refine below_set ?_ GE237.out) | exact HB.out)⟩⟩
    · replace c8 := Bool.eq_false_iff.mpr c8
      subst c8
      have H1 : (estoverslaw19_AccountsCommute.j0 k l0 true a1_0 a1_1 a1_2 a2_0 a2_1 a2_2) = some r := by rw [if_neg (show ¬ (false = true) by decide)] at H; exact H
      clear H
      have H := H1
      clear H1
      have H' := Aside0.mk H
      clear H
      go_wp2_with (first | ((with_reducible refine gate_callee (f := 26) rfl ?_); refine goesL_ (some 18) rfl rfl Try.func26 (by kernel_rfl) rfl #[] rfl (by (try simp only [List.map_toArray, List.map_cons, List.map_nil]); first | done | rfl | (simp only [List.length_drop, List.length_take]; rfl)) ?_; (with_reducible refine (estoverslaw19_awake.calls k  false _ A7.out).mono ?_); rintro e w11 ⟨rfl, hb⟩; refine ⟨_, rfl, ?_⟩; have n0_ := Aside0.mk (blk_below (g := gb236) (o := .cells #[.bool a1_0, .int .i64 a1_1, .int .i64 a1_2] 52 (0, 0)) (by (with_reducible repeat (first | refine blk_drewN ?_ _ | refine blk_drew ?_ | refine blk_alloc ?_ _)); exact BK236.out) hb); have n1_ := Aside0.mk (blk_below (g := gb237) (o := .cells #[.bool a2_0, .int .i64 a2_1, .int .i64 a2_2] 52 (0, 0)) (by (with_reducible repeat (first | refine blk_drewN ?_ _ | refine blk_drew ?_ | refine blk_alloc ?_ _)); exact BK237.out) hb); have n2_ := Aside0.mk (below_step (by repeat (first | (with_reducible first | exact HB.out | apply below_alloc | apply pw_below_drewN | apply below_drew1 | refine below_set ?_ GE236.out | refine below_set ?_ GE237.out) | exact HB.out)) hb); clear BK236; clear BK237; clear HB; have BK236 := n0_; have BK237 := n1_; have HB := n2_; clear n0_ n1_ n2_; (try clear hb); (try clear hb2); (try clear hk); (try clear hi)))
      go_meet
      case rel => exact ⟨_, (true), (by first | rfl | (simp; done) | (simp [*]; done)), H', ⟨by first | omega | exact Nat.le_refl _⟩, ⟨by (with_reducible repeat (first | refine blk_drewN ?_ _ | refine blk_drew ?_ | refine blk_alloc ?_ _)); exact BK236.out⟩, ⟨by (with_reducible repeat (first | refine blk_drewN ?_ _ | refine blk_drew ?_ | refine blk_alloc ?_ _)); exact BK237.out⟩, ⟨by repeat (first | (with_reducible first | exact HB.out | apply below_alloc | apply pw_below_drewN | apply below_drew1 | refine below_set ?_ GE236.out | refine below_set ?_ GE237.out) | exact HB.out)⟩⟩
  case rest =>
    clear HC4
    try clear c1
    try clear c2
    try clear p2
    try clear c8
    obtain ⟨kq, x24_3, rfl, HA, HJ3, BK236, BK237, HB⟩ := hcut
    cases kq with
    | zero => exact absurd HA.out (by simp [estoverslaw19_AccountsCommute.j0])
    | succ kj3 =>
      have H := HA.out
      clear HA
      simp only [estoverslaw19_AccountsCommute.j0] at H
      by_cases c12 : x24_3 = true
      · subst c12
        have H1 : ((estoverslaw19_awake.f kj3).bind fun t240 => (some t240)) = some r := by rw [if_pos rfl] at H; exact H
        clear H
        have H := H1
        clear H1
        replace H := Option.bind_eq_some_iff.mp H
        obtain ⟨t240, A130, H⟩ := H
        replace H : (some t240) = some r := H
        have A13 := Aside0.mk A130
        clear A130
        obtain rfl := Option.some.inj H
        go_wp2_with (first | ((with_reducible refine gate_callee (f := 26) rfl ?_); refine goesL_ (some 25) rfl rfl Try.func26 (by kernel_rfl) rfl #[] rfl (by (try simp only [List.map_toArray, List.map_cons, List.map_nil]); first | done | rfl | (simp only [List.length_drop, List.length_take]; rfl)) ?_; (with_reducible refine (estoverslaw19_awake.calls kj3  t240 _ A13.out).mono ?_); rintro e w14 ⟨rfl, hb⟩; refine ⟨_, rfl, ?_⟩; have n0_ := Aside0.mk (blk_below (g := gb236) (o := .cells #[.bool a1_0, .int .i64 a1_1, .int .i64 a1_2] 52 (0, 0)) (by (with_reducible repeat (first | refine blk_drewN ?_ _ | refine blk_drew ?_ | refine blk_alloc ?_ _)); exact BK236.out) hb); have n1_ := Aside0.mk (blk_below (g := gb237) (o := .cells #[.bool a2_0, .int .i64 a2_1, .int .i64 a2_2] 52 (0, 0)) (by (with_reducible repeat (first | refine blk_drewN ?_ _ | refine blk_drew ?_ | refine blk_alloc ?_ _)); exact BK237.out) hb); have n2_ := Aside0.mk (below_step (by repeat (first | (with_reducible first | exact HB.out | apply below_alloc | apply pw_below_drewN | apply below_drew1 | refine below_set ?_ GE236.out | refine below_set ?_ GE237.out) | exact HB.out)) hb); clear BK236; clear BK237; clear HB; have BK236 := n0_; have BK237 := n1_; have HB := n2_; clear n0_ n1_ n2_; (try clear hb); (try clear hb2); (try clear hk); (try clear hi)))
        go_ret
        exact ⟨by first | rfl | (simp [errW_none, errW_some] <;> rfl) | (simp [*, errW_none, errW_some] <;> rfl), by repeat (first | (with_reducible first | exact HB.out | apply below_alloc | apply pw_below_drewN | apply below_drew1 | refine below_set ?_ GE236.out | refine below_set ?_ GE237.out) | exact HB.out)⟩
      · replace c12 := Bool.eq_false_iff.mpr c12
        subst c12
        have H1 : ((accounts_Charge.f kj3 l0 a1_1 a1_2).bind fun bt241 => (if bt241.2.2 = 0 then ((accounts_Charge.f kj3 bt241.1 a2_1 a2_2).bind fun bt246 => (if bt246.2.2 = 0 then ((accounts_Charge.f kj3 l0 a2_1 a2_2).bind fun bt251 => ((accounts_Charge.f kj3 bt251.1 a1_1 a1_2).bind fun bt256 => (if bt251.2.2 = 0 then (if bt256.2.2 = 0 then ((estoversref19_Same.f kj3 bt246.1 bt256.1).bind fun t261 => (some t261)) else (none)) else (none)))) else (some true))) else (some true))) = some r := by rw [if_neg (show ¬ (false = true) by decide)] at H; exact H
        clear H
        have H := H1
        clear H1
        replace H := Option.bind_eq_some_iff.mp H
        obtain ⟨⟨t241, t242, t243⟩, A150, H⟩ := H
        replace H : (if t243 = 0 then ((accounts_Charge.f kj3 t241 a2_1 a2_2).bind fun bt246 => (if bt246.2.2 = 0 then ((accounts_Charge.f kj3 l0 a2_1 a2_2).bind fun bt251 => ((accounts_Charge.f kj3 bt251.1 a1_1 a1_2).bind fun bt256 => (if bt251.2.2 = 0 then (if bt256.2.2 = 0 then ((estoversref19_Same.f kj3 bt246.1 bt256.1).bind fun t261 => (some t261)) else (none)) else (none)))) else (some true))) else (some true)) = some r := H
        have A15 := Aside0.mk A150
        clear A150
        by_cases c16 : t243 = 0
        · rw [if_pos c16] at H
          have c16b0 : (t243 == 0) = true := beq_iff_eq.mpr c16
          have c16b1 : (t243 != 0) = false := bne_eq_false_iff_eq.mpr c16
          clear c16
          replace H := Option.bind_eq_some_iff.mp H
          obtain ⟨⟨t246, t247, t248⟩, A170, H⟩ := H
          replace H : (if t248 = 0 then ((accounts_Charge.f kj3 l0 a2_1 a2_2).bind fun bt251 => ((accounts_Charge.f kj3 bt251.1 a1_1 a1_2).bind fun bt256 => (if bt251.2.2 = 0 then (if bt256.2.2 = 0 then ((estoversref19_Same.f kj3 t246 bt256.1).bind fun t261 => (some t261)) else (none)) else (none)))) else (some true)) = some r := H
          have A17 := Aside0.mk A170
          clear A170
          by_cases c18 : t248 = 0
          · rw [if_pos c18] at H
            have c18b0 : (t248 == 0) = true := beq_iff_eq.mpr c18
            have c18b1 : (t248 != 0) = false := bne_eq_false_iff_eq.mpr c18
            clear c18
            replace H := Option.bind_eq_some_iff.mp H
            obtain ⟨⟨t251, t252, t253⟩, A190, H⟩ := H
            replace H : ((accounts_Charge.f kj3 t251 a1_1 a1_2).bind fun bt256 => (if t253 = 0 then (if bt256.2.2 = 0 then ((estoversref19_Same.f kj3 t246 bt256.1).bind fun t261 => (some t261)) else (none)) else (none))) = some r := H
            have A19 := Aside0.mk A190
            clear A190
            replace H := Option.bind_eq_some_iff.mp H
            obtain ⟨⟨t256, t257, t258⟩, A200, H⟩ := H
            replace H : (if t253 = 0 then (if t258 = 0 then ((estoversref19_Same.f kj3 t246 t256).bind fun t261 => (some t261)) else (none)) else (none)) = some r := H
            have A20 := Aside0.mk A200
            clear A200
            by_cases c21 : t253 = 0
            · rw [if_pos c21] at H
              have c21b0 : (t253 == 0) = true := beq_iff_eq.mpr c21
              have c21b1 : (t253 != 0) = false := bne_eq_false_iff_eq.mpr c21
              clear c21
              by_cases c22 : t258 = 0
              · rw [if_pos c22] at H
                have c22b0 : (t258 == 0) = true := beq_iff_eq.mpr c22
                have c22b1 : (t258 != 0) = false := bne_eq_false_iff_eq.mpr c22
                clear c22
                replace H := Option.bind_eq_some_iff.mp H
                obtain ⟨t261, A230, H⟩ := H
                replace H : (some t261) = some r := H
                have A23 := Aside0.mk A230
                clear A230
                obtain rfl := Option.some.inj H
                have hnb24 := NB236_237.out
                have hnc24 := NB237_236.out
                have hcz25_0 : wc.cell? ⟨gb236, 0, none⟩ = some (.bool a1_0) := (blk_cell BK236.out 0).trans rfl
                have hcz25_1 : wc.cell? ⟨gb236, 1, none⟩ = some (.int .i64 a1_1) := (blk_cell BK236.out 1).trans rfl
                have hcz25_2 : wc.cell? ⟨gb236, 2, none⟩ = some (.int .i64 a1_2) := (blk_cell BK236.out 2).trans rfl
                have hfz25_0 := blk_frozen BK236.out 0
                have hfz25_1 := blk_frozen BK236.out 1
                have hfz25_2 := blk_frozen BK236.out 2
                go_wp2_with (first | ((with_reducible refine gate_callee (f := 39) rfl ?_); refine goesL_ (some 32) rfl rfl Try.func39 (by kernel_rfl) rfl #[.slice A0 l0.length c0, .int .i64 a1_1, .int .i64 a1_2] rfl (by (try simp only [List.map_toArray, List.map_cons, List.map_nil]); first | done | rfl | (simp only [List.length_drop, List.length_take]; rfl)) ?_; (with_reducible refine (accounts_Charge.calls kj3 _ _ l0 a1_1 a1_2 t241 t242 t243 _ ?side1 ?side2 A15.out).mono ?_); (case side1 => repeat (first | exact (Kd.C_below HR0.out HB.out) | (with_reducible refine Kd.C_alloc ?_ _) | (with_reducible refine Kd.C_drewN ?_ _) | (with_reducible refine Kd.C_drew ?_))); (case side2 => exact HC0.out); rintro e w26 ⟨v244, rfl, ho0, hb⟩; refine ⟨_, rfl, ?_⟩; have n0_ := Aside0.mk (Kd.R_lower ho0 (below_size (by repeat (first | (with_reducible first | exact HB.out | apply below_alloc | apply pw_below_drewN | apply below_drew1 | refine below_set ?_ GE236.out | refine below_set ?_ GE237.out) | exact HB.out)))); have n1_ := Aside0.mk (blk_below (g := gb236) (o := .cells #[.bool a1_0, .int .i64 a1_1, .int .i64 a1_2] 52 (0, 0)) (by (with_reducible repeat (first | refine blk_drewN ?_ _ | refine blk_drew ?_ | refine blk_alloc ?_ _)); exact BK236.out) hb); have n2_ := Aside0.mk (blk_below (g := gb237) (o := .cells #[.bool a2_0, .int .i64 a2_1, .int .i64 a2_2] 52 (0, 0)) (by (with_reducible repeat (first | refine blk_drewN ?_ _ | refine blk_drew ?_ | refine blk_alloc ?_ _)); exact BK237.out) hb); have n3_ := Aside0.mk (below_step (by repeat (first | (with_reducible first | exact HB.out | apply below_alloc | apply pw_below_drewN | apply below_drew1 | refine below_set ?_ GE236.out | refine below_set ?_ GE237.out) | exact HB.out)) hb); clear BK236; clear BK237; clear HB; have HO245 := n0_; have BK236 := n1_; have BK237 := n2_; have HB := n3_; clear n0_ n1_ n2_ n3_; (try clear hb); (try clear hb2); (try clear hk); (try clear hi); (try clear ho0); have hcz27_0 : w26.cell? ⟨gb237, 0, none⟩ = some (.bool a2_0) := (blk_cell BK237.out 0).trans rfl; have hcz27_1 : w26.cell? ⟨gb237, 1, none⟩ = some (.int .i64 a2_1) := (blk_cell BK237.out 1).trans rfl; have hcz27_2 : w26.cell? ⟨gb237, 2, none⟩ = some (.int .i64 a2_2) := (blk_cell BK237.out 2).trans rfl; have hfz27_0 := blk_frozen BK237.out 0; have hfz27_1 := blk_frozen BK237.out 1; have hfz27_2 := blk_frozen BK237.out 2; obtain ⟨Ao28, co28, eo28⟩ := Kd.R_slice HO245.out; subst eo28) | ((with_reducible refine gate_callee (f := 39) rfl ?_); refine goesL_ (some 44) rfl rfl Try.func39 (by kernel_rfl) rfl #[.slice Ao28 t241.length co28, .int .i64 a2_1, .int .i64 a2_2] rfl (by (try simp only [List.map_toArray, List.map_cons, List.map_nil]); first | done | rfl | (simp only [List.length_drop, List.length_take]; rfl)) ?_; (with_reducible refine (accounts_Charge.calls kj3 _ _ t241 a2_1 a2_2 t246 t247 t248 _ ?side1 ?side2 A17.out).mono ?_); (case side1 => repeat (first | exact (Kd.R_reads' HO245.out).2.2 | (with_reducible refine Kd.C_alloc ?_ _) | (with_reducible refine Kd.C_drewN ?_ _) | (with_reducible refine Kd.C_drew ?_))); (case side2 => exact (Kd.R_reads' HO245.out).2.1); rintro e w29 ⟨v249, rfl, ho0, hb⟩; refine ⟨_, rfl, ?_⟩; have n0_ := Aside0.mk (Kd.R_elder' (by (with_reducible repeat (first | apply Kd.R_alloc | apply Kd.R_drewN | apply Kd.R_drew)); exact HO245.out) (Kd.R_base ho0) hb); have n1_ := Aside0.mk (Kd.R_lower (Kd.R_new' ho0 (Kd.R_lt (by (with_reducible repeat (first | apply Kd.R_alloc | apply Kd.R_drewN | apply Kd.R_drew)); exact HO245.out))) (below_size (by repeat (first | (with_reducible first | exact HB.out | apply below_alloc | apply pw_below_drewN | apply below_drew1 | refine below_set ?_ GE236.out | refine below_set ?_ GE237.out) | exact HB.out)))); have n2_ := Aside0.mk (blk_below (g := gb236) (o := .cells #[.bool a1_0, .int .i64 a1_1, .int .i64 a1_2] 52 (0, 0)) (by (with_reducible repeat (first | refine blk_drewN ?_ _ | refine blk_drew ?_ | refine blk_alloc ?_ _)); exact BK236.out) hb); have n3_ := Aside0.mk (blk_below (g := gb237) (o := .cells #[.bool a2_0, .int .i64 a2_1, .int .i64 a2_2] 52 (0, 0)) (by (with_reducible repeat (first | refine blk_drewN ?_ _ | refine blk_drew ?_ | refine blk_alloc ?_ _)); exact BK237.out) hb); have n4_ := Aside0.mk (below_step (by repeat (first | (with_reducible first | exact HB.out | apply below_alloc | apply pw_below_drewN | apply below_drew1 | refine below_set ?_ GE236.out | refine below_set ?_ GE237.out) | exact HB.out)) hb); clear HO245; clear BK236; clear BK237; clear HB; have HO245 := n0_; have HO250 := n1_; have BK236 := n2_; have BK237 := n3_; have HB := n4_; clear n0_ n1_ n2_ n3_ n4_; (try clear hb); (try clear hb2); (try clear hk); (try clear hi); (try clear ho0); have hcz30_0 : w29.cell? ⟨gb237, 0, none⟩ = some (.bool a2_0) := (blk_cell BK237.out 0).trans rfl; have hcz30_1 : w29.cell? ⟨gb237, 1, none⟩ = some (.int .i64 a2_1) := (blk_cell BK237.out 1).trans rfl; have hcz30_2 : w29.cell? ⟨gb237, 2, none⟩ = some (.int .i64 a2_2) := (blk_cell BK237.out 2).trans rfl; have hfz30_0 := blk_frozen BK237.out 0; have hfz30_1 := blk_frozen BK237.out 1; have hfz30_2 := blk_frozen BK237.out 2) | ((with_reducible refine gate_callee (f := 39) rfl ?_); refine goesL_ (some 56) rfl rfl Try.func39 (by kernel_rfl) rfl #[.slice A0 l0.length c0, .int .i64 a2_1, .int .i64 a2_2] rfl (by (try simp only [List.map_toArray, List.map_cons, List.map_nil]); first | done | rfl | (simp only [List.length_drop, List.length_take]; rfl)) ?_; (with_reducible refine (accounts_Charge.calls kj3 _ _ l0 a2_1 a2_2 t251 t252 t253 _ ?side1 ?side2 A19.out).mono ?_); (case side1 => repeat (first | exact (Kd.C_below HR0.out HB.out) | (with_reducible refine Kd.C_alloc ?_ _) | (with_reducible refine Kd.C_drewN ?_ _) | (with_reducible refine Kd.C_drew ?_))); (case side2 => exact HC0.out); rintro e w31 ⟨v254, rfl, ho0, hb⟩; refine ⟨_, rfl, ?_⟩; have n0_ := Aside0.mk (Kd.R_elder' (by (with_reducible repeat (first | apply Kd.R_alloc | apply Kd.R_drewN | apply Kd.R_drew)); exact HO245.out) (Kd.R_base ho0) hb); have n1_ := Aside0.mk (Kd.R_elder' (by (with_reducible repeat (first | apply Kd.R_alloc | apply Kd.R_drewN | apply Kd.R_drew)); exact HO250.out) (Kd.R_base ho0) hb); have n2_ := Aside0.mk (Kd.R_lower (Kd.R_new' (Kd.R_new' ho0 (Kd.R_lt (by (with_reducible repeat (first | apply Kd.R_alloc | apply Kd.R_drewN | apply Kd.R_drew)); exact HO245.out))) (Kd.R_lt (by (with_reducible repeat (first | apply Kd.R_alloc | apply Kd.R_drewN | apply Kd.R_drew)); exact HO250.out))) (below_size (by repeat (first | (with_reducible first | exact HB.out | apply below_alloc | apply pw_below_drewN | apply below_drew1 | refine below_set ?_ GE236.out | refine below_set ?_ GE237.out) | exact HB.out)))); have n3_ := Aside0.mk (blk_below (g := gb236) (o := .cells #[.bool a1_0, .int .i64 a1_1, .int .i64 a1_2] 52 (0, 0)) (by (with_reducible repeat (first | refine blk_drewN ?_ _ | refine blk_drew ?_ | refine blk_alloc ?_ _)); exact BK236.out) hb); have n4_ := Aside0.mk (blk_below (g := gb237) (o := .cells #[.bool a2_0, .int .i64 a2_1, .int .i64 a2_2] 52 (0, 0)) (by (with_reducible repeat (first | refine blk_drewN ?_ _ | refine blk_drew ?_ | refine blk_alloc ?_ _)); exact BK237.out) hb); have n5_ := Aside0.mk (below_step (by repeat (first | (with_reducible first | exact HB.out | apply below_alloc | apply pw_below_drewN | apply below_drew1 | refine below_set ?_ GE236.out | refine below_set ?_ GE237.out) | exact HB.out)) hb); clear HO245; clear HO250; clear BK236; clear BK237; clear HB; have HO245 := n0_; have HO250 := n1_; have HO255 := n2_; have BK236 := n3_; have BK237 := n4_; have HB := n5_; clear n0_ n1_ n2_ n3_ n4_ n5_; (try clear hb); (try clear hb2); (try clear hk); (try clear hi); (try clear ho0); have hcz32_0 : w31.cell? ⟨gb236, 0, none⟩ = some (.bool a1_0) := (blk_cell BK236.out 0).trans rfl; have hcz32_1 : w31.cell? ⟨gb236, 1, none⟩ = some (.int .i64 a1_1) := (blk_cell BK236.out 1).trans rfl; have hcz32_2 : w31.cell? ⟨gb236, 2, none⟩ = some (.int .i64 a1_2) := (blk_cell BK236.out 2).trans rfl; have hfz32_0 := blk_frozen BK236.out 0; have hfz32_1 := blk_frozen BK236.out 1; have hfz32_2 := blk_frozen BK236.out 2; obtain ⟨Ao33, co33, eo33⟩ := Kd.R_slice HO255.out; subst eo33) | ((with_reducible refine gate_callee (f := 39) rfl ?_); refine goesL_ (some 66) rfl rfl Try.func39 (by kernel_rfl) rfl #[.slice Ao33 t251.length co33, .int .i64 a1_1, .int .i64 a1_2] rfl (by (try simp only [List.map_toArray, List.map_cons, List.map_nil]); first | done | rfl | (simp only [List.length_drop, List.length_take]; rfl)) ?_; (with_reducible refine (accounts_Charge.calls kj3 _ _ t251 a1_1 a1_2 t256 t257 t258 _ ?side1 ?side2 A20.out).mono ?_); (case side1 => repeat (first | exact (Kd.R_reads' HO255.out).2.2 | (with_reducible refine Kd.C_alloc ?_ _) | (with_reducible refine Kd.C_drewN ?_ _) | (with_reducible refine Kd.C_drew ?_))); (case side2 => exact (Kd.R_reads' HO255.out).2.1); rintro e w34 ⟨v259, rfl, ho0, hb⟩; refine ⟨_, rfl, ?_⟩; have n0_ := Aside0.mk (Kd.R_elder' (by (with_reducible repeat (first | apply Kd.R_alloc | apply Kd.R_drewN | apply Kd.R_drew)); exact HO245.out) (Kd.R_base ho0) hb); have n1_ := Aside0.mk (Kd.R_elder' (by (with_reducible repeat (first | apply Kd.R_alloc | apply Kd.R_drewN | apply Kd.R_drew)); exact HO250.out) (Kd.R_base ho0) hb); have n2_ := Aside0.mk (Kd.R_elder' (by (with_reducible repeat (first | apply Kd.R_alloc | apply Kd.R_drewN | apply Kd.R_drew)); exact HO255.out) (Kd.R_base ho0) hb); have n3_ := Aside0.mk (Kd.R_lower (Kd.R_new' (Kd.R_new' (Kd.R_new' ho0 (Kd.R_lt (by (with_reducible repeat (first | apply Kd.R_alloc | apply Kd.R_drewN | apply Kd.R_drew)); exact HO245.out))) (Kd.R_lt (by (with_reducible repeat (first | apply Kd.R_alloc | apply Kd.R_drewN | apply Kd.R_drew)); exact HO250.out))) (Kd.R_lt (by (with_reducible repeat (first | apply Kd.R_alloc | apply Kd.R_drewN | apply Kd.R_drew)); exact HO255.out))) (below_size (by repeat (first | (with_reducible first | exact HB.out | apply below_alloc | apply pw_below_drewN | apply below_drew1 | refine below_set ?_ GE236.out | refine below_set ?_ GE237.out) | exact HB.out)))); have n4_ := Aside0.mk (blk_below (g := gb236) (o := .cells #[.bool a1_0, .int .i64 a1_1, .int .i64 a1_2] 52 (0, 0)) (by (with_reducible repeat (first | refine blk_drewN ?_ _ | refine blk_drew ?_ | refine blk_alloc ?_ _)); exact BK236.out) hb); have n5_ := Aside0.mk (blk_below (g := gb237) (o := .cells #[.bool a2_0, .int .i64 a2_1, .int .i64 a2_2] 52 (0, 0)) (by (with_reducible repeat (first | refine blk_drewN ?_ _ | refine blk_drew ?_ | refine blk_alloc ?_ _)); exact BK237.out) hb); have n6_ := Aside0.mk (below_step (by repeat (first | (with_reducible first | exact HB.out | apply below_alloc | apply pw_below_drewN | apply below_drew1 | refine below_set ?_ GE236.out | refine below_set ?_ GE237.out) | exact HB.out)) hb); clear HO245; clear HO250; clear HO255; clear BK236; clear BK237; clear HB; have HO245 := n0_; have HO250 := n1_; have HO255 := n2_; have HO260 := n3_; have BK236 := n4_; have BK237 := n5_; have HB := n6_; clear n0_ n1_ n2_ n3_ n4_ n5_ n6_; (try clear hb); (try clear hb2); (try clear hk); (try clear hi); (try clear ho0); obtain ⟨Ao35, co35, eo35⟩ := Kd.R_slice HO250.out; subst eo35; obtain ⟨Ao36, co36, eo36⟩ := Kd.R_slice HO260.out; subst eo36) | (go_at_call 43; (with_reducible refine (estoversref19_Same.calls kj3 _ _ t246 _ _ t256 t261 _ ?side1 ?side2 ?side3 ?side4 A23.out).mono ?_); (case side1 => repeat (first | exact (Kd.R_reads' HO250.out).2.2 | (with_reducible refine Kd.C_alloc ?_ _) | (with_reducible refine Kd.C_drewN ?_ _) | (with_reducible refine Kd.C_drew ?_))); (case side2 => exact (Kd.R_reads' HO250.out).2.1); (case side3 => repeat (first | exact (Kd.R_reads' HO260.out).2.2 | (with_reducible refine Kd.C_alloc ?_ _) | (with_reducible refine Kd.C_drewN ?_ _) | (with_reducible refine Kd.C_drew ?_))); (case side4 => exact (Kd.R_reads' HO260.out).2.1); rintro e w' ⟨rfl, ⟨nd, rfl⟩⟩))
                go_ret
                exact ⟨by first | rfl | (simp [errW_none, errW_some] <;> rfl) | (simp [*, errW_none, errW_some] <;> rfl), by repeat (first | (with_reducible first | exact HB.out | apply below_alloc | apply pw_below_drewN | apply below_drew1 | refine below_set ?_ GE236.out | refine below_set ?_ GE237.out) | exact HB.out)⟩
              · rw [if_neg c22] at H
                exact absurd H (by simp)
            · rw [if_neg c21] at H
              exact absurd H (by simp)
          · rw [if_neg c18] at H
            have c18b0 : (t248 == 0) = false := beq_eq_false_iff_ne.mpr c18
            have c18b1 : (t248 != 0) = true := bne_iff_ne.mpr c18
            obtain rfl := Option.some.inj H
            have hnb37 := NB236_237.out
            have hnc37 := NB237_236.out
            have hcz38_0 : wc.cell? ⟨gb236, 0, none⟩ = some (.bool a1_0) := (blk_cell BK236.out 0).trans rfl
            have hcz38_1 : wc.cell? ⟨gb236, 1, none⟩ = some (.int .i64 a1_1) := (blk_cell BK236.out 1).trans rfl
            have hcz38_2 : wc.cell? ⟨gb236, 2, none⟩ = some (.int .i64 a1_2) := (blk_cell BK236.out 2).trans rfl
            have hfz38_0 := blk_frozen BK236.out 0
            have hfz38_1 := blk_frozen BK236.out 1
            have hfz38_2 := blk_frozen BK236.out 2
            go_wp2_with (first | ((with_reducible refine gate_callee (f := 39) rfl ?_); refine goesL_ (some 32) rfl rfl Try.func39 (by kernel_rfl) rfl #[.slice A0 l0.length c0, .int .i64 a1_1, .int .i64 a1_2] rfl (by (try simp only [List.map_toArray, List.map_cons, List.map_nil]); first | done | rfl | (simp only [List.length_drop, List.length_take]; rfl)) ?_; (with_reducible refine (accounts_Charge.calls kj3 _ _ l0 a1_1 a1_2 t241 t242 t243 _ ?side1 ?side2 A15.out).mono ?_); (case side1 => repeat (first | exact (Kd.C_below HR0.out HB.out) | (with_reducible refine Kd.C_alloc ?_ _) | (with_reducible refine Kd.C_drewN ?_ _) | (with_reducible refine Kd.C_drew ?_))); (case side2 => exact HC0.out); rintro e w39 ⟨v244, rfl, ho0, hb⟩; refine ⟨_, rfl, ?_⟩; have n0_ := Aside0.mk (Kd.R_lower ho0 (below_size (by repeat (first | (with_reducible first | exact HB.out | apply below_alloc | apply pw_below_drewN | apply below_drew1 | refine below_set ?_ GE236.out | refine below_set ?_ GE237.out) | exact HB.out)))); have n1_ := Aside0.mk (blk_below (g := gb236) (o := .cells #[.bool a1_0, .int .i64 a1_1, .int .i64 a1_2] 52 (0, 0)) (by (with_reducible repeat (first | refine blk_drewN ?_ _ | refine blk_drew ?_ | refine blk_alloc ?_ _)); exact BK236.out) hb); have n2_ := Aside0.mk (blk_below (g := gb237) (o := .cells #[.bool a2_0, .int .i64 a2_1, .int .i64 a2_2] 52 (0, 0)) (by (with_reducible repeat (first | refine blk_drewN ?_ _ | refine blk_drew ?_ | refine blk_alloc ?_ _)); exact BK237.out) hb); have n3_ := Aside0.mk (below_step (by repeat (first | (with_reducible first | exact HB.out | apply below_alloc | apply pw_below_drewN | apply below_drew1 | refine below_set ?_ GE236.out | refine below_set ?_ GE237.out) | exact HB.out)) hb); clear BK236; clear BK237; clear HB; have HO245 := n0_; have BK236 := n1_; have BK237 := n2_; have HB := n3_; clear n0_ n1_ n2_ n3_; (try clear hb); (try clear hb2); (try clear hk); (try clear hi); (try clear ho0); have hcz40_0 : w39.cell? ⟨gb237, 0, none⟩ = some (.bool a2_0) := (blk_cell BK237.out 0).trans rfl; have hcz40_1 : w39.cell? ⟨gb237, 1, none⟩ = some (.int .i64 a2_1) := (blk_cell BK237.out 1).trans rfl; have hcz40_2 : w39.cell? ⟨gb237, 2, none⟩ = some (.int .i64 a2_2) := (blk_cell BK237.out 2).trans rfl; have hfz40_0 := blk_frozen BK237.out 0; have hfz40_1 := blk_frozen BK237.out 1; have hfz40_2 := blk_frozen BK237.out 2; obtain ⟨Ao41, co41, eo41⟩ := Kd.R_slice HO245.out; subst eo41) | ((with_reducible refine gate_callee (f := 39) rfl ?_); refine goesL_ (some 44) rfl rfl Try.func39 (by kernel_rfl) rfl #[.slice Ao41 t241.length co41, .int .i64 a2_1, .int .i64 a2_2] rfl (by (try simp only [List.map_toArray, List.map_cons, List.map_nil]); first | done | rfl | (simp only [List.length_drop, List.length_take]; rfl)) ?_; (with_reducible refine (accounts_Charge.calls kj3 _ _ t241 a2_1 a2_2 t246 t247 t248 _ ?side1 ?side2 A17.out).mono ?_); (case side1 => repeat (first | exact (Kd.R_reads' HO245.out).2.2 | (with_reducible refine Kd.C_alloc ?_ _) | (with_reducible refine Kd.C_drewN ?_ _) | (with_reducible refine Kd.C_drew ?_))); (case side2 => exact (Kd.R_reads' HO245.out).2.1); rintro e w42 ⟨v249, rfl, ho0, hb⟩; refine ⟨_, rfl, ?_⟩; have n0_ := Aside0.mk (Kd.R_elder' (by (with_reducible repeat (first | apply Kd.R_alloc | apply Kd.R_drewN | apply Kd.R_drew)); exact HO245.out) (Kd.R_base ho0) hb); have n1_ := Aside0.mk (Kd.R_lower (Kd.R_new' ho0 (Kd.R_lt (by (with_reducible repeat (first | apply Kd.R_alloc | apply Kd.R_drewN | apply Kd.R_drew)); exact HO245.out))) (below_size (by repeat (first | (with_reducible first | exact HB.out | apply below_alloc | apply pw_below_drewN | apply below_drew1 | refine below_set ?_ GE236.out | refine below_set ?_ GE237.out) | exact HB.out)))); have n2_ := Aside0.mk (blk_below (g := gb236) (o := .cells #[.bool a1_0, .int .i64 a1_1, .int .i64 a1_2] 52 (0, 0)) (by (with_reducible repeat (first | refine blk_drewN ?_ _ | refine blk_drew ?_ | refine blk_alloc ?_ _)); exact BK236.out) hb); have n3_ := Aside0.mk (blk_below (g := gb237) (o := .cells #[.bool a2_0, .int .i64 a2_1, .int .i64 a2_2] 52 (0, 0)) (by (with_reducible repeat (first | refine blk_drewN ?_ _ | refine blk_drew ?_ | refine blk_alloc ?_ _)); exact BK237.out) hb); have n4_ := Aside0.mk (below_step (by repeat (first | (with_reducible first | exact HB.out | apply below_alloc | apply pw_below_drewN | apply below_drew1 | refine below_set ?_ GE236.out | refine below_set ?_ GE237.out) | exact HB.out)) hb); clear HO245; clear BK236; clear BK237; clear HB; have HO245 := n0_; have HO250 := n1_; have BK236 := n2_; have BK237 := n3_; have HB := n4_; clear n0_ n1_ n2_ n3_ n4_; (try clear hb); (try clear hb2); (try clear hk); (try clear hi); (try clear ho0)))
            go_ret
            exact ⟨by first | rfl | (simp [errW_none, errW_some] <;> rfl) | (simp [*, errW_none, errW_some] <;> rfl), by repeat (first | (with_reducible first | exact HB.out | apply below_alloc | apply pw_below_drewN | apply below_drew1 | refine below_set ?_ GE236.out | refine below_set ?_ GE237.out) | exact HB.out)⟩
        · rw [if_neg c16] at H
          have c16b0 : (t243 == 0) = false := beq_eq_false_iff_ne.mpr c16
          have c16b1 : (t243 != 0) = true := bne_iff_ne.mpr c16
          obtain rfl := Option.some.inj H
          have hnb43 := NB236_237.out
          have hnc43 := NB237_236.out
          have hcz44_0 : wc.cell? ⟨gb236, 0, none⟩ = some (.bool a1_0) := (blk_cell BK236.out 0).trans rfl
          have hcz44_1 : wc.cell? ⟨gb236, 1, none⟩ = some (.int .i64 a1_1) := (blk_cell BK236.out 1).trans rfl
          have hcz44_2 : wc.cell? ⟨gb236, 2, none⟩ = some (.int .i64 a1_2) := (blk_cell BK236.out 2).trans rfl
          have hfz44_0 := blk_frozen BK236.out 0
          have hfz44_1 := blk_frozen BK236.out 1
          have hfz44_2 := blk_frozen BK236.out 2
          go_wp2_with (first | ((with_reducible refine gate_callee (f := 39) rfl ?_); refine goesL_ (some 32) rfl rfl Try.func39 (by kernel_rfl) rfl #[.slice A0 l0.length c0, .int .i64 a1_1, .int .i64 a1_2] rfl (by (try simp only [List.map_toArray, List.map_cons, List.map_nil]); first | done | rfl | (simp only [List.length_drop, List.length_take]; rfl)) ?_; (with_reducible refine (accounts_Charge.calls kj3 _ _ l0 a1_1 a1_2 t241 t242 t243 _ ?side1 ?side2 A15.out).mono ?_); (case side1 => repeat (first | exact (Kd.C_below HR0.out HB.out) | (with_reducible refine Kd.C_alloc ?_ _) | (with_reducible refine Kd.C_drewN ?_ _) | (with_reducible refine Kd.C_drew ?_))); (case side2 => exact HC0.out); rintro e w45 ⟨v244, rfl, ho0, hb⟩; refine ⟨_, rfl, ?_⟩; have n0_ := Aside0.mk (Kd.R_lower ho0 (below_size (by repeat (first | (with_reducible first | exact HB.out | apply below_alloc | apply pw_below_drewN | apply below_drew1 | refine below_set ?_ GE236.out | refine below_set ?_ GE237.out) | exact HB.out)))); have n1_ := Aside0.mk (blk_below (g := gb236) (o := .cells #[.bool a1_0, .int .i64 a1_1, .int .i64 a1_2] 52 (0, 0)) (by (with_reducible repeat (first | refine blk_drewN ?_ _ | refine blk_drew ?_ | refine blk_alloc ?_ _)); exact BK236.out) hb); have n2_ := Aside0.mk (blk_below (g := gb237) (o := .cells #[.bool a2_0, .int .i64 a2_1, .int .i64 a2_2] 52 (0, 0)) (by (with_reducible repeat (first | refine blk_drewN ?_ _ | refine blk_drew ?_ | refine blk_alloc ?_ _)); exact BK237.out) hb); have n3_ := Aside0.mk (below_step (by repeat (first | (with_reducible first | exact HB.out | apply below_alloc | apply pw_below_drewN | apply below_drew1 | refine below_set ?_ GE236.out | refine below_set ?_ GE237.out) | exact HB.out)) hb); clear BK236; clear BK237; clear HB; have HO245 := n0_; have BK236 := n1_; have BK237 := n2_; have HB := n3_; clear n0_ n1_ n2_ n3_; (try clear hb); (try clear hb2); (try clear hk); (try clear hi); (try clear ho0)))
          go_ret
          exact ⟨by first | rfl | (simp [errW_none, errW_some] <;> rfl) | (simp [*, errW_none, errW_some] <;> rfl), by repeat (first | (with_reducible first | exact HB.out | apply below_alloc | apply pw_below_drewN | apply below_drew1 | refine below_set ?_ GE236.out | refine below_set ?_ GE237.out) | exact HB.out)⟩

end Go.Proofs.Ytpomppjeknmciaa.PAccountsCommute
