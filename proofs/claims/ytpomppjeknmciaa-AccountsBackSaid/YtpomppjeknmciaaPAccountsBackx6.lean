-- Printed by a copy of the kit's printer that this session has patched (wip/tools/patch_print.py): the session's own text. Lean checks it.
import Derived.Test.YtpomppjeknmciaaPAccountsBackx0
import Derived.Test.YtpomppjeknmciaaPAccountsBackx1
import Derived.Test.YtpomppjeknmciaaPAccountsBackx3
import Derived.Test.YtpomppjeknmciaaPAccountsBackx4
import Derived.Test.YtpomppjeknmciaaPAccountsBackx5
namespace Go.Proofs.Ytpomppjeknmciaa.PAccountsBack
open Go.RowKit Go.Proofs.YtpomppjeknmciaaW.PrintWords Go.Proofs.YtpomppjeknmciaaW.PrintLast Go.Proofs.YtpomppjeknmciaaW.PrintMore
attribute [local go_sem] max2_int min2_int max_two min_two max_three min_three max_four min_four   -- for this text's walks alone
set_option linter.unusedVariables false
set_option linter.unusedSimpArgs false

attribute [local go_sem high] eqA43
/-! ### estoverslaw19_awake: function 26 -/
def estoverslaw19_awake.f (k : Nat)  : Option (Bool) := (estoverslaw19_three.f).bind fun t199 => ((accounts_Path.f k t199 2).bind fun t202 => ((accounts_Margin.f k t199 2).bind fun bt205 => ((accounts_Charge.f k t199 2 2).bind fun bt208 => ((accounts_Charge.f k t199 2 3).bind fun bt213 => ((accounts_Uncharge.f k t199 1 2).bind fun bt218 => ((accounts_Check.f k t199).bind fun t222 => (if t222 = 0 then (if (t202.length : Int) = 3 then (if 0 < (t202.length : Int) then (if (rd t202 0) = 2 then (if 1 < (t202.length : Int) then (if (rd t202 1) = 1 then (if 2 < (t202.length : Int) then (if (rd t202 2) = 0 then ((accounts_Own.f k t199 0).bind fun t226 => (if t226 = 1 then ((accounts_Own.f k t199 2).bind fun t227 => (if t227 = 3 then (if bt205.1 = 2 then (if bt205.2.1 = 1 then (if bt205.2.2 = 0 then (if (bt208.1.length : Int) = 3 then (if 0 < (bt208.1.length : Int) then (if ((rd_T43 bt208.1 0).f1) = 7 then (if 1 < (bt208.1.length : Int) then (if ((rd_T43 bt208.1 1).f1) = 6 then (if 2 < (bt208.1.length : Int) then (if ((rd_T43 bt208.1 2).f1) = 5 then (if bt208.2.1 = (-1) then (if bt208.2.2 = 0 then (if bt213.2.1 = 1 then (if bt213.2.2 = 17 then (if bt218.2 = 11 then ((accounts_Total.f k t199).bind fun t231 => (if t231 = 5 then ((accounts_Inside.f k t199 2 1).bind fun t232 => (if t232 = true then ((accounts_Inside.f k t199 1 2).bind fun t233 => (some (!t233))) else (none))) else (none))) else (none)) else (none)) else (none)) else (none)) else (none)) else (none)) else (none)) else (none)) else (none)) else (none)) else (none)) else (none)) else (none)) else (none)) else (none)) else (none))) else (none))) else (none)) else (none)) else (none)) else (none)) else (none)) else (none)) else (none)) else (none))))))))
theorem estoverslaw19_awake.mono : ∀ k, LeO (estoverslaw19_awake.f k ) (estoverslaw19_awake.f (k + 1) ) := by
  intro  k
  unfold estoverslaw19_awake.f
  repeat' first
      | (with_reducible exact accounts_Charge.mono _ _ _ _)
      | (with_reducible exact accounts_Check.mono _ _)
      | (with_reducible exact accounts_Inside.mono _ _ _ _)
      | (with_reducible exact accounts_Margin.mono _ _ _)
      | (with_reducible exact accounts_Own.mono _ _ _)
      | (with_reducible exact accounts_Path.mono _ _ _)
      | (with_reducible exact accounts_Total.mono _ _)
      | (with_reducible exact accounts_Uncharge.mono _ _ _ _)
      | (with_reducible exact LeO.refl _)
      | (with_reducible exact LeO.none _)
      | (with_reducible refine LeO.ite ?_ ?_)
      | (with_reducible refine LeO.bind ?_ (fun _ => ?_))
      | exact accounts_Charge.mono _ _ _ _
      | exact accounts_Check.mono _ _
      | exact accounts_Inside.mono _ _ _ _
      | exact accounts_Margin.mono _ _ _
      | exact accounts_Own.mono _ _ _
      | exact accounts_Path.mono _ _ _
      | exact accounts_Total.mono _ _
      | exact accounts_Uncharge.mono _ _ _ _
      | exact LeO.none _
      | refine LeO.ite ?_ ?_
      | refine LeO.bind ?_ (fun _ => ?_)
set_option maxHeartbeats 8000000 in
set_option maxRecDepth 100000 in
theorem estoverslaw19_awake.calls (k : Nat)  (r : Bool) (w : World) (h : estoverslaw19_awake.f k  = some r) :
    Calls Try.prog 26 #[] w fun e w' => e = .returned (.bool r) ∧ Below w.heap.size w w' := by
  have HB := Aside0.mk (Below.refl w.heap.size w)
  have H : ((estoverslaw19_three.f).bind fun t199 => ((accounts_Path.f k t199 2).bind fun t202 => ((accounts_Margin.f k t199 2).bind fun bt205 => ((accounts_Charge.f k t199 2 2).bind fun bt208 => ((accounts_Charge.f k t199 2 3).bind fun bt213 => ((accounts_Uncharge.f k t199 1 2).bind fun bt218 => ((accounts_Check.f k t199).bind fun t222 => (if t222 = 0 then (if (t202.length : Int) = 3 then (if 0 < (t202.length : Int) then (if (rd t202 0) = 2 then (if 1 < (t202.length : Int) then (if (rd t202 1) = 1 then (if 2 < (t202.length : Int) then (if (rd t202 2) = 0 then ((accounts_Own.f k t199 0).bind fun t226 => (if t226 = 1 then ((accounts_Own.f k t199 2).bind fun t227 => (if t227 = 3 then (if bt205.1 = 2 then (if bt205.2.1 = 1 then (if bt205.2.2 = 0 then (if (bt208.1.length : Int) = 3 then (if 0 < (bt208.1.length : Int) then (if ((rd_T43 bt208.1 0).f1) = 7 then (if 1 < (bt208.1.length : Int) then (if ((rd_T43 bt208.1 1).f1) = 6 then (if 2 < (bt208.1.length : Int) then (if ((rd_T43 bt208.1 2).f1) = 5 then (if bt208.2.1 = (-1) then (if bt208.2.2 = 0 then (if bt213.2.1 = 1 then (if bt213.2.2 = 17 then (if bt218.2 = 11 then ((accounts_Total.f k t199).bind fun t231 => (if t231 = 5 then ((accounts_Inside.f k t199 2 1).bind fun t232 => (if t232 = true then ((accounts_Inside.f k t199 1 2).bind fun t233 => (some (!t233))) else (none))) else (none))) else (none)) else (none)) else (none)) else (none)) else (none)) else (none)) else (none)) else (none)) else (none)) else (none)) else (none)) else (none)) else (none)) else (none)) else (none)) else (none))) else (none))) else (none)) else (none)) else (none)) else (none)) else (none)) else (none)) else (none)) else (none))))))))) = some r := h
  clear h
  replace H := Option.bind_eq_some_iff.mp H
  obtain ⟨t199, A10, H⟩ := H
  replace H : ((accounts_Path.f k t199 2).bind fun t202 => ((accounts_Margin.f k t199 2).bind fun bt205 => ((accounts_Charge.f k t199 2 2).bind fun bt208 => ((accounts_Charge.f k t199 2 3).bind fun bt213 => ((accounts_Uncharge.f k t199 1 2).bind fun bt218 => ((accounts_Check.f k t199).bind fun t222 => (if t222 = 0 then (if (t202.length : Int) = 3 then (if 0 < (t202.length : Int) then (if (rd t202 0) = 2 then (if 1 < (t202.length : Int) then (if (rd t202 1) = 1 then (if 2 < (t202.length : Int) then (if (rd t202 2) = 0 then ((accounts_Own.f k t199 0).bind fun t226 => (if t226 = 1 then ((accounts_Own.f k t199 2).bind fun t227 => (if t227 = 3 then (if bt205.1 = 2 then (if bt205.2.1 = 1 then (if bt205.2.2 = 0 then (if (bt208.1.length : Int) = 3 then (if 0 < (bt208.1.length : Int) then (if ((rd_T43 bt208.1 0).f1) = 7 then (if 1 < (bt208.1.length : Int) then (if ((rd_T43 bt208.1 1).f1) = 6 then (if 2 < (bt208.1.length : Int) then (if ((rd_T43 bt208.1 2).f1) = 5 then (if bt208.2.1 = (-1) then (if bt208.2.2 = 0 then (if bt213.2.1 = 1 then (if bt213.2.2 = 17 then (if bt218.2 = 11 then ((accounts_Total.f k t199).bind fun t231 => (if t231 = 5 then ((accounts_Inside.f k t199 2 1).bind fun t232 => (if t232 = true then ((accounts_Inside.f k t199 1 2).bind fun t233 => (some (!t233))) else (none))) else (none))) else (none)) else (none)) else (none)) else (none)) else (none)) else (none)) else (none)) else (none)) else (none)) else (none)) else (none)) else (none)) else (none)) else (none)) else (none)) else (none))) else (none))) else (none)) else (none)) else (none)) else (none)) else (none)) else (none)) else (none)) else (none)))))))) = some r := H
  have A1 := Aside0.mk A10
  clear A10
  replace H := Option.bind_eq_some_iff.mp H
  obtain ⟨t202, A20, H⟩ := H
  replace H : ((accounts_Margin.f k t199 2).bind fun bt205 => ((accounts_Charge.f k t199 2 2).bind fun bt208 => ((accounts_Charge.f k t199 2 3).bind fun bt213 => ((accounts_Uncharge.f k t199 1 2).bind fun bt218 => ((accounts_Check.f k t199).bind fun t222 => (if t222 = 0 then (if (t202.length : Int) = 3 then (if 0 < (t202.length : Int) then (if (rd t202 0) = 2 then (if 1 < (t202.length : Int) then (if (rd t202 1) = 1 then (if 2 < (t202.length : Int) then (if (rd t202 2) = 0 then ((accounts_Own.f k t199 0).bind fun t226 => (if t226 = 1 then ((accounts_Own.f k t199 2).bind fun t227 => (if t227 = 3 then (if bt205.1 = 2 then (if bt205.2.1 = 1 then (if bt205.2.2 = 0 then (if (bt208.1.length : Int) = 3 then (if 0 < (bt208.1.length : Int) then (if ((rd_T43 bt208.1 0).f1) = 7 then (if 1 < (bt208.1.length : Int) then (if ((rd_T43 bt208.1 1).f1) = 6 then (if 2 < (bt208.1.length : Int) then (if ((rd_T43 bt208.1 2).f1) = 5 then (if bt208.2.1 = (-1) then (if bt208.2.2 = 0 then (if bt213.2.1 = 1 then (if bt213.2.2 = 17 then (if bt218.2 = 11 then ((accounts_Total.f k t199).bind fun t231 => (if t231 = 5 then ((accounts_Inside.f k t199 2 1).bind fun t232 => (if t232 = true then ((accounts_Inside.f k t199 1 2).bind fun t233 => (some (!t233))) else (none))) else (none))) else (none)) else (none)) else (none)) else (none)) else (none)) else (none)) else (none)) else (none)) else (none)) else (none)) else (none)) else (none)) else (none)) else (none)) else (none)) else (none))) else (none))) else (none)) else (none)) else (none)) else (none)) else (none)) else (none)) else (none)) else (none))))))) = some r := H
  have A2 := Aside0.mk A20
  clear A20
  replace H := Option.bind_eq_some_iff.mp H
  obtain ⟨⟨t205, t206, t207⟩, A30, H⟩ := H
  replace H : ((accounts_Charge.f k t199 2 2).bind fun bt208 => ((accounts_Charge.f k t199 2 3).bind fun bt213 => ((accounts_Uncharge.f k t199 1 2).bind fun bt218 => ((accounts_Check.f k t199).bind fun t222 => (if t222 = 0 then (if (t202.length : Int) = 3 then (if 0 < (t202.length : Int) then (if (rd t202 0) = 2 then (if 1 < (t202.length : Int) then (if (rd t202 1) = 1 then (if 2 < (t202.length : Int) then (if (rd t202 2) = 0 then ((accounts_Own.f k t199 0).bind fun t226 => (if t226 = 1 then ((accounts_Own.f k t199 2).bind fun t227 => (if t227 = 3 then (if t205 = 2 then (if t206 = 1 then (if t207 = 0 then (if (bt208.1.length : Int) = 3 then (if 0 < (bt208.1.length : Int) then (if ((rd_T43 bt208.1 0).f1) = 7 then (if 1 < (bt208.1.length : Int) then (if ((rd_T43 bt208.1 1).f1) = 6 then (if 2 < (bt208.1.length : Int) then (if ((rd_T43 bt208.1 2).f1) = 5 then (if bt208.2.1 = (-1) then (if bt208.2.2 = 0 then (if bt213.2.1 = 1 then (if bt213.2.2 = 17 then (if bt218.2 = 11 then ((accounts_Total.f k t199).bind fun t231 => (if t231 = 5 then ((accounts_Inside.f k t199 2 1).bind fun t232 => (if t232 = true then ((accounts_Inside.f k t199 1 2).bind fun t233 => (some (!t233))) else (none))) else (none))) else (none)) else (none)) else (none)) else (none)) else (none)) else (none)) else (none)) else (none)) else (none)) else (none)) else (none)) else (none)) else (none)) else (none)) else (none)) else (none))) else (none))) else (none)) else (none)) else (none)) else (none)) else (none)) else (none)) else (none)) else (none)))))) = some r := H
  have A3 := Aside0.mk A30
  clear A30
  replace H := Option.bind_eq_some_iff.mp H
  obtain ⟨⟨t208, t209, t210⟩, A40, H⟩ := H
  replace H : ((accounts_Charge.f k t199 2 3).bind fun bt213 => ((accounts_Uncharge.f k t199 1 2).bind fun bt218 => ((accounts_Check.f k t199).bind fun t222 => (if t222 = 0 then (if (t202.length : Int) = 3 then (if 0 < (t202.length : Int) then (if (rd t202 0) = 2 then (if 1 < (t202.length : Int) then (if (rd t202 1) = 1 then (if 2 < (t202.length : Int) then (if (rd t202 2) = 0 then ((accounts_Own.f k t199 0).bind fun t226 => (if t226 = 1 then ((accounts_Own.f k t199 2).bind fun t227 => (if t227 = 3 then (if t205 = 2 then (if t206 = 1 then (if t207 = 0 then (if (t208.length : Int) = 3 then (if 0 < (t208.length : Int) then (if ((rd_T43 t208 0).f1) = 7 then (if 1 < (t208.length : Int) then (if ((rd_T43 t208 1).f1) = 6 then (if 2 < (t208.length : Int) then (if ((rd_T43 t208 2).f1) = 5 then (if t209 = (-1) then (if t210 = 0 then (if bt213.2.1 = 1 then (if bt213.2.2 = 17 then (if bt218.2 = 11 then ((accounts_Total.f k t199).bind fun t231 => (if t231 = 5 then ((accounts_Inside.f k t199 2 1).bind fun t232 => (if t232 = true then ((accounts_Inside.f k t199 1 2).bind fun t233 => (some (!t233))) else (none))) else (none))) else (none)) else (none)) else (none)) else (none)) else (none)) else (none)) else (none)) else (none)) else (none)) else (none)) else (none)) else (none)) else (none)) else (none)) else (none)) else (none))) else (none))) else (none)) else (none)) else (none)) else (none)) else (none)) else (none)) else (none)) else (none))))) = some r := H
  have A4 := Aside0.mk A40
  clear A40
  replace H := Option.bind_eq_some_iff.mp H
  obtain ⟨⟨t213, t214, t215⟩, A50, H⟩ := H
  replace H : ((accounts_Uncharge.f k t199 1 2).bind fun bt218 => ((accounts_Check.f k t199).bind fun t222 => (if t222 = 0 then (if (t202.length : Int) = 3 then (if 0 < (t202.length : Int) then (if (rd t202 0) = 2 then (if 1 < (t202.length : Int) then (if (rd t202 1) = 1 then (if 2 < (t202.length : Int) then (if (rd t202 2) = 0 then ((accounts_Own.f k t199 0).bind fun t226 => (if t226 = 1 then ((accounts_Own.f k t199 2).bind fun t227 => (if t227 = 3 then (if t205 = 2 then (if t206 = 1 then (if t207 = 0 then (if (t208.length : Int) = 3 then (if 0 < (t208.length : Int) then (if ((rd_T43 t208 0).f1) = 7 then (if 1 < (t208.length : Int) then (if ((rd_T43 t208 1).f1) = 6 then (if 2 < (t208.length : Int) then (if ((rd_T43 t208 2).f1) = 5 then (if t209 = (-1) then (if t210 = 0 then (if t214 = 1 then (if t215 = 17 then (if bt218.2 = 11 then ((accounts_Total.f k t199).bind fun t231 => (if t231 = 5 then ((accounts_Inside.f k t199 2 1).bind fun t232 => (if t232 = true then ((accounts_Inside.f k t199 1 2).bind fun t233 => (some (!t233))) else (none))) else (none))) else (none)) else (none)) else (none)) else (none)) else (none)) else (none)) else (none)) else (none)) else (none)) else (none)) else (none)) else (none)) else (none)) else (none)) else (none)) else (none))) else (none))) else (none)) else (none)) else (none)) else (none)) else (none)) else (none)) else (none)) else (none)))) = some r := H
  have A5 := Aside0.mk A50
  clear A50
  replace H := Option.bind_eq_some_iff.mp H
  obtain ⟨⟨t218, t219⟩, A60, H⟩ := H
  replace H : ((accounts_Check.f k t199).bind fun t222 => (if t222 = 0 then (if (t202.length : Int) = 3 then (if 0 < (t202.length : Int) then (if (rd t202 0) = 2 then (if 1 < (t202.length : Int) then (if (rd t202 1) = 1 then (if 2 < (t202.length : Int) then (if (rd t202 2) = 0 then ((accounts_Own.f k t199 0).bind fun t226 => (if t226 = 1 then ((accounts_Own.f k t199 2).bind fun t227 => (if t227 = 3 then (if t205 = 2 then (if t206 = 1 then (if t207 = 0 then (if (t208.length : Int) = 3 then (if 0 < (t208.length : Int) then (if ((rd_T43 t208 0).f1) = 7 then (if 1 < (t208.length : Int) then (if ((rd_T43 t208 1).f1) = 6 then (if 2 < (t208.length : Int) then (if ((rd_T43 t208 2).f1) = 5 then (if t209 = (-1) then (if t210 = 0 then (if t214 = 1 then (if t215 = 17 then (if t219 = 11 then ((accounts_Total.f k t199).bind fun t231 => (if t231 = 5 then ((accounts_Inside.f k t199 2 1).bind fun t232 => (if t232 = true then ((accounts_Inside.f k t199 1 2).bind fun t233 => (some (!t233))) else (none))) else (none))) else (none)) else (none)) else (none)) else (none)) else (none)) else (none)) else (none)) else (none)) else (none)) else (none)) else (none)) else (none)) else (none)) else (none)) else (none)) else (none))) else (none))) else (none)) else (none)) else (none)) else (none)) else (none)) else (none)) else (none)) else (none))) = some r := H
  have A6 := Aside0.mk A60
  clear A60
  replace H := Option.bind_eq_some_iff.mp H
  obtain ⟨t222, A70, H⟩ := H
  replace H : (if t222 = 0 then (if (t202.length : Int) = 3 then (if 0 < (t202.length : Int) then (if (rd t202 0) = 2 then (if 1 < (t202.length : Int) then (if (rd t202 1) = 1 then (if 2 < (t202.length : Int) then (if (rd t202 2) = 0 then ((accounts_Own.f k t199 0).bind fun t226 => (if t226 = 1 then ((accounts_Own.f k t199 2).bind fun t227 => (if t227 = 3 then (if t205 = 2 then (if t206 = 1 then (if t207 = 0 then (if (t208.length : Int) = 3 then (if 0 < (t208.length : Int) then (if ((rd_T43 t208 0).f1) = 7 then (if 1 < (t208.length : Int) then (if ((rd_T43 t208 1).f1) = 6 then (if 2 < (t208.length : Int) then (if ((rd_T43 t208 2).f1) = 5 then (if t209 = (-1) then (if t210 = 0 then (if t214 = 1 then (if t215 = 17 then (if t219 = 11 then ((accounts_Total.f k t199).bind fun t231 => (if t231 = 5 then ((accounts_Inside.f k t199 2 1).bind fun t232 => (if t232 = true then ((accounts_Inside.f k t199 1 2).bind fun t233 => (some (!t233))) else (none))) else (none))) else (none)) else (none)) else (none)) else (none)) else (none)) else (none)) else (none)) else (none)) else (none)) else (none)) else (none)) else (none)) else (none)) else (none)) else (none)) else (none))) else (none))) else (none)) else (none)) else (none)) else (none)) else (none)) else (none)) else (none)) else (none)) = some r := H
  have A7 := Aside0.mk A70
  clear A70
  by_cases c8 : t222 = 0
  · rw [if_pos c8] at H
    have c8b0 : (t222 == 0) = true := beq_iff_eq.mpr c8
    have c8b1 : (t222 != 0) = false := bne_eq_false_iff_eq.mpr c8
    clear c8
    by_cases c9 : (t202.length : Int) = 3
    · rw [if_pos c9] at H
      have c9b0 : ((t202.length : Int) == 3) = true := beq_iff_eq.mpr c9
      have c9b1 : ((t202.length : Int) != 3) = false := bne_eq_false_iff_eq.mpr c9
      clear c9
      by_cases c10 : 0 < (t202.length : Int)
      · rw [if_pos c10] at H
        have c10b0 : decide (0 < (t202.length : Int)) = true := decide_eq_true c10
        have c10b1 : decide (0 < t202.length) = true := decide_eq_true (by omega)
        clear c10
        by_cases c11 : (rd t202 0) = 2
        · rw [if_pos c11] at H
          have c11b0 : ((rd t202 0) == 2) = true := beq_iff_eq.mpr c11
          have c11b1 : ((rd t202 0) != 2) = false := bne_eq_false_iff_eq.mpr c11
          clear c11
          by_cases c12 : 1 < (t202.length : Int)
          · rw [if_pos c12] at H
            have c12b0 : decide (1 < (t202.length : Int)) = true := decide_eq_true c12
            have c12b1 : decide (1 < t202.length) = true := decide_eq_true (by omega)
            clear c12
            by_cases c13 : (rd t202 1) = 1
            · rw [if_pos c13] at H
              have c13b0 : ((rd t202 1) == 1) = true := beq_iff_eq.mpr c13
              have c13b1 : ((rd t202 1) != 1) = false := bne_eq_false_iff_eq.mpr c13
              clear c13
              by_cases c14 : 2 < (t202.length : Int)
              · rw [if_pos c14] at H
                have c14b0 : decide (2 < (t202.length : Int)) = true := decide_eq_true c14
                have c14b1 : decide (2 < t202.length) = true := decide_eq_true (by omega)
                clear c14
                by_cases c15 : (rd t202 2) = 0
                · rw [if_pos c15] at H
                  have c15b0 : ((rd t202 2) == 0) = true := beq_iff_eq.mpr c15
                  have c15b1 : ((rd t202 2) != 0) = false := bne_eq_false_iff_eq.mpr c15
                  clear c15
                  replace H := Option.bind_eq_some_iff.mp H
                  obtain ⟨t226, A160, H⟩ := H
                  replace H : (if t226 = 1 then ((accounts_Own.f k t199 2).bind fun t227 => (if t227 = 3 then (if t205 = 2 then (if t206 = 1 then (if t207 = 0 then (if (t208.length : Int) = 3 then (if 0 < (t208.length : Int) then (if ((rd_T43 t208 0).f1) = 7 then (if 1 < (t208.length : Int) then (if ((rd_T43 t208 1).f1) = 6 then (if 2 < (t208.length : Int) then (if ((rd_T43 t208 2).f1) = 5 then (if t209 = (-1) then (if t210 = 0 then (if t214 = 1 then (if t215 = 17 then (if t219 = 11 then ((accounts_Total.f k t199).bind fun t231 => (if t231 = 5 then ((accounts_Inside.f k t199 2 1).bind fun t232 => (if t232 = true then ((accounts_Inside.f k t199 1 2).bind fun t233 => (some (!t233))) else (none))) else (none))) else (none)) else (none)) else (none)) else (none)) else (none)) else (none)) else (none)) else (none)) else (none)) else (none)) else (none)) else (none)) else (none)) else (none)) else (none)) else (none))) else (none)) = some r := H
                  have A16 := Aside0.mk A160
                  clear A160
                  by_cases c17 : t226 = 1
                  · rw [if_pos c17] at H
                    have c17b0 : (t226 == 1) = true := beq_iff_eq.mpr c17
                    have c17b1 : (t226 != 1) = false := bne_eq_false_iff_eq.mpr c17
                    clear c17
                    replace H := Option.bind_eq_some_iff.mp H
                    obtain ⟨t227, A180, H⟩ := H
                    replace H : (if t227 = 3 then (if t205 = 2 then (if t206 = 1 then (if t207 = 0 then (if (t208.length : Int) = 3 then (if 0 < (t208.length : Int) then (if ((rd_T43 t208 0).f1) = 7 then (if 1 < (t208.length : Int) then (if ((rd_T43 t208 1).f1) = 6 then (if 2 < (t208.length : Int) then (if ((rd_T43 t208 2).f1) = 5 then (if t209 = (-1) then (if t210 = 0 then (if t214 = 1 then (if t215 = 17 then (if t219 = 11 then ((accounts_Total.f k t199).bind fun t231 => (if t231 = 5 then ((accounts_Inside.f k t199 2 1).bind fun t232 => (if t232 = true then ((accounts_Inside.f k t199 1 2).bind fun t233 => (some (!t233))) else (none))) else (none))) else (none)) else (none)) else (none)) else (none)) else (none)) else (none)) else (none)) else (none)) else (none)) else (none)) else (none)) else (none)) else (none)) else (none)) else (none)) else (none)) = some r := H
                    have A18 := Aside0.mk A180
                    clear A180
                    by_cases c19 : t227 = 3
                    · rw [if_pos c19] at H
                      have c19b0 : (t227 == 3) = true := beq_iff_eq.mpr c19
                      have c19b1 : (t227 != 3) = false := bne_eq_false_iff_eq.mpr c19
                      clear c19
                      by_cases c20 : t205 = 2
                      · rw [if_pos c20] at H
                        have c20b0 : (t205 == 2) = true := beq_iff_eq.mpr c20
                        have c20b1 : (t205 != 2) = false := bne_eq_false_iff_eq.mpr c20
                        clear c20
                        by_cases c21 : t206 = 1
                        · rw [if_pos c21] at H
                          have c21b0 : (t206 == 1) = true := beq_iff_eq.mpr c21
                          have c21b1 : (t206 != 1) = false := bne_eq_false_iff_eq.mpr c21
                          clear c21
                          by_cases c22 : t207 = 0
                          · rw [if_pos c22] at H
                            have c22b0 : (t207 == 0) = true := beq_iff_eq.mpr c22
                            have c22b1 : (t207 != 0) = false := bne_eq_false_iff_eq.mpr c22
                            clear c22
                            by_cases c23 : (t208.length : Int) = 3
                            · rw [if_pos c23] at H
                              have c23b0 : ((t208.length : Int) == 3) = true := beq_iff_eq.mpr c23
                              have c23b1 : ((t208.length : Int) != 3) = false := bne_eq_false_iff_eq.mpr c23
                              clear c23
                              by_cases c24 : 0 < (t208.length : Int)
                              · rw [if_pos c24] at H
                                have c24b0 : decide (0 < (t208.length : Int)) = true := decide_eq_true c24
                                have c24b1 : decide (0 < t208.length) = true := decide_eq_true (by omega)
                                clear c24
                                by_cases c25 : ((rd_T43 t208 0).f1) = 7
                                · rw [if_pos c25] at H
                                  have c25b0 : (((rd_T43 t208 0).f1) == 7) = true := beq_iff_eq.mpr c25
                                  have c25b1 : (((rd_T43 t208 0).f1) != 7) = false := bne_eq_false_iff_eq.mpr c25
                                  clear c25
                                  by_cases c26 : 1 < (t208.length : Int)
                                  · rw [if_pos c26] at H
                                    have c26b0 : decide (1 < (t208.length : Int)) = true := decide_eq_true c26
                                    have c26b1 : decide (1 < t208.length) = true := decide_eq_true (by omega)
                                    clear c26
                                    by_cases c27 : ((rd_T43 t208 1).f1) = 6
                                    · rw [if_pos c27] at H
                                      have c27b0 : (((rd_T43 t208 1).f1) == 6) = true := beq_iff_eq.mpr c27
                                      have c27b1 : (((rd_T43 t208 1).f1) != 6) = false := bne_eq_false_iff_eq.mpr c27
                                      clear c27
                                      by_cases c28 : 2 < (t208.length : Int)
                                      · rw [if_pos c28] at H
                                        have c28b0 : decide (2 < (t208.length : Int)) = true := decide_eq_true c28
                                        have c28b1 : decide (2 < t208.length) = true := decide_eq_true (by omega)
                                        clear c28
                                        by_cases c29 : ((rd_T43 t208 2).f1) = 5
                                        · rw [if_pos c29] at H
                                          have c29b0 : (((rd_T43 t208 2).f1) == 5) = true := beq_iff_eq.mpr c29
                                          have c29b1 : (((rd_T43 t208 2).f1) != 5) = false := bne_eq_false_iff_eq.mpr c29
                                          clear c29
                                          by_cases c30 : t209 = (-1)
                                          · rw [if_pos c30] at H
                                            have c30b0 : (t209 == (-1)) = true := beq_iff_eq.mpr c30
                                            have c30b1 : (t209 != (-1)) = false := bne_eq_false_iff_eq.mpr c30
                                            clear c30
                                            by_cases c31 : t210 = 0
                                            · rw [if_pos c31] at H
                                              have c31b0 : (t210 == 0) = true := beq_iff_eq.mpr c31
                                              have c31b1 : (t210 != 0) = false := bne_eq_false_iff_eq.mpr c31
                                              clear c31
                                              by_cases c32 : t214 = 1
                                              · rw [if_pos c32] at H
                                                have c32b0 : (t214 == 1) = true := beq_iff_eq.mpr c32
                                                have c32b1 : (t214 != 1) = false := bne_eq_false_iff_eq.mpr c32
                                                clear c32
                                                by_cases c33 : t215 = 17
                                                · rw [if_pos c33] at H
                                                  have c33b0 : (t215 == 17) = true := beq_iff_eq.mpr c33
                                                  have c33b1 : (t215 != 17) = false := bne_eq_false_iff_eq.mpr c33
                                                  clear c33
                                                  by_cases c34 : t219 = 11
                                                  · rw [if_pos c34] at H
                                                    have c34b0 : (t219 == 11) = true := beq_iff_eq.mpr c34
                                                    have c34b1 : (t219 != 11) = false := bne_eq_false_iff_eq.mpr c34
                                                    clear c34
                                                    replace H := Option.bind_eq_some_iff.mp H
                                                    obtain ⟨t231, A350, H⟩ := H
                                                    replace H : (if t231 = 5 then ((accounts_Inside.f k t199 2 1).bind fun t232 => (if t232 = true then ((accounts_Inside.f k t199 1 2).bind fun t233 => (some (!t233))) else (none))) else (none)) = some r := H
                                                    have A35 := Aside0.mk A350
                                                    clear A350
                                                    by_cases c36 : t231 = 5
                                                    · rw [if_pos c36] at H
                                                      have c36b0 : (t231 == 5) = true := beq_iff_eq.mpr c36
                                                      have c36b1 : (t231 != 5) = false := bne_eq_false_iff_eq.mpr c36
                                                      clear c36
                                                      replace H := Option.bind_eq_some_iff.mp H
                                                      obtain ⟨t232, A370, H⟩ := H
                                                      replace H : (if t232 = true then ((accounts_Inside.f k t199 1 2).bind fun t233 => (some (!t233))) else (none)) = some r := H
                                                      have A37 := Aside0.mk A370
                                                      clear A370
                                                      by_cases c38 : t232 = true
                                                      · subst c38
                                                        have H1 : ((accounts_Inside.f k t199 1 2).bind fun t233 => (some (!t233))) = some r := by rw [if_pos rfl] at H; exact H
                                                        clear H
                                                        have H := H1
                                                        clear H1
                                                        replace H := Option.bind_eq_some_iff.mp H
                                                        obtain ⟨t233, A390, H⟩ := H
                                                        replace H : (some (!t233)) = some r := H
                                                        have A39 := Aside0.mk A390
                                                        clear A390
                                                        obtain rfl := Option.some.inj H
                                                        go_enter Try.func26, Try.ntmps26
                                                        (try (go_upto_region 7 with (first | ((with_reducible refine gate_callee (f := 47) rfl ?_); refine goesL_ (some 14) rfl rfl Try.func47 (by kernel_rfl) rfl #[] rfl (by (try simp only [List.map_toArray, List.map_cons, List.map_nil]); first | done | rfl | (simp only [List.length_drop, List.length_take]; rfl)) ?_; (with_reducible refine (estoverslaw19_three.calls  t199 _ A1.out).mono ?_); rintro e w40 ⟨v200, rfl, ho0, hb⟩; refine ⟨_, rfl, ?_⟩; have n0_ := Aside0.mk (Kd.R_lower ho0 (below_size (by repeat (first | (with_reducible first | exact HB.out | apply below_alloc | apply pw_below_drewN | apply below_drew1) | exact HB.out)))); have n1_ := Aside0.mk (below_step (by repeat (first | (with_reducible first | exact HB.out | apply below_alloc | apply pw_below_drewN | apply below_drew1) | exact HB.out)) hb); clear HB; have HO201 := n0_; have HB := n1_; clear n0_ n1_; (try clear hb); (try clear hb2); (try clear hk); (try clear hi); (try clear ho0); obtain ⟨Ao41, co41, eo41⟩ := Kd.R_slice HO201.out; subst eo41) | ((with_reducible refine gate_callee (f := 31) rfl ?_); refine goesL_ (some 16) rfl rfl Try.func31 (by kernel_rfl) rfl #[.slice Ao41 t199.length co41, .int .i64 2] rfl (by (try simp only [List.map_toArray, List.map_cons, List.map_nil]); first | done | rfl | (simp only [List.length_drop, List.length_take]; rfl)) ?_; (with_reducible refine (accounts_Path.calls k _ _ t199 2 t202 _ ?side1 ?side2 A2.out).mono ?_); (case side1 => repeat (first | exact (Kd.R_reads' HO201.out).2.2 | (with_reducible refine Kd.C_alloc ?_ _) | (with_reducible refine Kd.C_drewN ?_ _) | (with_reducible refine Kd.C_drew ?_))); (case side2 => exact (Kd.R_reads' HO201.out).2.1); rintro e w42 ⟨v203, rfl, ho0, hb⟩; refine ⟨_, rfl, ?_⟩; have n0_ := Aside0.mk (Kd.R_below (by (with_reducible repeat (first | apply Kd.R_alloc | apply Kd.R_drewN | apply Kd.R_drew)); exact HO201.out) hb); have n1_ := Aside0.mk (Kd.R_lower ho0 (below_size (by repeat (first | (with_reducible first | exact HB.out | apply below_alloc | apply pw_below_drewN | apply below_drew1) | exact HB.out)))); have n2_ := Aside0.mk (below_step (by repeat (first | (with_reducible first | exact HB.out | apply below_alloc | apply pw_below_drewN | apply below_drew1) | exact HB.out)) hb); clear HO201; clear HB; have HO201 := n0_; have HO204 := n1_; have HB := n2_; clear n0_ n1_ n2_; (try clear hb); (try clear hb2); (try clear hk); (try clear hi); (try clear ho0)) | ((with_reducible refine gate_callee (f := 33) rfl ?_); refine goesL_ (some 19) rfl rfl Try.func33 (by kernel_rfl) rfl #[.slice Ao41 t199.length co41, .int .i64 2] rfl (by (try simp only [List.map_toArray, List.map_cons, List.map_nil]); first | done | rfl | (simp only [List.length_drop, List.length_take]; rfl)) ?_; (with_reducible refine (accounts_Margin.calls k _ _ t199 2 t205 t206 t207 _ ?side1 ?side2 A3.out).mono ?_); (case side1 => repeat (first | exact (Kd.R_reads' HO201.out).2.2 | (with_reducible refine Kd.C_alloc ?_ _) | (with_reducible refine Kd.C_drewN ?_ _) | (with_reducible refine Kd.C_drew ?_))); (case side2 => exact (Kd.R_reads' HO201.out).2.1); rintro e w43 ⟨rfl, hb⟩; refine ⟨_, rfl, ?_⟩; have n0_ := Aside0.mk (Kd.R_below (by (with_reducible repeat (first | apply Kd.R_alloc | apply Kd.R_drewN | apply Kd.R_drew)); exact HO201.out) hb); have n1_ := Aside0.mk (Kd.R_below (by (with_reducible repeat (first | apply Kd.R_alloc | apply Kd.R_drewN | apply Kd.R_drew)); exact HO204.out) hb); have n2_ := Aside0.mk (below_step (by repeat (first | (with_reducible first | exact HB.out | apply below_alloc | apply pw_below_drewN | apply below_drew1) | exact HB.out)) hb); clear HO201; clear HO204; clear HB; have HO201 := n0_; have HO204 := n1_; have HB := n2_; clear n0_ n1_ n2_; (try clear hb); (try clear hb2); (try clear hk); (try clear hi)) | ((with_reducible refine gate_callee (f := 39) rfl ?_); refine goesL_ (some 25) rfl rfl Try.func39 (by kernel_rfl) rfl #[.slice Ao41 t199.length co41, .int .i64 2, .int .i64 2] rfl (by (try simp only [List.map_toArray, List.map_cons, List.map_nil]); first | done | rfl | (simp only [List.length_drop, List.length_take]; rfl)) ?_; (with_reducible refine (accounts_Charge.calls k _ _ t199 2 2 t208 t209 t210 _ ?side1 ?side2 A4.out).mono ?_); (case side1 => repeat (first | exact (Kd.R_reads' HO201.out).2.2 | (with_reducible refine Kd.C_alloc ?_ _) | (with_reducible refine Kd.C_drewN ?_ _) | (with_reducible refine Kd.C_drew ?_))); (case side2 => exact (Kd.R_reads' HO201.out).2.1); rintro e w44 ⟨v211, rfl, ho0, hb⟩; refine ⟨_, rfl, ?_⟩; have n0_ := Aside0.mk (Kd.R_elder' (by (with_reducible repeat (first | apply Kd.R_alloc | apply Kd.R_drewN | apply Kd.R_drew)); exact HO201.out) (Kd.R_base ho0) hb); have n1_ := Aside0.mk (Kd.R_below (by (with_reducible repeat (first | apply Kd.R_alloc | apply Kd.R_drewN | apply Kd.R_drew)); exact HO204.out) hb); have n2_ := Aside0.mk (Kd.R_lower (Kd.R_new' ho0 (Kd.R_lt (by (with_reducible repeat (first | apply Kd.R_alloc | apply Kd.R_drewN | apply Kd.R_drew)); exact HO201.out))) (below_size (by repeat (first | (with_reducible first | exact HB.out | apply below_alloc | apply pw_below_drewN | apply below_drew1) | exact HB.out)))); have n3_ := Aside0.mk (below_step (by repeat (first | (with_reducible first | exact HB.out | apply below_alloc | apply pw_below_drewN | apply below_drew1) | exact HB.out)) hb); clear HO201; clear HO204; clear HB; have HO201 := n0_; have HO204 := n1_; have HO212 := n2_; have HB := n3_; clear n0_ n1_ n2_ n3_; (try clear hb); (try clear hb2); (try clear hk); (try clear hi); (try clear ho0)) | ((with_reducible refine gate_callee (f := 39) rfl ?_); refine goesL_ (some 31) rfl rfl Try.func39 (by kernel_rfl) rfl #[.slice Ao41 t199.length co41, .int .i64 2, .int .i64 3] rfl (by (try simp only [List.map_toArray, List.map_cons, List.map_nil]); first | done | rfl | (simp only [List.length_drop, List.length_take]; rfl)) ?_; (with_reducible refine (accounts_Charge.calls k _ _ t199 2 3 t213 t214 t215 _ ?side1 ?side2 A5.out).mono ?_); (case side1 => repeat (first | exact (Kd.R_reads' HO201.out).2.2 | (with_reducible refine Kd.C_alloc ?_ _) | (with_reducible refine Kd.C_drewN ?_ _) | (with_reducible refine Kd.C_drew ?_))); (case side2 => exact (Kd.R_reads' HO201.out).2.1); rintro e w45 ⟨v216, rfl, ho0, hb⟩; refine ⟨_, rfl, ?_⟩; have n0_ := Aside0.mk (Kd.R_elder' (by (with_reducible repeat (first | apply Kd.R_alloc | apply Kd.R_drewN | apply Kd.R_drew)); exact HO201.out) (Kd.R_base ho0) hb); have n1_ := Aside0.mk (Kd.R_below (by (with_reducible repeat (first | apply Kd.R_alloc | apply Kd.R_drewN | apply Kd.R_drew)); exact HO204.out) hb); have n2_ := Aside0.mk (Kd.R_elder' (by (with_reducible repeat (first | apply Kd.R_alloc | apply Kd.R_drewN | apply Kd.R_drew)); exact HO212.out) (Kd.R_base ho0) hb); have n3_ := Aside0.mk (Kd.R_lower (Kd.R_new' (Kd.R_new' ho0 (Kd.R_lt (by (with_reducible repeat (first | apply Kd.R_alloc | apply Kd.R_drewN | apply Kd.R_drew)); exact HO201.out))) (Kd.R_lt (by (with_reducible repeat (first | apply Kd.R_alloc | apply Kd.R_drewN | apply Kd.R_drew)); exact HO212.out))) (below_size (by repeat (first | (with_reducible first | exact HB.out | apply below_alloc | apply pw_below_drewN | apply below_drew1) | exact HB.out)))); have n4_ := Aside0.mk (below_step (by repeat (first | (with_reducible first | exact HB.out | apply below_alloc | apply pw_below_drewN | apply below_drew1) | exact HB.out)) hb); clear HO201; clear HO204; clear HO212; clear HB; have HO201 := n0_; have HO204 := n1_; have HO212 := n2_; have HO217 := n3_; have HB := n4_; clear n0_ n1_ n2_ n3_ n4_; (try clear hb); (try clear hb2); (try clear hk); (try clear hi); (try clear ho0)) | ((with_reducible refine gate_callee (f := 41) rfl ?_); refine goesL_ (some 37) rfl rfl Try.func41 (by kernel_rfl) rfl #[.slice Ao41 t199.length co41, .int .i64 1, .int .i64 2] rfl (by (try simp only [List.map_toArray, List.map_cons, List.map_nil]); first | done | rfl | (simp only [List.length_drop, List.length_take]; rfl)) ?_; (with_reducible refine (accounts_Uncharge.calls k _ _ t199 1 2 t218 t219 _ ?side1 ?side2 A6.out).mono ?_); (case side1 => repeat (first | exact (Kd.R_reads' HO201.out).2.2 | (with_reducible refine Kd.C_alloc ?_ _) | (with_reducible refine Kd.C_drewN ?_ _) | (with_reducible refine Kd.C_drew ?_))); (case side2 => exact (Kd.R_reads' HO201.out).2.1); rintro e w46 ⟨v220, rfl, ho0, hb⟩; refine ⟨_, rfl, ?_⟩; have n0_ := Aside0.mk (Kd.R_elder' (by (with_reducible repeat (first | apply Kd.R_alloc | apply Kd.R_drewN | apply Kd.R_drew)); exact HO201.out) (Kd.R_base ho0) hb); have n1_ := Aside0.mk (Kd.R_below (by (with_reducible repeat (first | apply Kd.R_alloc | apply Kd.R_drewN | apply Kd.R_drew)); exact HO204.out) hb); have n2_ := Aside0.mk (Kd.R_elder' (by (with_reducible repeat (first | apply Kd.R_alloc | apply Kd.R_drewN | apply Kd.R_drew)); exact HO212.out) (Kd.R_base ho0) hb); have n3_ := Aside0.mk (Kd.R_elder' (by (with_reducible repeat (first | apply Kd.R_alloc | apply Kd.R_drewN | apply Kd.R_drew)); exact HO217.out) (Kd.R_base ho0) hb); have n4_ := Aside0.mk (Kd.R_lower (Kd.R_new' (Kd.R_new' (Kd.R_new' ho0 (Kd.R_lt (by (with_reducible repeat (first | apply Kd.R_alloc | apply Kd.R_drewN | apply Kd.R_drew)); exact HO201.out))) (Kd.R_lt (by (with_reducible repeat (first | apply Kd.R_alloc | apply Kd.R_drewN | apply Kd.R_drew)); exact HO212.out))) (Kd.R_lt (by (with_reducible repeat (first | apply Kd.R_alloc | apply Kd.R_drewN | apply Kd.R_drew)); exact HO217.out))) (below_size (by repeat (first | (with_reducible first | exact HB.out | apply below_alloc | apply pw_below_drewN | apply below_drew1) | exact HB.out)))); have n5_ := Aside0.mk (below_step (by repeat (first | (with_reducible first | exact HB.out | apply below_alloc | apply pw_below_drewN | apply below_drew1) | exact HB.out)) hb); clear HO201; clear HO204; clear HO212; clear HO217; clear HB; have HO201 := n0_; have HO204 := n1_; have HO212 := n2_; have HO217 := n3_; have HO221 := n4_; have HB := n5_; clear n0_ n1_ n2_ n3_ n4_ n5_; (try clear hb); (try clear hb2); (try clear hk); (try clear hi); (try clear ho0)) | ((with_reducible refine gate_callee (f := 28) rfl ?_); refine goesL_ (some 41) rfl rfl Try.func28 (by kernel_rfl) rfl #[.slice Ao41 t199.length co41] rfl (by (try simp only [List.map_toArray, List.map_cons, List.map_nil]); first | done | rfl | (simp only [List.length_drop, List.length_take]; rfl)) ?_; (with_reducible refine (accounts_Check.calls k _ _ t199 t222 _ ?side1 ?side2 A7.out).mono ?_); (case side1 => repeat (first | exact (Kd.R_reads' HO201.out).2.2 | (with_reducible refine Kd.C_alloc ?_ _) | (with_reducible refine Kd.C_drewN ?_ _) | (with_reducible refine Kd.C_drew ?_))); (case side2 => exact (Kd.R_reads' HO201.out).2.1); rintro e w47 ⟨rfl, hb⟩; refine ⟨_, rfl, ?_⟩; have n0_ := Aside0.mk (Kd.R_below (by (with_reducible repeat (first | apply Kd.R_alloc | apply Kd.R_drewN | apply Kd.R_drew)); exact HO201.out) hb); have n1_ := Aside0.mk (Kd.R_below (by (with_reducible repeat (first | apply Kd.R_alloc | apply Kd.R_drewN | apply Kd.R_drew)); exact HO204.out) hb); have n2_ := Aside0.mk (Kd.R_below (by (with_reducible repeat (first | apply Kd.R_alloc | apply Kd.R_drewN | apply Kd.R_drew)); exact HO212.out) hb); have n3_ := Aside0.mk (Kd.R_below (by (with_reducible repeat (first | apply Kd.R_alloc | apply Kd.R_drewN | apply Kd.R_drew)); exact HO217.out) hb); have n4_ := Aside0.mk (Kd.R_below (by (with_reducible repeat (first | apply Kd.R_alloc | apply Kd.R_drewN | apply Kd.R_drew)); exact HO221.out) hb); have n5_ := Aside0.mk (below_step (by repeat (first | (with_reducible first | exact HB.out | apply below_alloc | apply pw_below_drewN | apply below_drew1) | exact HB.out)) hb); clear HO201; clear HO204; clear HO212; clear HO217; clear HO221; clear HB; have HO201 := n0_; have HO204 := n1_; have HO212 := n2_; have HO217 := n3_; have HO221 := n4_; have HB := n5_; clear n0_ n1_ n2_ n3_ n4_ n5_; (try clear hb); (try clear hb2); (try clear hk); (try clear hi); obtain ⟨Ao48, co48, eo48⟩ := Kd.R_slice HO204.out; subst eo48; have p223 : 0 ≤ (0 : Int) := (by omega); have q223 : 0 < (t202.length : Int) := of_decide_eq_true (by first | (with_reducible assumption) | assumption); obtain ⟨ad223, e223, hx223_0⟩ := Kd.at_int (Kd.R_reads' HO204.out).2.2 0 p223 q223; cases e223; have qi223 : (0 < t202.length) = True := eq_true (by omega); (try rw [show ((0 : Int)).toNat = 0 from rfl] at hx223_0); (try rw [Addr.add_zero'] at hx223_0); replace p223 := eq_true p223; replace q223 := eq_true q223; have p224 : 0 ≤ (1 : Int) := (by omega); have q224 : 1 < (t202.length : Int) := of_decide_eq_true (by first | (with_reducible assumption) | assumption); obtain ⟨ad224, e224, hx224_0⟩ := Kd.at_int (Kd.R_reads' HO204.out).2.2 1 p224 q224; obtain rfl : ad223 = ad224 := (by injection e224); (try simp only [show (1 : Int).toNat = 1 from rfl, Nat.reduceMul, Nat.reduceEqDiff, Go.Addr.add, ↓reduceIte] at hx224_0); have qi224 : (1 < t202.length) = True := eq_true (by omega); (try rw [show ((1 : Int)).toNat = 1 from rfl] at hx224_0); replace p224 := eq_true p224; replace q224 := eq_true q224; have p225 : 0 ≤ (2 : Int) := (by omega); have q225 : 2 < (t202.length : Int) := of_decide_eq_true (by first | (with_reducible assumption) | assumption); obtain ⟨ad225, e225, hx225_0⟩ := Kd.at_int (Kd.R_reads' HO204.out).2.2 2 p225 q225; obtain rfl : ad223 = ad225 := (by injection e225); (try simp only [show (2 : Int).toNat = 2 from rfl, Nat.reduceMul, Nat.reduceEqDiff, Go.Addr.add, ↓reduceIte] at hx225_0); have qi225 : (2 < t202.length) = True := eq_true (by omega); (try rw [show ((2 : Int)).toNat = 2 from rfl] at hx225_0); replace p225 := eq_true p225; replace q225 := eq_true q225) | (go_at_call 37; (with_reducible refine (accounts_Own.calls k _ _ t199 0 t226 _ ?side1 ?side2 A16.out).mono ?_); (case side1 => repeat (first | exact (Kd.R_reads' HO201.out).2.2 | (with_reducible refine Kd.C_alloc ?_ _) | (with_reducible refine Kd.C_drewN ?_ _) | (with_reducible refine Kd.C_drew ?_))); (case side2 => exact (Kd.R_reads' HO201.out).2.1); rintro e w49 ⟨rfl, hb⟩; have n0_ := Aside0.mk (Kd.R_below (by (with_reducible repeat (first | apply Kd.R_alloc | apply Kd.R_drewN | apply Kd.R_drew)); exact HO201.out) hb); have n1_ := Aside0.mk (Kd.R_below (by (with_reducible repeat (first | apply Kd.R_alloc | apply Kd.R_drewN | apply Kd.R_drew)); exact HO204.out) hb); have n2_ := Aside0.mk (Kd.R_below (by (with_reducible repeat (first | apply Kd.R_alloc | apply Kd.R_drewN | apply Kd.R_drew)); exact HO212.out) hb); have n3_ := Aside0.mk (Kd.R_below (by (with_reducible repeat (first | apply Kd.R_alloc | apply Kd.R_drewN | apply Kd.R_drew)); exact HO217.out) hb); have n4_ := Aside0.mk (Kd.R_below (by (with_reducible repeat (first | apply Kd.R_alloc | apply Kd.R_drewN | apply Kd.R_drew)); exact HO221.out) hb); have n5_ := Aside0.mk (below_step (by repeat (first | (with_reducible first | exact HB.out | apply below_alloc | apply pw_below_drewN | apply below_drew1) | exact HB.out)) hb); clear HO201; clear HO204; clear HO212; clear HO217; clear HO221; clear HB; have HO201 := n0_; have HO204 := n1_; have HO212 := n2_; have HO217 := n3_; have HO221 := n4_; have HB := n5_; clear n0_ n1_ n2_ n3_ n4_ n5_; (try clear hb); (try clear hb2); (try clear hk); (try clear hi)) | (go_at_call 37; (with_reducible refine (accounts_Own.calls k _ _ t199 2 t227 _ ?side1 ?side2 A18.out).mono ?_); (case side1 => repeat (first | exact (Kd.R_reads' HO201.out).2.2 | (with_reducible refine Kd.C_alloc ?_ _) | (with_reducible refine Kd.C_drewN ?_ _) | (with_reducible refine Kd.C_drew ?_))); (case side2 => exact (Kd.R_reads' HO201.out).2.1); rintro e w50 ⟨rfl, hb⟩; have n0_ := Aside0.mk (Kd.R_below (by (with_reducible repeat (first | apply Kd.R_alloc | apply Kd.R_drewN | apply Kd.R_drew)); exact HO201.out) hb); have n1_ := Aside0.mk (Kd.R_below (by (with_reducible repeat (first | apply Kd.R_alloc | apply Kd.R_drewN | apply Kd.R_drew)); exact HO204.out) hb); have n2_ := Aside0.mk (Kd.R_below (by (with_reducible repeat (first | apply Kd.R_alloc | apply Kd.R_drewN | apply Kd.R_drew)); exact HO212.out) hb); have n3_ := Aside0.mk (Kd.R_below (by (with_reducible repeat (first | apply Kd.R_alloc | apply Kd.R_drewN | apply Kd.R_drew)); exact HO217.out) hb); have n4_ := Aside0.mk (Kd.R_below (by (with_reducible repeat (first | apply Kd.R_alloc | apply Kd.R_drewN | apply Kd.R_drew)); exact HO221.out) hb); have n5_ := Aside0.mk (below_step (by repeat (first | (with_reducible first | exact HB.out | apply below_alloc | apply pw_below_drewN | apply below_drew1) | exact HB.out)) hb); clear HO201; clear HO204; clear HO212; clear HO217; clear HO221; clear HB; have HO201 := n0_; have HO204 := n1_; have HO212 := n2_; have HO217 := n3_; have HO221 := n4_; have HB := n5_; clear n0_ n1_ n2_ n3_ n4_ n5_; (try clear hb); (try clear hb2); (try clear hk); (try clear hi); obtain ⟨Ao51, co51, eo51⟩ := Kd.R_slice HO212.out; subst eo51; have p228 : 0 ≤ (0 : Int) := (by omega); have q228 : 0 < (t208.length : Int) := of_decide_eq_true (by first | (with_reducible assumption) | assumption); obtain ⟨ad228, e228, hx228_0, hx228_1, hx228_2, hx228_3, hx228_4⟩ := at_T43 (Kd.R_reads' HO212.out).2.2 0 p228 q228; cases e228; have qi228 : (0 < t208.length) = True := eq_true (by omega); (try rw [show ((0 : Int)).toNat = 0 from rfl] at hx228_0); (try rw [show 0 * 5 = 0 from rfl] at hx228_0); (try rw [Addr.add_zero'] at hx228_0); (try rw [show ((0 : Int)).toNat = 0 from rfl] at hx228_1); (try rw [show 0 * 5 = 0 from rfl] at hx228_1); (try rw [Addr.add_zero'] at hx228_1); (try rw [show ((0 : Int)).toNat = 0 from rfl] at hx228_2); (try rw [show 0 * 5 = 0 from rfl] at hx228_2); (try rw [Addr.add_zero'] at hx228_2); (try rw [show ((0 : Int)).toNat = 0 from rfl] at hx228_3); (try rw [show 0 * 5 = 0 from rfl] at hx228_3); (try rw [Addr.add_zero'] at hx228_3); (try rw [show ((0 : Int)).toNat = 0 from rfl] at hx228_4); (try rw [show 0 * 5 = 0 from rfl] at hx228_4); (try rw [Addr.add_zero'] at hx228_4); replace p228 := eq_true p228; replace q228 := eq_true q228; have p229 : 0 ≤ (1 : Int) := (by omega); have q229 : 1 < (t208.length : Int) := of_decide_eq_true (by first | (with_reducible assumption) | assumption); obtain ⟨ad229, e229, hx229_0, hx229_1, hx229_2, hx229_3, hx229_4⟩ := at_T43 (Kd.R_reads' HO212.out).2.2 1 p229 q229; obtain rfl : ad228 = ad229 := (by injection e229); (try simp only [show (1 : Int).toNat = 1 from rfl, Nat.reduceMul, Nat.reduceEqDiff, Go.Addr.add, ↓reduceIte] at hx229_0); (try simp only [show (1 : Int).toNat = 1 from rfl, Nat.reduceMul, Nat.reduceEqDiff, Go.Addr.add, ↓reduceIte] at hx229_1); (try simp only [show (1 : Int).toNat = 1 from rfl, Nat.reduceMul, Nat.reduceEqDiff, Go.Addr.add, ↓reduceIte] at hx229_2); (try simp only [show (1 : Int).toNat = 1 from rfl, Nat.reduceMul, Nat.reduceEqDiff, Go.Addr.add, ↓reduceIte] at hx229_3); (try simp only [show (1 : Int).toNat = 1 from rfl, Nat.reduceMul, Nat.reduceEqDiff, Go.Addr.add, ↓reduceIte] at hx229_4); have qi229 : (1 < t208.length) = True := eq_true (by omega); (try rw [show ((1 : Int)).toNat = 1 from rfl] at hx229_0); (try rw [show 1 * 5 = 5 from rfl] at hx229_0); (try rw [show ((1 : Int)).toNat = 1 from rfl] at hx229_1); (try rw [show 1 * 5 = 5 from rfl] at hx229_1); (try rw [show ((1 : Int)).toNat = 1 from rfl] at hx229_2); (try rw [show 1 * 5 = 5 from rfl] at hx229_2); (try rw [show ((1 : Int)).toNat = 1 from rfl] at hx229_3); (try rw [show 1 * 5 = 5 from rfl] at hx229_3); (try rw [show ((1 : Int)).toNat = 1 from rfl] at hx229_4); (try rw [show 1 * 5 = 5 from rfl] at hx229_4); replace p229 := eq_true p229; replace q229 := eq_true q229; have p230 : 0 ≤ (2 : Int) := (by omega); have q230 : 2 < (t208.length : Int) := of_decide_eq_true (by first | (with_reducible assumption) | assumption); obtain ⟨ad230, e230, hx230_0, hx230_1, hx230_2, hx230_3, hx230_4⟩ := at_T43 (Kd.R_reads' HO212.out).2.2 2 p230 q230; obtain rfl : ad228 = ad230 := (by injection e230); (try simp only [show (2 : Int).toNat = 2 from rfl, Nat.reduceMul, Nat.reduceEqDiff, Go.Addr.add, ↓reduceIte] at hx230_0); (try simp only [show (2 : Int).toNat = 2 from rfl, Nat.reduceMul, Nat.reduceEqDiff, Go.Addr.add, ↓reduceIte] at hx230_1); (try simp only [show (2 : Int).toNat = 2 from rfl, Nat.reduceMul, Nat.reduceEqDiff, Go.Addr.add, ↓reduceIte] at hx230_2); (try simp only [show (2 : Int).toNat = 2 from rfl, Nat.reduceMul, Nat.reduceEqDiff, Go.Addr.add, ↓reduceIte] at hx230_3); (try simp only [show (2 : Int).toNat = 2 from rfl, Nat.reduceMul, Nat.reduceEqDiff, Go.Addr.add, ↓reduceIte] at hx230_4); have qi230 : (2 < t208.length) = True := eq_true (by omega); (try rw [show ((2 : Int)).toNat = 2 from rfl] at hx230_0); (try rw [show 2 * 5 = 10 from rfl] at hx230_0); (try rw [show ((2 : Int)).toNat = 2 from rfl] at hx230_1); (try rw [show 2 * 5 = 10 from rfl] at hx230_1); (try rw [show ((2 : Int)).toNat = 2 from rfl] at hx230_2); (try rw [show 2 * 5 = 10 from rfl] at hx230_2); (try rw [show ((2 : Int)).toNat = 2 from rfl] at hx230_3); (try rw [show 2 * 5 = 10 from rfl] at hx230_3); (try rw [show ((2 : Int)).toNat = 2 from rfl] at hx230_4); (try rw [show 2 * 5 = 10 from rfl] at hx230_4); replace p230 := eq_true p230; replace q230 := eq_true q230) | (go_at_call 29; (with_reducible refine (accounts_Total.calls k _ _ t199 t231 _ ?side1 ?side2 A35.out).mono ?_); (case side1 => repeat (first | exact (Kd.R_reads' HO201.out).2.2 | (with_reducible refine Kd.C_alloc ?_ _) | (with_reducible refine Kd.C_drewN ?_ _) | (with_reducible refine Kd.C_drew ?_))); (case side2 => exact (Kd.R_reads' HO201.out).2.1); rintro e w52 ⟨rfl, hb⟩; have n0_ := Aside0.mk (Kd.R_below (by (with_reducible repeat (first | apply Kd.R_alloc | apply Kd.R_drewN | apply Kd.R_drew)); exact HO201.out) hb); have n1_ := Aside0.mk (Kd.R_below (by (with_reducible repeat (first | apply Kd.R_alloc | apply Kd.R_drewN | apply Kd.R_drew)); exact HO204.out) hb); have n2_ := Aside0.mk (Kd.R_below (by (with_reducible repeat (first | apply Kd.R_alloc | apply Kd.R_drewN | apply Kd.R_drew)); exact HO212.out) hb); have n3_ := Aside0.mk (Kd.R_below (by (with_reducible repeat (first | apply Kd.R_alloc | apply Kd.R_drewN | apply Kd.R_drew)); exact HO217.out) hb); have n4_ := Aside0.mk (Kd.R_below (by (with_reducible repeat (first | apply Kd.R_alloc | apply Kd.R_drewN | apply Kd.R_drew)); exact HO221.out) hb); have n5_ := Aside0.mk (below_step (by repeat (first | (with_reducible first | exact HB.out | apply below_alloc | apply pw_below_drewN | apply below_drew1) | exact HB.out)) hb); clear HO201; clear HO204; clear HO212; clear HO217; clear HO221; clear HB; have HO201 := n0_; have HO204 := n1_; have HO212 := n2_; have HO217 := n3_; have HO221 := n4_; have HB := n5_; clear n0_ n1_ n2_ n3_ n4_ n5_; (try clear hb); (try clear hb2); (try clear hk); (try clear hi)) | (go_at_call 35; (with_reducible refine (accounts_Inside.calls k _ _ t199 2 1 true _ ?side1 ?side2 A37.out).mono ?_); (case side1 => repeat (first | exact (Kd.R_reads' HO201.out).2.2 | (with_reducible refine Kd.C_alloc ?_ _) | (with_reducible refine Kd.C_drewN ?_ _) | (with_reducible refine Kd.C_drew ?_))); (case side2 => exact (Kd.R_reads' HO201.out).2.1); rintro e w53 ⟨rfl, hb⟩; have n0_ := Aside0.mk (Kd.R_below (by (with_reducible repeat (first | apply Kd.R_alloc | apply Kd.R_drewN | apply Kd.R_drew)); exact HO201.out) hb); have n1_ := Aside0.mk (Kd.R_below (by (with_reducible repeat (first | apply Kd.R_alloc | apply Kd.R_drewN | apply Kd.R_drew)); exact HO204.out) hb); have n2_ := Aside0.mk (Kd.R_below (by (with_reducible repeat (first | apply Kd.R_alloc | apply Kd.R_drewN | apply Kd.R_drew)); exact HO212.out) hb); have n3_ := Aside0.mk (Kd.R_below (by (with_reducible repeat (first | apply Kd.R_alloc | apply Kd.R_drewN | apply Kd.R_drew)); exact HO217.out) hb); have n4_ := Aside0.mk (Kd.R_below (by (with_reducible repeat (first | apply Kd.R_alloc | apply Kd.R_drewN | apply Kd.R_drew)); exact HO221.out) hb); have n5_ := Aside0.mk (below_step (by repeat (first | (with_reducible first | exact HB.out | apply below_alloc | apply pw_below_drewN | apply below_drew1) | exact HB.out)) hb); clear HO201; clear HO204; clear HO212; clear HO217; clear HO221; clear HB; have HO201 := n0_; have HO204 := n1_; have HO212 := n2_; have HO217 := n3_; have HO221 := n4_; have HB := n5_; clear n0_ n1_ n2_ n3_ n4_ n5_; (try clear hb); (try clear hb2); (try clear hk); (try clear hi)) | (go_at_call 35; (with_reducible refine (accounts_Inside.calls k _ _ t199 1 2 t233 _ ?side1 ?side2 A39.out).mono ?_); (case side1 => repeat (first | exact (Kd.R_reads' HO201.out).2.2 | (with_reducible refine Kd.C_alloc ?_ _) | (with_reducible refine Kd.C_drewN ?_ _) | (with_reducible refine Kd.C_drew ?_))); (case side2 => exact (Kd.R_reads' HO201.out).2.1); rintro e w54 ⟨rfl, hb⟩; have n0_ := Aside0.mk (Kd.R_below (by (with_reducible repeat (first | apply Kd.R_alloc | apply Kd.R_drewN | apply Kd.R_drew)); exact HO201.out) hb); have n1_ := Aside0.mk (Kd.R_below (by (with_reducible repeat (first | apply Kd.R_alloc | apply Kd.R_drewN | apply Kd.R_drew)); exact HO204.out) hb); have n2_ := Aside0.mk (Kd.R_below (by (with_reducible repeat (first | apply Kd.R_alloc | apply Kd.R_drewN | apply Kd.R_drew)); exact HO212.out) hb); have n3_ := Aside0.mk (Kd.R_below (by (with_reducible repeat (first | apply Kd.R_alloc | apply Kd.R_drewN | apply Kd.R_drew)); exact HO217.out) hb); have n4_ := Aside0.mk (Kd.R_below (by (with_reducible repeat (first | apply Kd.R_alloc | apply Kd.R_drewN | apply Kd.R_drew)); exact HO221.out) hb); have n5_ := Aside0.mk (below_step (by repeat (first | (with_reducible first | exact HB.out | apply below_alloc | apply pw_below_drewN | apply below_drew1) | exact HB.out)) hb); clear HO201; clear HO204; clear HO212; clear HO217; clear HO221; clear HB; have HO201 := n0_; have HO204 := n1_; have HO212 := n2_; have HO217 := n3_; have HO221 := n4_; have HB := n5_; clear n0_ n1_ n2_ n3_ n4_ n5_; (try clear hb); (try clear hb2); (try clear hk); (try clear hi))); simp only [List.append_eq, List.cons_append, List.nil_append]))
                                                        go_wp2_with (first | ((with_reducible refine gate_callee (f := 47) rfl ?_); refine goesL_ (some 14) rfl rfl Try.func47 (by kernel_rfl) rfl #[] rfl (by (try simp only [List.map_toArray, List.map_cons, List.map_nil]); first | done | rfl | (simp only [List.length_drop, List.length_take]; rfl)) ?_; (with_reducible refine (estoverslaw19_three.calls  t199 _ A1.out).mono ?_); rintro e w40 ⟨v200, rfl, ho0, hb⟩; refine ⟨_, rfl, ?_⟩; have n0_ := Aside0.mk (Kd.R_lower ho0 (below_size (by repeat (first | (with_reducible first | exact HB.out | apply below_alloc | apply pw_below_drewN | apply below_drew1) | exact HB.out)))); have n1_ := Aside0.mk (below_step (by repeat (first | (with_reducible first | exact HB.out | apply below_alloc | apply pw_below_drewN | apply below_drew1) | exact HB.out)) hb); clear HB; have HO201 := n0_; have HB := n1_; clear n0_ n1_; (try clear hb); (try clear hb2); (try clear hk); (try clear hi); (try clear ho0); obtain ⟨Ao41, co41, eo41⟩ := Kd.R_slice HO201.out; subst eo41) | ((with_reducible refine gate_callee (f := 31) rfl ?_); refine goesL_ (some 16) rfl rfl Try.func31 (by kernel_rfl) rfl #[.slice Ao41 t199.length co41, .int .i64 2] rfl (by (try simp only [List.map_toArray, List.map_cons, List.map_nil]); first | done | rfl | (simp only [List.length_drop, List.length_take]; rfl)) ?_; (with_reducible refine (accounts_Path.calls k _ _ t199 2 t202 _ ?side1 ?side2 A2.out).mono ?_); (case side1 => repeat (first | exact (Kd.R_reads' HO201.out).2.2 | (with_reducible refine Kd.C_alloc ?_ _) | (with_reducible refine Kd.C_drewN ?_ _) | (with_reducible refine Kd.C_drew ?_))); (case side2 => exact (Kd.R_reads' HO201.out).2.1); rintro e w42 ⟨v203, rfl, ho0, hb⟩; refine ⟨_, rfl, ?_⟩; have n0_ := Aside0.mk (Kd.R_below (by (with_reducible repeat (first | apply Kd.R_alloc | apply Kd.R_drewN | apply Kd.R_drew)); exact HO201.out) hb); have n1_ := Aside0.mk (Kd.R_lower ho0 (below_size (by repeat (first | (with_reducible first | exact HB.out | apply below_alloc | apply pw_below_drewN | apply below_drew1) | exact HB.out)))); have n2_ := Aside0.mk (below_step (by repeat (first | (with_reducible first | exact HB.out | apply below_alloc | apply pw_below_drewN | apply below_drew1) | exact HB.out)) hb); clear HO201; clear HB; have HO201 := n0_; have HO204 := n1_; have HB := n2_; clear n0_ n1_ n2_; (try clear hb); (try clear hb2); (try clear hk); (try clear hi); (try clear ho0)) | ((with_reducible refine gate_callee (f := 33) rfl ?_); refine goesL_ (some 19) rfl rfl Try.func33 (by kernel_rfl) rfl #[.slice Ao41 t199.length co41, .int .i64 2] rfl (by (try simp only [List.map_toArray, List.map_cons, List.map_nil]); first | done | rfl | (simp only [List.length_drop, List.length_take]; rfl)) ?_; (with_reducible refine (accounts_Margin.calls k _ _ t199 2 t205 t206 t207 _ ?side1 ?side2 A3.out).mono ?_); (case side1 => repeat (first | exact (Kd.R_reads' HO201.out).2.2 | (with_reducible refine Kd.C_alloc ?_ _) | (with_reducible refine Kd.C_drewN ?_ _) | (with_reducible refine Kd.C_drew ?_))); (case side2 => exact (Kd.R_reads' HO201.out).2.1); rintro e w43 ⟨rfl, hb⟩; refine ⟨_, rfl, ?_⟩; have n0_ := Aside0.mk (Kd.R_below (by (with_reducible repeat (first | apply Kd.R_alloc | apply Kd.R_drewN | apply Kd.R_drew)); exact HO201.out) hb); have n1_ := Aside0.mk (Kd.R_below (by (with_reducible repeat (first | apply Kd.R_alloc | apply Kd.R_drewN | apply Kd.R_drew)); exact HO204.out) hb); have n2_ := Aside0.mk (below_step (by repeat (first | (with_reducible first | exact HB.out | apply below_alloc | apply pw_below_drewN | apply below_drew1) | exact HB.out)) hb); clear HO201; clear HO204; clear HB; have HO201 := n0_; have HO204 := n1_; have HB := n2_; clear n0_ n1_ n2_; (try clear hb); (try clear hb2); (try clear hk); (try clear hi)) | ((with_reducible refine gate_callee (f := 39) rfl ?_); refine goesL_ (some 25) rfl rfl Try.func39 (by kernel_rfl) rfl #[.slice Ao41 t199.length co41, .int .i64 2, .int .i64 2] rfl (by (try simp only [List.map_toArray, List.map_cons, List.map_nil]); first | done | rfl | (simp only [List.length_drop, List.length_take]; rfl)) ?_; (with_reducible refine (accounts_Charge.calls k _ _ t199 2 2 t208 t209 t210 _ ?side1 ?side2 A4.out).mono ?_); (case side1 => repeat (first | exact (Kd.R_reads' HO201.out).2.2 | (with_reducible refine Kd.C_alloc ?_ _) | (with_reducible refine Kd.C_drewN ?_ _) | (with_reducible refine Kd.C_drew ?_))); (case side2 => exact (Kd.R_reads' HO201.out).2.1); rintro e w44 ⟨v211, rfl, ho0, hb⟩; refine ⟨_, rfl, ?_⟩; have n0_ := Aside0.mk (Kd.R_elder' (by (with_reducible repeat (first | apply Kd.R_alloc | apply Kd.R_drewN | apply Kd.R_drew)); exact HO201.out) (Kd.R_base ho0) hb); have n1_ := Aside0.mk (Kd.R_below (by (with_reducible repeat (first | apply Kd.R_alloc | apply Kd.R_drewN | apply Kd.R_drew)); exact HO204.out) hb); have n2_ := Aside0.mk (Kd.R_lower (Kd.R_new' ho0 (Kd.R_lt (by (with_reducible repeat (first | apply Kd.R_alloc | apply Kd.R_drewN | apply Kd.R_drew)); exact HO201.out))) (below_size (by repeat (first | (with_reducible first | exact HB.out | apply below_alloc | apply pw_below_drewN | apply below_drew1) | exact HB.out)))); have n3_ := Aside0.mk (below_step (by repeat (first | (with_reducible first | exact HB.out | apply below_alloc | apply pw_below_drewN | apply below_drew1) | exact HB.out)) hb); clear HO201; clear HO204; clear HB; have HO201 := n0_; have HO204 := n1_; have HO212 := n2_; have HB := n3_; clear n0_ n1_ n2_ n3_; (try clear hb); (try clear hb2); (try clear hk); (try clear hi); (try clear ho0)) | ((with_reducible refine gate_callee (f := 39) rfl ?_); refine goesL_ (some 31) rfl rfl Try.func39 (by kernel_rfl) rfl #[.slice Ao41 t199.length co41, .int .i64 2, .int .i64 3] rfl (by (try simp only [List.map_toArray, List.map_cons, List.map_nil]); first | done | rfl | (simp only [List.length_drop, List.length_take]; rfl)) ?_; (with_reducible refine (accounts_Charge.calls k _ _ t199 2 3 t213 t214 t215 _ ?side1 ?side2 A5.out).mono ?_); (case side1 => repeat (first | exact (Kd.R_reads' HO201.out).2.2 | (with_reducible refine Kd.C_alloc ?_ _) | (with_reducible refine Kd.C_drewN ?_ _) | (with_reducible refine Kd.C_drew ?_))); (case side2 => exact (Kd.R_reads' HO201.out).2.1); rintro e w45 ⟨v216, rfl, ho0, hb⟩; refine ⟨_, rfl, ?_⟩; have n0_ := Aside0.mk (Kd.R_elder' (by (with_reducible repeat (first | apply Kd.R_alloc | apply Kd.R_drewN | apply Kd.R_drew)); exact HO201.out) (Kd.R_base ho0) hb); have n1_ := Aside0.mk (Kd.R_below (by (with_reducible repeat (first | apply Kd.R_alloc | apply Kd.R_drewN | apply Kd.R_drew)); exact HO204.out) hb); have n2_ := Aside0.mk (Kd.R_elder' (by (with_reducible repeat (first | apply Kd.R_alloc | apply Kd.R_drewN | apply Kd.R_drew)); exact HO212.out) (Kd.R_base ho0) hb); have n3_ := Aside0.mk (Kd.R_lower (Kd.R_new' (Kd.R_new' ho0 (Kd.R_lt (by (with_reducible repeat (first | apply Kd.R_alloc | apply Kd.R_drewN | apply Kd.R_drew)); exact HO201.out))) (Kd.R_lt (by (with_reducible repeat (first | apply Kd.R_alloc | apply Kd.R_drewN | apply Kd.R_drew)); exact HO212.out))) (below_size (by repeat (first | (with_reducible first | exact HB.out | apply below_alloc | apply pw_below_drewN | apply below_drew1) | exact HB.out)))); have n4_ := Aside0.mk (below_step (by repeat (first | (with_reducible first | exact HB.out | apply below_alloc | apply pw_below_drewN | apply below_drew1) | exact HB.out)) hb); clear HO201; clear HO204; clear HO212; clear HB; have HO201 := n0_; have HO204 := n1_; have HO212 := n2_; have HO217 := n3_; have HB := n4_; clear n0_ n1_ n2_ n3_ n4_; (try clear hb); (try clear hb2); (try clear hk); (try clear hi); (try clear ho0)) | ((with_reducible refine gate_callee (f := 41) rfl ?_); refine goesL_ (some 37) rfl rfl Try.func41 (by kernel_rfl) rfl #[.slice Ao41 t199.length co41, .int .i64 1, .int .i64 2] rfl (by (try simp only [List.map_toArray, List.map_cons, List.map_nil]); first | done | rfl | (simp only [List.length_drop, List.length_take]; rfl)) ?_; (with_reducible refine (accounts_Uncharge.calls k _ _ t199 1 2 t218 t219 _ ?side1 ?side2 A6.out).mono ?_); (case side1 => repeat (first | exact (Kd.R_reads' HO201.out).2.2 | (with_reducible refine Kd.C_alloc ?_ _) | (with_reducible refine Kd.C_drewN ?_ _) | (with_reducible refine Kd.C_drew ?_))); (case side2 => exact (Kd.R_reads' HO201.out).2.1); rintro e w46 ⟨v220, rfl, ho0, hb⟩; refine ⟨_, rfl, ?_⟩; have n0_ := Aside0.mk (Kd.R_elder' (by (with_reducible repeat (first | apply Kd.R_alloc | apply Kd.R_drewN | apply Kd.R_drew)); exact HO201.out) (Kd.R_base ho0) hb); have n1_ := Aside0.mk (Kd.R_below (by (with_reducible repeat (first | apply Kd.R_alloc | apply Kd.R_drewN | apply Kd.R_drew)); exact HO204.out) hb); have n2_ := Aside0.mk (Kd.R_elder' (by (with_reducible repeat (first | apply Kd.R_alloc | apply Kd.R_drewN | apply Kd.R_drew)); exact HO212.out) (Kd.R_base ho0) hb); have n3_ := Aside0.mk (Kd.R_elder' (by (with_reducible repeat (first | apply Kd.R_alloc | apply Kd.R_drewN | apply Kd.R_drew)); exact HO217.out) (Kd.R_base ho0) hb); have n4_ := Aside0.mk (Kd.R_lower (Kd.R_new' (Kd.R_new' (Kd.R_new' ho0 (Kd.R_lt (by (with_reducible repeat (first | apply Kd.R_alloc | apply Kd.R_drewN | apply Kd.R_drew)); exact HO201.out))) (Kd.R_lt (by (with_reducible repeat (first | apply Kd.R_alloc | apply Kd.R_drewN | apply Kd.R_drew)); exact HO212.out))) (Kd.R_lt (by (with_reducible repeat (first | apply Kd.R_alloc | apply Kd.R_drewN | apply Kd.R_drew)); exact HO217.out))) (below_size (by repeat (first | (with_reducible first | exact HB.out | apply below_alloc | apply pw_below_drewN | apply below_drew1) | exact HB.out)))); have n5_ := Aside0.mk (below_step (by repeat (first | (with_reducible first | exact HB.out | apply below_alloc | apply pw_below_drewN | apply below_drew1) | exact HB.out)) hb); clear HO201; clear HO204; clear HO212; clear HO217; clear HB; have HO201 := n0_; have HO204 := n1_; have HO212 := n2_; have HO217 := n3_; have HO221 := n4_; have HB := n5_; clear n0_ n1_ n2_ n3_ n4_ n5_; (try clear hb); (try clear hb2); (try clear hk); (try clear hi); (try clear ho0)) | ((with_reducible refine gate_callee (f := 28) rfl ?_); refine goesL_ (some 41) rfl rfl Try.func28 (by kernel_rfl) rfl #[.slice Ao41 t199.length co41] rfl (by (try simp only [List.map_toArray, List.map_cons, List.map_nil]); first | done | rfl | (simp only [List.length_drop, List.length_take]; rfl)) ?_; (with_reducible refine (accounts_Check.calls k _ _ t199 t222 _ ?side1 ?side2 A7.out).mono ?_); (case side1 => repeat (first | exact (Kd.R_reads' HO201.out).2.2 | (with_reducible refine Kd.C_alloc ?_ _) | (with_reducible refine Kd.C_drewN ?_ _) | (with_reducible refine Kd.C_drew ?_))); (case side2 => exact (Kd.R_reads' HO201.out).2.1); rintro e w47 ⟨rfl, hb⟩; refine ⟨_, rfl, ?_⟩; have n0_ := Aside0.mk (Kd.R_below (by (with_reducible repeat (first | apply Kd.R_alloc | apply Kd.R_drewN | apply Kd.R_drew)); exact HO201.out) hb); have n1_ := Aside0.mk (Kd.R_below (by (with_reducible repeat (first | apply Kd.R_alloc | apply Kd.R_drewN | apply Kd.R_drew)); exact HO204.out) hb); have n2_ := Aside0.mk (Kd.R_below (by (with_reducible repeat (first | apply Kd.R_alloc | apply Kd.R_drewN | apply Kd.R_drew)); exact HO212.out) hb); have n3_ := Aside0.mk (Kd.R_below (by (with_reducible repeat (first | apply Kd.R_alloc | apply Kd.R_drewN | apply Kd.R_drew)); exact HO217.out) hb); have n4_ := Aside0.mk (Kd.R_below (by (with_reducible repeat (first | apply Kd.R_alloc | apply Kd.R_drewN | apply Kd.R_drew)); exact HO221.out) hb); have n5_ := Aside0.mk (below_step (by repeat (first | (with_reducible first | exact HB.out | apply below_alloc | apply pw_below_drewN | apply below_drew1) | exact HB.out)) hb); clear HO201; clear HO204; clear HO212; clear HO217; clear HO221; clear HB; have HO201 := n0_; have HO204 := n1_; have HO212 := n2_; have HO217 := n3_; have HO221 := n4_; have HB := n5_; clear n0_ n1_ n2_ n3_ n4_ n5_; (try clear hb); (try clear hb2); (try clear hk); (try clear hi); obtain ⟨Ao48, co48, eo48⟩ := Kd.R_slice HO204.out; subst eo48; have p223 : 0 ≤ (0 : Int) := (by omega); have q223 : 0 < (t202.length : Int) := of_decide_eq_true (by first | (with_reducible assumption) | assumption); obtain ⟨ad223, e223, hx223_0⟩ := Kd.at_int (Kd.R_reads' HO204.out).2.2 0 p223 q223; cases e223; have qi223 : (0 < t202.length) = True := eq_true (by omega); (try rw [show ((0 : Int)).toNat = 0 from rfl] at hx223_0); (try rw [Addr.add_zero'] at hx223_0); replace p223 := eq_true p223; replace q223 := eq_true q223; have p224 : 0 ≤ (1 : Int) := (by omega); have q224 : 1 < (t202.length : Int) := of_decide_eq_true (by first | (with_reducible assumption) | assumption); obtain ⟨ad224, e224, hx224_0⟩ := Kd.at_int (Kd.R_reads' HO204.out).2.2 1 p224 q224; obtain rfl : ad223 = ad224 := (by injection e224); (try simp only [show (1 : Int).toNat = 1 from rfl, Nat.reduceMul, Nat.reduceEqDiff, Go.Addr.add, ↓reduceIte] at hx224_0); have qi224 : (1 < t202.length) = True := eq_true (by omega); (try rw [show ((1 : Int)).toNat = 1 from rfl] at hx224_0); replace p224 := eq_true p224; replace q224 := eq_true q224; have p225 : 0 ≤ (2 : Int) := (by omega); have q225 : 2 < (t202.length : Int) := of_decide_eq_true (by first | (with_reducible assumption) | assumption); obtain ⟨ad225, e225, hx225_0⟩ := Kd.at_int (Kd.R_reads' HO204.out).2.2 2 p225 q225; obtain rfl : ad223 = ad225 := (by injection e225); (try simp only [show (2 : Int).toNat = 2 from rfl, Nat.reduceMul, Nat.reduceEqDiff, Go.Addr.add, ↓reduceIte] at hx225_0); have qi225 : (2 < t202.length) = True := eq_true (by omega); (try rw [show ((2 : Int)).toNat = 2 from rfl] at hx225_0); replace p225 := eq_true p225; replace q225 := eq_true q225) | (go_at_call 37; (with_reducible refine (accounts_Own.calls k _ _ t199 0 t226 _ ?side1 ?side2 A16.out).mono ?_); (case side1 => repeat (first | exact (Kd.R_reads' HO201.out).2.2 | (with_reducible refine Kd.C_alloc ?_ _) | (with_reducible refine Kd.C_drewN ?_ _) | (with_reducible refine Kd.C_drew ?_))); (case side2 => exact (Kd.R_reads' HO201.out).2.1); rintro e w49 ⟨rfl, hb⟩; have n0_ := Aside0.mk (Kd.R_below (by (with_reducible repeat (first | apply Kd.R_alloc | apply Kd.R_drewN | apply Kd.R_drew)); exact HO201.out) hb); have n1_ := Aside0.mk (Kd.R_below (by (with_reducible repeat (first | apply Kd.R_alloc | apply Kd.R_drewN | apply Kd.R_drew)); exact HO204.out) hb); have n2_ := Aside0.mk (Kd.R_below (by (with_reducible repeat (first | apply Kd.R_alloc | apply Kd.R_drewN | apply Kd.R_drew)); exact HO212.out) hb); have n3_ := Aside0.mk (Kd.R_below (by (with_reducible repeat (first | apply Kd.R_alloc | apply Kd.R_drewN | apply Kd.R_drew)); exact HO217.out) hb); have n4_ := Aside0.mk (Kd.R_below (by (with_reducible repeat (first | apply Kd.R_alloc | apply Kd.R_drewN | apply Kd.R_drew)); exact HO221.out) hb); have n5_ := Aside0.mk (below_step (by repeat (first | (with_reducible first | exact HB.out | apply below_alloc | apply pw_below_drewN | apply below_drew1) | exact HB.out)) hb); clear HO201; clear HO204; clear HO212; clear HO217; clear HO221; clear HB; have HO201 := n0_; have HO204 := n1_; have HO212 := n2_; have HO217 := n3_; have HO221 := n4_; have HB := n5_; clear n0_ n1_ n2_ n3_ n4_ n5_; (try clear hb); (try clear hb2); (try clear hk); (try clear hi)) | (go_at_call 37; (with_reducible refine (accounts_Own.calls k _ _ t199 2 t227 _ ?side1 ?side2 A18.out).mono ?_); (case side1 => repeat (first | exact (Kd.R_reads' HO201.out).2.2 | (with_reducible refine Kd.C_alloc ?_ _) | (with_reducible refine Kd.C_drewN ?_ _) | (with_reducible refine Kd.C_drew ?_))); (case side2 => exact (Kd.R_reads' HO201.out).2.1); rintro e w50 ⟨rfl, hb⟩; have n0_ := Aside0.mk (Kd.R_below (by (with_reducible repeat (first | apply Kd.R_alloc | apply Kd.R_drewN | apply Kd.R_drew)); exact HO201.out) hb); have n1_ := Aside0.mk (Kd.R_below (by (with_reducible repeat (first | apply Kd.R_alloc | apply Kd.R_drewN | apply Kd.R_drew)); exact HO204.out) hb); have n2_ := Aside0.mk (Kd.R_below (by (with_reducible repeat (first | apply Kd.R_alloc | apply Kd.R_drewN | apply Kd.R_drew)); exact HO212.out) hb); have n3_ := Aside0.mk (Kd.R_below (by (with_reducible repeat (first | apply Kd.R_alloc | apply Kd.R_drewN | apply Kd.R_drew)); exact HO217.out) hb); have n4_ := Aside0.mk (Kd.R_below (by (with_reducible repeat (first | apply Kd.R_alloc | apply Kd.R_drewN | apply Kd.R_drew)); exact HO221.out) hb); have n5_ := Aside0.mk (below_step (by repeat (first | (with_reducible first | exact HB.out | apply below_alloc | apply pw_below_drewN | apply below_drew1) | exact HB.out)) hb); clear HO201; clear HO204; clear HO212; clear HO217; clear HO221; clear HB; have HO201 := n0_; have HO204 := n1_; have HO212 := n2_; have HO217 := n3_; have HO221 := n4_; have HB := n5_; clear n0_ n1_ n2_ n3_ n4_ n5_; (try clear hb); (try clear hb2); (try clear hk); (try clear hi); obtain ⟨Ao51, co51, eo51⟩ := Kd.R_slice HO212.out; subst eo51; have p228 : 0 ≤ (0 : Int) := (by omega); have q228 : 0 < (t208.length : Int) := of_decide_eq_true (by first | (with_reducible assumption) | assumption); obtain ⟨ad228, e228, hx228_0, hx228_1, hx228_2, hx228_3, hx228_4⟩ := at_T43 (Kd.R_reads' HO212.out).2.2 0 p228 q228; cases e228; have qi228 : (0 < t208.length) = True := eq_true (by omega); (try rw [show ((0 : Int)).toNat = 0 from rfl] at hx228_0); (try rw [show 0 * 5 = 0 from rfl] at hx228_0); (try rw [Addr.add_zero'] at hx228_0); (try rw [show ((0 : Int)).toNat = 0 from rfl] at hx228_1); (try rw [show 0 * 5 = 0 from rfl] at hx228_1); (try rw [Addr.add_zero'] at hx228_1); (try rw [show ((0 : Int)).toNat = 0 from rfl] at hx228_2); (try rw [show 0 * 5 = 0 from rfl] at hx228_2); (try rw [Addr.add_zero'] at hx228_2); (try rw [show ((0 : Int)).toNat = 0 from rfl] at hx228_3); (try rw [show 0 * 5 = 0 from rfl] at hx228_3); (try rw [Addr.add_zero'] at hx228_3); (try rw [show ((0 : Int)).toNat = 0 from rfl] at hx228_4); (try rw [show 0 * 5 = 0 from rfl] at hx228_4); (try rw [Addr.add_zero'] at hx228_4); replace p228 := eq_true p228; replace q228 := eq_true q228; have p229 : 0 ≤ (1 : Int) := (by omega); have q229 : 1 < (t208.length : Int) := of_decide_eq_true (by first | (with_reducible assumption) | assumption); obtain ⟨ad229, e229, hx229_0, hx229_1, hx229_2, hx229_3, hx229_4⟩ := at_T43 (Kd.R_reads' HO212.out).2.2 1 p229 q229; obtain rfl : ad228 = ad229 := (by injection e229); (try simp only [show (1 : Int).toNat = 1 from rfl, Nat.reduceMul, Nat.reduceEqDiff, Go.Addr.add, ↓reduceIte] at hx229_0); (try simp only [show (1 : Int).toNat = 1 from rfl, Nat.reduceMul, Nat.reduceEqDiff, Go.Addr.add, ↓reduceIte] at hx229_1); (try simp only [show (1 : Int).toNat = 1 from rfl, Nat.reduceMul, Nat.reduceEqDiff, Go.Addr.add, ↓reduceIte] at hx229_2); (try simp only [show (1 : Int).toNat = 1 from rfl, Nat.reduceMul, Nat.reduceEqDiff, Go.Addr.add, ↓reduceIte] at hx229_3); (try simp only [show (1 : Int).toNat = 1 from rfl, Nat.reduceMul, Nat.reduceEqDiff, Go.Addr.add, ↓reduceIte] at hx229_4); have qi229 : (1 < t208.length) = True := eq_true (by omega); (try rw [show ((1 : Int)).toNat = 1 from rfl] at hx229_0); (try rw [show 1 * 5 = 5 from rfl] at hx229_0); (try rw [show ((1 : Int)).toNat = 1 from rfl] at hx229_1); (try rw [show 1 * 5 = 5 from rfl] at hx229_1); (try rw [show ((1 : Int)).toNat = 1 from rfl] at hx229_2); (try rw [show 1 * 5 = 5 from rfl] at hx229_2); (try rw [show ((1 : Int)).toNat = 1 from rfl] at hx229_3); (try rw [show 1 * 5 = 5 from rfl] at hx229_3); (try rw [show ((1 : Int)).toNat = 1 from rfl] at hx229_4); (try rw [show 1 * 5 = 5 from rfl] at hx229_4); replace p229 := eq_true p229; replace q229 := eq_true q229; have p230 : 0 ≤ (2 : Int) := (by omega); have q230 : 2 < (t208.length : Int) := of_decide_eq_true (by first | (with_reducible assumption) | assumption); obtain ⟨ad230, e230, hx230_0, hx230_1, hx230_2, hx230_3, hx230_4⟩ := at_T43 (Kd.R_reads' HO212.out).2.2 2 p230 q230; obtain rfl : ad228 = ad230 := (by injection e230); (try simp only [show (2 : Int).toNat = 2 from rfl, Nat.reduceMul, Nat.reduceEqDiff, Go.Addr.add, ↓reduceIte] at hx230_0); (try simp only [show (2 : Int).toNat = 2 from rfl, Nat.reduceMul, Nat.reduceEqDiff, Go.Addr.add, ↓reduceIte] at hx230_1); (try simp only [show (2 : Int).toNat = 2 from rfl, Nat.reduceMul, Nat.reduceEqDiff, Go.Addr.add, ↓reduceIte] at hx230_2); (try simp only [show (2 : Int).toNat = 2 from rfl, Nat.reduceMul, Nat.reduceEqDiff, Go.Addr.add, ↓reduceIte] at hx230_3); (try simp only [show (2 : Int).toNat = 2 from rfl, Nat.reduceMul, Nat.reduceEqDiff, Go.Addr.add, ↓reduceIte] at hx230_4); have qi230 : (2 < t208.length) = True := eq_true (by omega); (try rw [show ((2 : Int)).toNat = 2 from rfl] at hx230_0); (try rw [show 2 * 5 = 10 from rfl] at hx230_0); (try rw [show ((2 : Int)).toNat = 2 from rfl] at hx230_1); (try rw [show 2 * 5 = 10 from rfl] at hx230_1); (try rw [show ((2 : Int)).toNat = 2 from rfl] at hx230_2); (try rw [show 2 * 5 = 10 from rfl] at hx230_2); (try rw [show ((2 : Int)).toNat = 2 from rfl] at hx230_3); (try rw [show 2 * 5 = 10 from rfl] at hx230_3); (try rw [show ((2 : Int)).toNat = 2 from rfl] at hx230_4); (try rw [show 2 * 5 = 10 from rfl] at hx230_4); replace p230 := eq_true p230; replace q230 := eq_true q230) | (go_at_call 29; (with_reducible refine (accounts_Total.calls k _ _ t199 t231 _ ?side1 ?side2 A35.out).mono ?_); (case side1 => repeat (first | exact (Kd.R_reads' HO201.out).2.2 | (with_reducible refine Kd.C_alloc ?_ _) | (with_reducible refine Kd.C_drewN ?_ _) | (with_reducible refine Kd.C_drew ?_))); (case side2 => exact (Kd.R_reads' HO201.out).2.1); rintro e w52 ⟨rfl, hb⟩; have n0_ := Aside0.mk (Kd.R_below (by (with_reducible repeat (first | apply Kd.R_alloc | apply Kd.R_drewN | apply Kd.R_drew)); exact HO201.out) hb); have n1_ := Aside0.mk (Kd.R_below (by (with_reducible repeat (first | apply Kd.R_alloc | apply Kd.R_drewN | apply Kd.R_drew)); exact HO204.out) hb); have n2_ := Aside0.mk (Kd.R_below (by (with_reducible repeat (first | apply Kd.R_alloc | apply Kd.R_drewN | apply Kd.R_drew)); exact HO212.out) hb); have n3_ := Aside0.mk (Kd.R_below (by (with_reducible repeat (first | apply Kd.R_alloc | apply Kd.R_drewN | apply Kd.R_drew)); exact HO217.out) hb); have n4_ := Aside0.mk (Kd.R_below (by (with_reducible repeat (first | apply Kd.R_alloc | apply Kd.R_drewN | apply Kd.R_drew)); exact HO221.out) hb); have n5_ := Aside0.mk (below_step (by repeat (first | (with_reducible first | exact HB.out | apply below_alloc | apply pw_below_drewN | apply below_drew1) | exact HB.out)) hb); clear HO201; clear HO204; clear HO212; clear HO217; clear HO221; clear HB; have HO201 := n0_; have HO204 := n1_; have HO212 := n2_; have HO217 := n3_; have HO221 := n4_; have HB := n5_; clear n0_ n1_ n2_ n3_ n4_ n5_; (try clear hb); (try clear hb2); (try clear hk); (try clear hi)) | (go_at_call 35; (with_reducible refine (accounts_Inside.calls k _ _ t199 2 1 true _ ?side1 ?side2 A37.out).mono ?_); (case side1 => repeat (first | exact (Kd.R_reads' HO201.out).2.2 | (with_reducible refine Kd.C_alloc ?_ _) | (with_reducible refine Kd.C_drewN ?_ _) | (with_reducible refine Kd.C_drew ?_))); (case side2 => exact (Kd.R_reads' HO201.out).2.1); rintro e w53 ⟨rfl, hb⟩; have n0_ := Aside0.mk (Kd.R_below (by (with_reducible repeat (first | apply Kd.R_alloc | apply Kd.R_drewN | apply Kd.R_drew)); exact HO201.out) hb); have n1_ := Aside0.mk (Kd.R_below (by (with_reducible repeat (first | apply Kd.R_alloc | apply Kd.R_drewN | apply Kd.R_drew)); exact HO204.out) hb); have n2_ := Aside0.mk (Kd.R_below (by (with_reducible repeat (first | apply Kd.R_alloc | apply Kd.R_drewN | apply Kd.R_drew)); exact HO212.out) hb); have n3_ := Aside0.mk (Kd.R_below (by (with_reducible repeat (first | apply Kd.R_alloc | apply Kd.R_drewN | apply Kd.R_drew)); exact HO217.out) hb); have n4_ := Aside0.mk (Kd.R_below (by (with_reducible repeat (first | apply Kd.R_alloc | apply Kd.R_drewN | apply Kd.R_drew)); exact HO221.out) hb); have n5_ := Aside0.mk (below_step (by repeat (first | (with_reducible first | exact HB.out | apply below_alloc | apply pw_below_drewN | apply below_drew1) | exact HB.out)) hb); clear HO201; clear HO204; clear HO212; clear HO217; clear HO221; clear HB; have HO201 := n0_; have HO204 := n1_; have HO212 := n2_; have HO217 := n3_; have HO221 := n4_; have HB := n5_; clear n0_ n1_ n2_ n3_ n4_ n5_; (try clear hb); (try clear hb2); (try clear hk); (try clear hi)) | (go_at_call 35; (with_reducible refine (accounts_Inside.calls k _ _ t199 1 2 t233 _ ?side1 ?side2 A39.out).mono ?_); (case side1 => repeat (first | exact (Kd.R_reads' HO201.out).2.2 | (with_reducible refine Kd.C_alloc ?_ _) | (with_reducible refine Kd.C_drewN ?_ _) | (with_reducible refine Kd.C_drew ?_))); (case side2 => exact (Kd.R_reads' HO201.out).2.1); rintro e w54 ⟨rfl, hb⟩; have n0_ := Aside0.mk (Kd.R_below (by (with_reducible repeat (first | apply Kd.R_alloc | apply Kd.R_drewN | apply Kd.R_drew)); exact HO201.out) hb); have n1_ := Aside0.mk (Kd.R_below (by (with_reducible repeat (first | apply Kd.R_alloc | apply Kd.R_drewN | apply Kd.R_drew)); exact HO204.out) hb); have n2_ := Aside0.mk (Kd.R_below (by (with_reducible repeat (first | apply Kd.R_alloc | apply Kd.R_drewN | apply Kd.R_drew)); exact HO212.out) hb); have n3_ := Aside0.mk (Kd.R_below (by (with_reducible repeat (first | apply Kd.R_alloc | apply Kd.R_drewN | apply Kd.R_drew)); exact HO217.out) hb); have n4_ := Aside0.mk (Kd.R_below (by (with_reducible repeat (first | apply Kd.R_alloc | apply Kd.R_drewN | apply Kd.R_drew)); exact HO221.out) hb); have n5_ := Aside0.mk (below_step (by repeat (first | (with_reducible first | exact HB.out | apply below_alloc | apply pw_below_drewN | apply below_drew1) | exact HB.out)) hb); clear HO201; clear HO204; clear HO212; clear HO217; clear HO221; clear HB; have HO201 := n0_; have HO204 := n1_; have HO212 := n2_; have HO217 := n3_; have HO221 := n4_; have HB := n5_; clear n0_ n1_ n2_ n3_ n4_ n5_; (try clear hb); (try clear hb2); (try clear hk); (try clear hi)))
                                                        go_ret
                                                        exact ⟨by first | rfl | (simp [errW_none, errW_some] <;> rfl) | (simp [*, errW_none, errW_some] <;> rfl), by repeat (first | (with_reducible first | exact HB.out | apply below_alloc | apply pw_below_drewN | apply below_drew1) | exact HB.out)⟩
                                                      · replace c38 := Bool.eq_false_iff.mpr c38
                                                        subst c38
                                                        have H1 : (none) = some r := by rw [if_neg (show ¬ (false = true) by decide)] at H; exact H
                                                        clear H
                                                        have H := H1
                                                        clear H1
                                                        exact absurd H (by simp)
                                                    · rw [if_neg c36] at H
                                                      exact absurd H (by simp)
                                                  · rw [if_neg c34] at H
                                                    exact absurd H (by simp)
                                                · rw [if_neg c33] at H
                                                  exact absurd H (by simp)
                                              · rw [if_neg c32] at H
                                                exact absurd H (by simp)
                                            · rw [if_neg c31] at H
                                              exact absurd H (by simp)
                                          · rw [if_neg c30] at H
                                            exact absurd H (by simp)
                                        · rw [if_neg c29] at H
                                          exact absurd H (by simp)
                                      · rw [if_neg c28] at H
                                        exact absurd H (by simp)
                                    · rw [if_neg c27] at H
                                      exact absurd H (by simp)
                                  · rw [if_neg c26] at H
                                    exact absurd H (by simp)
                                · rw [if_neg c25] at H
                                  exact absurd H (by simp)
                              · rw [if_neg c24] at H
                                exact absurd H (by simp)
                            · rw [if_neg c23] at H
                              exact absurd H (by simp)
                          · rw [if_neg c22] at H
                            exact absurd H (by simp)
                        · rw [if_neg c21] at H
                          exact absurd H (by simp)
                      · rw [if_neg c20] at H
                        exact absurd H (by simp)
                    · rw [if_neg c19] at H
                      exact absurd H (by simp)
                  · rw [if_neg c17] at H
                    exact absurd H (by simp)
                · rw [if_neg c15] at H
                  exact absurd H (by simp)
              · rw [if_neg c14] at H
                exact absurd H (by simp)
            · rw [if_neg c13] at H
              exact absurd H (by simp)
          · rw [if_neg c12] at H
            exact absurd H (by simp)
        · rw [if_neg c11] at H
          exact absurd H (by simp)
      · rw [if_neg c10] at H
        exact absurd H (by simp)
    · rw [if_neg c9] at H
      exact absurd H (by simp)
  · rw [if_neg c8] at H
    exact absurd H (by simp)

/-! ### estoverslaw19_Few: function 27 -/
def estoverslaw19_Few.f (l0 : List (S43)) : Option (Bool) := some (decide ((l0.length : Int) ≤ 20))
set_option maxHeartbeats 8000000 in
set_option maxRecDepth 100000 in
theorem estoverslaw19_Few.calls (A0 : Option Addr) (c0 : Nat) (l0 : List (S43)) (r : Bool) (w : World) (hr0 : Kd.C k43 w A0 l0.length l0) (hc0 : l0.length ≤ c0) (h : estoverslaw19_Few.f l0 = some r) :
    Calls Try.prog 27 #[.slice A0 l0.length c0] w fun e w' => e = .returned (.bool r) ∧ Drawn0 w w' := by
  have HR0 := Aside0.mk hr0
  have HC0 := Aside0.mk hc0
  clear hr0 hc0
  have H : (some (decide ((l0.length : Int) ≤ 20))) = some r := h
  clear h
  obtain rfl := Option.some.inj H
  go_enter Try.func27, Try.ntmps27
  go_wp2
  go_ret
  exact ⟨by first | rfl | (simp; done) | (simp [*]; done), by repeat (first | exact Drawn0.refl _ | apply Drawn0.step)⟩

/-! ### estoversref19_Same: function 43 -/
def estoversref19_Same.l0 : Nat → List (S43) → List (S43) → Int → Option (Bool)
  | 0, _, _, _ => none
  | k + 1, x0, x1, x5 => if x5 < (x0.length : Int) then (if 0 ≤ x5 then (if x5 < (x1.length : Int) then (if (!(((rd_T43 x0 x5).f0) == ((rd_T43 x1 x5).f0)) || (!(((rd_T43 x0 x5).f1) == ((rd_T43 x1 x5).f1)) || (!(((rd_T43 x0 x5).f2) == ((rd_T43 x1 x5).f2)) || (!(((rd_T43 x0 x5).f3) == ((rd_T43 x1 x5).f3)) || (!(((rd_T43 x0 x5).f4) == ((rd_T43 x1 x5).f4))))))) = true then (some false) else (estoversref19_Same.l0 k x0 x1 (wrap64 (x5 + 1)))) else (none)) else (none)) else (some true)
def estoversref19_Same.f (k : Nat) (l0 : List (S43)) (l1 : List (S43)) : Option (Bool) := if (l0.length : Int) = (l1.length : Int) then (estoversref19_Same.l0 k l0 l1 0) else (some false)
theorem estoversref19_Same.mono_l : ∀ k, (∀ y0 y1 y2, LeO (estoversref19_Same.l0 k y0 y1 y2) (estoversref19_Same.l0 (k + 1) y0 y1 y2))
  | 0 => fun _ _ _ r h => by simp [estoversref19_Same.l0] at h
  | k + 1 => by
    have ih0 := estoversref19_Same.mono_l k
    · intro y0 y1 y2
      unfold estoversref19_Same.l0
      repeat' first
      | (with_reducible exact ih0 _ _ _)
      | (with_reducible exact LeO.refl _)
      | (with_reducible exact LeO.none _)
      | (with_reducible refine LeO.ite ?_ ?_)
      | (with_reducible refine LeO.bind ?_ (fun _ => ?_))
      | exact ih0 _ _ _
      | exact LeO.none _
      | refine LeO.ite ?_ ?_
      | refine LeO.bind ?_ (fun _ => ?_)
theorem estoversref19_Same.mono : ∀ a0 a1 k, LeO (estoversref19_Same.f k a0 a1) (estoversref19_Same.f (k + 1) a0 a1) := by
  intro a0 a1 k
  have ih0 := estoversref19_Same.mono_l k
  unfold estoversref19_Same.f
  repeat' first
      | (with_reducible exact ih0 _ _ _)
      | (with_reducible exact LeO.refl _)
      | (with_reducible exact LeO.none _)
      | (with_reducible refine LeO.ite ?_ ?_)
      | (with_reducible refine LeO.bind ?_ (fun _ => ?_))
      | exact ih0 _ _ _
      | exact LeO.none _
      | refine LeO.ite ?_ ?_
      | refine LeO.bind ?_ (fun _ => ?_)
set_option maxHeartbeats 8000000 in
set_option maxRecDepth 100000 in
theorem estoversref19_Same.calls (k : Nat) (A0 : Option Addr) (c0 : Nat) (l0 : List (S43)) (A1 : Option Addr) (c1 : Nat) (l1 : List (S43)) (r : Bool) (w : World) (hr0 : Kd.C k43 w A0 l0.length l0) (hc0 : l0.length ≤ c0) (hr1 : Kd.C k43 w A1 l1.length l1) (hc1 : l1.length ≤ c1) (h : estoversref19_Same.f k l0 l1 = some r) :
    Calls Try.prog 43 #[.slice A0 l0.length c0, .slice A1 l1.length c1] w fun e w' => e = .returned (.bool r) ∧ Drawn0 w w' := by
  have hu43 := Try.underlying43
  have HR0 := Aside0.mk hr0
  have HC0 := Aside0.mk hc0
  clear hr0 hc0
  have HR1 := Aside0.mk hr1
  have HC1 := Aside0.mk hc1
  clear hr1 hc1
  have H : (if (l0.length : Int) = (l1.length : Int) then (estoversref19_Same.l0 k l0 l1 0) else (some false)) = some r := h
  clear h
  by_cases c3 : (l0.length : Int) = (l1.length : Int)
  · rw [if_pos c3] at H
    have c3b0 : ((l0.length : Int) == (l1.length : Int)) = true := beq_iff_eq.mpr c3
    have c3b1 : ((l0.length : Int) != (l1.length : Int)) = false := bne_eq_false_iff_eq.mpr c3
    have c3b2 : (l0.length == l1.length) = true := by first | simpa using c3 | (simp at c3 ⊢; omega)
    clear c3
    have H' := Aside0.mk H
    clear H
    go_enter Try.func43, Try.ntmps43
    go_wp2
    repeat (go_quiet (fail); try go_wp2)
    go_loopg [5] k (fun kq v5 w' => ∃ (x5_1 : Int), v5 = .int .i64 x5_1 ∧ Aside0 (estoversref19_Same.l0 kq l0 l1 x5_1 = some r) ∧ Aside0 (kq ≤ k) ∧ Drawn0 w w')
    case atStart => exact ⟨(0), (by first | rfl | (simp; done) | (simp [*]; done)), H', ⟨Nat.le_refl _⟩, by repeat (first | exact Drawn0.refl _ | apply Drawn0.step)⟩
    case round =>
      clear H'
      try clear c1
      try clear p2
      try clear c3
      try clear c3b0
      try clear c3b1
      try clear c3b2
      obtain ⟨x5_1, rfl, HA, HK1, ⟨m1, rfl⟩⟩ := hrel
      cases gk with
      | zero => exact absurd HA.out (by simp [estoversref19_Same.l0])
      | succ k1 =>
        have H := HA.out
        clear HA
        simp only [estoversref19_Same.l0] at H
        by_cases c4 : x5_1 < (l0.length : Int)
        · rw [if_pos c4] at H
          have c4b0 : decide (x5_1 < (l0.length : Int)) = true := decide_eq_true c4
          clear c4
          by_cases c5 : 0 ≤ x5_1
          · rw [if_pos c5] at H
            have c5b0 : decide (0 ≤ x5_1) = true := decide_eq_true c5
            clear c5
            by_cases c6 : x5_1 < (l1.length : Int)
            · rw [if_pos c6] at H
              have c6b0 : decide (x5_1 < (l1.length : Int)) = true := decide_eq_true c6
              clear c6
              by_cases c7 : (!(((rd_T43 l0 x5_1).f0) == ((rd_T43 l1 x5_1).f0)) || (!(((rd_T43 l0 x5_1).f1) == ((rd_T43 l1 x5_1).f1)) || (!(((rd_T43 l0 x5_1).f2) == ((rd_T43 l1 x5_1).f2)) || (!(((rd_T43 l0 x5_1).f3) == ((rd_T43 l1 x5_1).f3)) || (!(((rd_T43 l0 x5_1).f4) == ((rd_T43 l1 x5_1).f4))))))) = true
              · rw [if_pos c7] at H
                have c7b0 : (!(((rd_T43 l0 x5_1).f0) == ((rd_T43 l1 x5_1).f0)) || (!(((rd_T43 l0 x5_1).f1) == ((rd_T43 l1 x5_1).f1)) || (!(((rd_T43 l0 x5_1).f2) == ((rd_T43 l1 x5_1).f2)) || (!(((rd_T43 l0 x5_1).f3) == ((rd_T43 l1 x5_1).f3)) || (!(((rd_T43 l0 x5_1).f4) == ((rd_T43 l1 x5_1).f4))))))) = true := c7
                clear c7
                obtain rfl := Option.some.inj H
                have p234 : 0 ≤ (x5_1 : Int) := of_decide_eq_true (by first | (with_reducible assumption) | assumption)
                have q234 : x5_1 < (l0.length : Int) := of_decide_eq_true (by first | (with_reducible assumption) | assumption)
                obtain ⟨ad234, e234, hx234_0, hx234_1, hx234_2, hx234_3, hx234_4⟩ := at_T43 HR0.out x5_1 p234 q234
                cases e234
                replace p234 := eq_true p234
                replace q234 := eq_true q234
                have p235 : 0 ≤ (x5_1 : Int) := of_decide_eq_true (by first | (with_reducible assumption) | assumption)
                have q235 : x5_1 < (l1.length : Int) := of_decide_eq_true (by first | (with_reducible assumption) | assumption)
                obtain ⟨ad235, e235, hx235_0, hx235_1, hx235_2, hx235_3, hx235_4⟩ := at_T43 HR1.out x5_1 p235 q235
                cases e235
                replace p235 := eq_true p235
                replace q235 := eq_true q235
                go_wp2
                repeat (go_quiet (fail); try go_wp2)
                go_ret
                exact ⟨by first | rfl | (simp; done) | (simp [*]; done), by repeat (first | exact Drawn0.refl _ | apply Drawn0.step)⟩
              · rw [if_neg c7] at H
                have c7b0 : (!(((rd_T43 l0 x5_1).f0) == ((rd_T43 l1 x5_1).f0)) || (!(((rd_T43 l0 x5_1).f1) == ((rd_T43 l1 x5_1).f1)) || (!(((rd_T43 l0 x5_1).f2) == ((rd_T43 l1 x5_1).f2)) || (!(((rd_T43 l0 x5_1).f3) == ((rd_T43 l1 x5_1).f3)) || (!(((rd_T43 l0 x5_1).f4) == ((rd_T43 l1 x5_1).f4))))))) = false := by simpa using c7
                clear c7
                have H' := Aside0.mk H
                clear H
                have p234 : 0 ≤ (x5_1 : Int) := of_decide_eq_true (by first | (with_reducible assumption) | assumption)
                have q234 : x5_1 < (l0.length : Int) := of_decide_eq_true (by first | (with_reducible assumption) | assumption)
                obtain ⟨ad234, e234, hx234_0, hx234_1, hx234_2, hx234_3, hx234_4⟩ := at_T43 HR0.out x5_1 p234 q234
                cases e234
                replace p234 := eq_true p234
                replace q234 := eq_true q234
                have p235 : 0 ≤ (x5_1 : Int) := of_decide_eq_true (by first | (with_reducible assumption) | assumption)
                have q235 : x5_1 < (l1.length : Int) := of_decide_eq_true (by first | (with_reducible assumption) | assumption)
                obtain ⟨ad235, e235, hx235_0, hx235_1, hx235_2, hx235_3, hx235_4⟩ := at_T43 HR1.out x5_1 p235 q235
                cases e235
                replace p235 := eq_true p235
                replace q235 := eq_true q235
                go_wp2
                repeat (go_quiet (fail); try go_wp2)
                go_roundg k1
                case measure => have := HK1.out; omega
                case rel => exact ⟨(wrap64 (x5_1 + 1)), (by first | rfl | (simp; done) | (simp [*]; done)), H', ⟨by have := HK1.out; omega⟩, by repeat (first | exact Drawn0.refl _ | apply Drawn0.step)⟩
            · rw [if_neg c6] at H
              exact absurd H (by simp)
          · rw [if_neg c5] at H
            exact absurd H (by simp)
        · rw [if_neg c4] at H
          have c4b0 : decide (x5_1 < (l0.length : Int)) = false := decide_eq_false c4
          clear c4
          obtain rfl := Option.some.inj H
          go_wp2
          repeat (go_quiet (fail); try go_wp2)
          go_ret
          exact ⟨by first | rfl | (simp; done) | (simp [*]; done), by repeat (first | exact Drawn0.refl _ | apply Drawn0.step)⟩
  · rw [if_neg c3] at H
    have c3b0 : ((l0.length : Int) == (l1.length : Int)) = false := beq_eq_false_iff_ne.mpr c3
    have c3b1 : ((l0.length : Int) != (l1.length : Int)) = true := bne_iff_ne.mpr c3
    have c3b2 : (l0.length == l1.length) = false := by first | simpa using c3 | (simp at c3 ⊢; omega)
    obtain rfl := Option.some.inj H
    go_enter Try.func43, Try.ntmps43
    go_wp2
    repeat (go_quiet (fail); try go_wp2)
    go_ret
    exact ⟨by first | rfl | (simp; done) | (simp [*]; done), by repeat (first | exact Drawn0.refl _ | apply Drawn0.step)⟩

/-! ### estoverslaw19_AccountsBack: function 14 -/
mutual
def estoverslaw19_AccountsBack.j0 : Nat → List (S43) → Int → Int → Bool → Option (Bool)
  | 0, _, _, _, _ => none
  | k + 1, x0, x1, x2, x20 => if x20 = true then ((estoverslaw19_awake.f k).bind fun t238 => (some t238)) else ((accounts_Charge.f k x0 x1 x2).bind fun bt239 => (if bt239.2.2 = 0 then (if (bt239.1.length : Int) = (x0.length : Int) then (estoverslaw19_AccountsBack.l0 k x0 x1 x2 bt239.1 (bt239.1.length : Int) 0) else (none)) else (some ((bt239.1.length : Int) == 0))))
def estoverslaw19_AccountsBack.l0 : Nat → List (S43) → Int → Int → List (S43) → Int → Int → Option (Bool)
  | 0, _, _, _, _, _, _ => none
  | k + 1, x0, x1, x2, x7, x41, x42 => if x42 < x41 then (if 0 ≤ x42 then (if x42 < (x0.length : Int) then ((accounts_Inside.f k x0 x1 x42).bind fun t250 => (if t250 = true then (if x42 < (x7.length : Int) then (if ((rd_T43 x7 x42).f1) = (wrap64 (((rd_T43 x0 x42).f1) + x2)) then (estoverslaw19_AccountsBack.l0 k x0 x1 x2 x7 x41 (wrap64 (x42 + 1))) else (none)) else (none)) else (if x42 < (x7.length : Int) then (if ((rd_T43 x7 x42).f1) = ((rd_T43 x0 x42).f1) then (estoverslaw19_AccountsBack.l0 k x0 x1 x2 x7 x41 (wrap64 (x42 + 1))) else (none)) else (none)))) else (none)) else (none)) else ((accounts_Uncharge.f k x7 x1 x2).bind fun bt244 => (if bt244.2 = 0 then ((estoversref19_Same.f k bt244.1 x0).bind fun t248 => (some t248)) else (none)))
end
def estoverslaw19_AccountsBack.f (k : Nat) (l0 : List (S43)) (a1 : Int) (a2 : Int) : Option (Bool) := (estoverslaw19_awake.f k).bind fun t236 => (if t236 = true then ((estoverslaw19_Few.f l0).bind fun t237 => (estoverslaw19_AccountsBack.j0 k l0 a1 a2 (!t237))) else (estoverslaw19_AccountsBack.j0 k l0 a1 a2 true))
theorem estoverslaw19_AccountsBack.mono_l : ∀ k, (∀ y0 y1 y2 y3, LeO (estoverslaw19_AccountsBack.j0 k y0 y1 y2 y3) (estoverslaw19_AccountsBack.j0 (k + 1) y0 y1 y2 y3)) ∧ (∀ y0 y1 y2 y3 y4 y5, LeO (estoverslaw19_AccountsBack.l0 k y0 y1 y2 y3 y4 y5) (estoverslaw19_AccountsBack.l0 (k + 1) y0 y1 y2 y3 y4 y5))
  | 0 => ⟨fun _ _ _ _ r h => by simp [estoverslaw19_AccountsBack.j0] at h, fun _ _ _ _ _ _ r h => by simp [estoverslaw19_AccountsBack.l0] at h⟩
  | k + 1 => by
    obtain ⟨ih0, ih1⟩ := estoverslaw19_AccountsBack.mono_l k
    refine ⟨?_, ?_⟩
    · intro y0 y1 y2 y3
      unfold estoverslaw19_AccountsBack.j0
      repeat' first
      | (with_reducible exact ih0 _ _ _ _)
      | (with_reducible exact ih1 _ _ _ _ _ _)
      | (with_reducible exact accounts_Charge.mono _ _ _ _)
      | (with_reducible exact accounts_Inside.mono _ _ _ _)
      | (with_reducible exact accounts_Uncharge.mono _ _ _ _)
      | (with_reducible exact estoverslaw19_awake.mono _)
      | (with_reducible exact estoversref19_Same.mono _ _ _)
      | (with_reducible exact LeO.refl _)
      | (with_reducible exact LeO.none _)
      | (with_reducible refine LeO.ite ?_ ?_)
      | (with_reducible refine LeO.bind ?_ (fun _ => ?_))
      | exact ih0 _ _ _ _
      | exact ih1 _ _ _ _ _ _
      | exact accounts_Charge.mono _ _ _ _
      | exact accounts_Inside.mono _ _ _ _
      | exact accounts_Uncharge.mono _ _ _ _
      | exact estoverslaw19_awake.mono _
      | exact estoversref19_Same.mono _ _ _
      | exact LeO.none _
      | refine LeO.ite ?_ ?_
      | refine LeO.bind ?_ (fun _ => ?_)
    · intro y0 y1 y2 y3 y4 y5
      unfold estoverslaw19_AccountsBack.l0
      repeat' first
      | (with_reducible exact ih0 _ _ _ _)
      | (with_reducible exact ih1 _ _ _ _ _ _)
      | (with_reducible exact accounts_Charge.mono _ _ _ _)
      | (with_reducible exact accounts_Inside.mono _ _ _ _)
      | (with_reducible exact accounts_Uncharge.mono _ _ _ _)
      | (with_reducible exact estoverslaw19_awake.mono _)
      | (with_reducible exact estoversref19_Same.mono _ _ _)
      | (with_reducible exact LeO.refl _)
      | (with_reducible exact LeO.none _)
      | (with_reducible refine LeO.ite ?_ ?_)
      | (with_reducible refine LeO.bind ?_ (fun _ => ?_))
      | exact ih0 _ _ _ _
      | exact ih1 _ _ _ _ _ _
      | exact accounts_Charge.mono _ _ _ _
      | exact accounts_Inside.mono _ _ _ _
      | exact accounts_Uncharge.mono _ _ _ _
      | exact estoverslaw19_awake.mono _
      | exact estoversref19_Same.mono _ _ _
      | exact LeO.none _
      | refine LeO.ite ?_ ?_
      | refine LeO.bind ?_ (fun _ => ?_)
theorem estoverslaw19_AccountsBack.mono : ∀ a0 a1 a2 k, LeO (estoverslaw19_AccountsBack.f k a0 a1 a2) (estoverslaw19_AccountsBack.f (k + 1) a0 a1 a2) := by
  intro a0 a1 a2 k
  obtain ⟨ih0, ih1⟩ := estoverslaw19_AccountsBack.mono_l k
  unfold estoverslaw19_AccountsBack.f
  repeat' first
      | (with_reducible exact ih0 _ _ _ _)
      | (with_reducible exact ih1 _ _ _ _ _ _)
      | (with_reducible exact accounts_Charge.mono _ _ _ _)
      | (with_reducible exact accounts_Inside.mono _ _ _ _)
      | (with_reducible exact accounts_Uncharge.mono _ _ _ _)
      | (with_reducible exact estoverslaw19_awake.mono _)
      | (with_reducible exact estoversref19_Same.mono _ _ _)
      | (with_reducible exact LeO.refl _)
      | (with_reducible exact LeO.none _)
      | (with_reducible refine LeO.ite ?_ ?_)
      | (with_reducible refine LeO.bind ?_ (fun _ => ?_))
      | exact ih0 _ _ _ _
      | exact ih1 _ _ _ _ _ _
      | exact accounts_Charge.mono _ _ _ _
      | exact accounts_Inside.mono _ _ _ _
      | exact accounts_Uncharge.mono _ _ _ _
      | exact estoverslaw19_awake.mono _
      | exact estoversref19_Same.mono _ _ _
      | exact LeO.none _
      | refine LeO.ite ?_ ?_
      | refine LeO.bind ?_ (fun _ => ?_)
set_option maxHeartbeats 8000000 in
set_option maxRecDepth 100000 in
theorem estoverslaw19_AccountsBack.calls (k : Nat) (A0 : Option Addr) (c0 : Nat) (l0 : List (S43)) (a1 : Int) (a2 : Int) (r : Bool) (w : World) (hr0 : Kd.C k43 w A0 l0.length l0) (hc0 : l0.length ≤ c0) (h : estoverslaw19_AccountsBack.f k l0 a1 a2 = some r) :
    Calls Try.prog 14 #[.slice A0 l0.length c0, .int .i64 a1, .int .i64 a2] w fun e w' => e = .returned (.bool r) ∧ Below w.heap.size w w' := by
  have HR0 := Aside0.mk hr0
  have HC0 := Aside0.mk hc0
  clear hr0 hc0
  have HB := Aside0.mk (Below.refl w.heap.size w)
  have H : ((estoverslaw19_awake.f k).bind fun t236 => (if t236 = true then ((estoverslaw19_Few.f l0).bind fun t237 => (estoverslaw19_AccountsBack.j0 k l0 a1 a2 (!t237))) else (estoverslaw19_AccountsBack.j0 k l0 a1 a2 true))) = some r := h
  clear h
  have HC4 := Aside0.mk H
  clear H
  go_enter Try.func14, Try.ntmps14
  go_upto_region 1 with (fail)
  go_cut [20] (fun v20 wc => ∃ (kq : Nat) (x20_3 : Bool), v20 = .bool x20_3 ∧ Aside0 (estoverslaw19_AccountsBack.j0 kq l0 a1 a2 x20_3 = some r) ∧ Aside0 (kq ≤ k) ∧ Aside0 (Below w.heap.size w wc))
  case first =>
    have H := HC4.out
    clear HC4
    replace H := Option.bind_eq_some_iff.mp H
    obtain ⟨t236, A50, H⟩ := H
    replace H : (if t236 = true then ((estoverslaw19_Few.f l0).bind fun t237 => (estoverslaw19_AccountsBack.j0 k l0 a1 a2 (!t237))) else (estoverslaw19_AccountsBack.j0 k l0 a1 a2 true)) = some r := H
    have A5 := Aside0.mk A50
    clear A50
    by_cases c6 : t236 = true
    · subst c6
      have H1 : ((estoverslaw19_Few.f l0).bind fun t237 => (estoverslaw19_AccountsBack.j0 k l0 a1 a2 (!t237))) = some r := by rw [if_pos rfl] at H; exact H
      clear H
      have H := H1
      clear H1
      replace H := Option.bind_eq_some_iff.mp H
      obtain ⟨t237, A70, H⟩ := H
      replace H : (estoverslaw19_AccountsBack.j0 k l0 a1 a2 (!t237)) = some r := H
      have A7 := Aside0.mk A70
      clear A70
      have H' := Aside0.mk H
      clear H
      go_wp2_with (first | ((with_reducible refine gate_callee (f := 26) rfl ?_); refine goesL_ (some 14) rfl rfl Try.func26 (by kernel_rfl) rfl #[] rfl (by (try simp only [List.map_toArray, List.map_cons, List.map_nil]); first | done | rfl | (simp only [List.length_drop, List.length_take]; rfl)) ?_; (with_reducible refine (estoverslaw19_awake.calls k  true _ A5.out).mono ?_); rintro e w8 ⟨rfl, hb⟩; refine ⟨_, rfl, ?_⟩; have n0_ := Aside0.mk (below_step (by repeat (first | (with_reducible first | exact HB.out | apply below_alloc | apply pw_below_drewN | apply below_drew1) | exact HB.out)) hb); clear HB; have HB := n0_; clear n0_; (try clear hb); (try clear hb2); (try clear hk); (try clear hi)) | (go_at_call 27; (with_reducible refine (estoverslaw19_Few.calls _ _ l0 t237 _ ?side1 ?side2 A7.out).mono ?_); (case side1 => repeat (first | exact (Kd.C_below HR0.out HB.out) | (with_reducible refine Kd.C_alloc ?_ _) | (with_reducible refine Kd.C_drewN ?_ _) | (with_reducible refine Kd.C_drew ?_))); (case side2 => exact HC0.out); rintro e w' ⟨rfl, ⟨nd, rfl⟩⟩))
      go_meet
      case rel => exact ⟨_, (!t237), (by first | rfl | (simp; done) | (simp [*]; done)), H', ⟨by first | omega | exact Nat.le_refl _⟩, ⟨by repeat (first | (with_reducible first | exact HB.out | apply below_alloc | apply pw_below_drewN | apply below_drew1) | exact HB.out)⟩⟩
    · replace c6 := Bool.eq_false_iff.mpr c6
      subst c6
      have H1 : (estoverslaw19_AccountsBack.j0 k l0 a1 a2 true) = some r := by rw [if_neg (show ¬ (false = true) by decide)] at H; exact H
      clear H
      have H := H1
      clear H1
      have H' := Aside0.mk H
      clear H
      go_wp2_with (first | ((with_reducible refine gate_callee (f := 26) rfl ?_); refine goesL_ (some 14) rfl rfl Try.func26 (by kernel_rfl) rfl #[] rfl (by (try simp only [List.map_toArray, List.map_cons, List.map_nil]); first | done | rfl | (simp only [List.length_drop, List.length_take]; rfl)) ?_; (with_reducible refine (estoverslaw19_awake.calls k  false _ A5.out).mono ?_); rintro e w9 ⟨rfl, hb⟩; refine ⟨_, rfl, ?_⟩; have n0_ := Aside0.mk (below_step (by repeat (first | (with_reducible first | exact HB.out | apply below_alloc | apply pw_below_drewN | apply below_drew1) | exact HB.out)) hb); clear HB; have HB := n0_; clear n0_; (try clear hb); (try clear hb2); (try clear hk); (try clear hi)))
      go_meet
      case rel => exact ⟨_, (true), (by first | rfl | (simp; done) | (simp [*]; done)), H', ⟨by first | omega | exact Nat.le_refl _⟩, ⟨by repeat (first | (with_reducible first | exact HB.out | apply below_alloc | apply pw_below_drewN | apply below_drew1) | exact HB.out)⟩⟩
  case rest =>
    clear HC4
    try clear c1
    try clear c2
    try clear p2
    try clear c6
    obtain ⟨kq, x20_3, rfl, HA, HJ3, HB⟩ := hcut
    cases kq with
    | zero => exact absurd HA.out (by simp [estoverslaw19_AccountsBack.j0])
    | succ kj3 =>
      have H := HA.out
      clear HA
      simp only [estoverslaw19_AccountsBack.j0] at H
      by_cases c10 : x20_3 = true
      · subst c10
        have H1 : ((estoverslaw19_awake.f kj3).bind fun t238 => (some t238)) = some r := by rw [if_pos rfl] at H; exact H
        clear H
        have H := H1
        clear H1
        replace H := Option.bind_eq_some_iff.mp H
        obtain ⟨t238, A110, H⟩ := H
        replace H : (some t238) = some r := H
        have A11 := Aside0.mk A110
        clear A110
        obtain rfl := Option.some.inj H
        go_wp2_with (first | ((with_reducible refine gate_callee (f := 26) rfl ?_); refine goesL_ (some 21) rfl rfl Try.func26 (by kernel_rfl) rfl #[] rfl (by (try simp only [List.map_toArray, List.map_cons, List.map_nil]); first | done | rfl | (simp only [List.length_drop, List.length_take]; rfl)) ?_; (with_reducible refine (estoverslaw19_awake.calls kj3  t238 _ A11.out).mono ?_); rintro e w12 ⟨rfl, hb⟩; refine ⟨_, rfl, ?_⟩; have n0_ := Aside0.mk (below_step (by repeat (first | (with_reducible first | exact HB.out | apply below_alloc | apply pw_below_drewN | apply below_drew1) | exact HB.out)) hb); clear HB; have HB := n0_; clear n0_; (try clear hb); (try clear hb2); (try clear hk); (try clear hi)))
        go_ret
        exact ⟨by first | rfl | (simp [errW_none, errW_some] <;> rfl) | (simp [*, errW_none, errW_some] <;> rfl), by repeat (first | (with_reducible first | exact HB.out | apply below_alloc | apply pw_below_drewN | apply below_drew1) | exact HB.out)⟩
      · replace c10 := Bool.eq_false_iff.mpr c10
        subst c10
        have H1 : ((accounts_Charge.f kj3 l0 a1 a2).bind fun bt239 => (if bt239.2.2 = 0 then (if (bt239.1.length : Int) = (l0.length : Int) then (estoverslaw19_AccountsBack.l0 kj3 l0 a1 a2 bt239.1 (bt239.1.length : Int) 0) else (none)) else (some ((bt239.1.length : Int) == 0)))) = some r := by rw [if_neg (show ¬ (false = true) by decide)] at H; exact H
        clear H
        have H := H1
        clear H1
        replace H := Option.bind_eq_some_iff.mp H
        obtain ⟨⟨t239, t240, t241⟩, A130, H⟩ := H
        replace H : (if t241 = 0 then (if (t239.length : Int) = (l0.length : Int) then (estoverslaw19_AccountsBack.l0 kj3 l0 a1 a2 t239 (t239.length : Int) 0) else (none)) else (some ((t239.length : Int) == 0))) = some r := H
        have A13 := Aside0.mk A130
        clear A130
        by_cases c14 : t241 = 0
        · rw [if_pos c14] at H
          have c14b0 : (t241 == 0) = true := beq_iff_eq.mpr c14
          have c14b1 : (t241 != 0) = false := bne_eq_false_iff_eq.mpr c14
          clear c14
          by_cases c15 : (t239.length : Int) = (l0.length : Int)
          · rw [if_pos c15] at H
            have c15b0 : ((t239.length : Int) == (l0.length : Int)) = true := beq_iff_eq.mpr c15
            have c15b1 : ((t239.length : Int) != (l0.length : Int)) = false := bne_eq_false_iff_eq.mpr c15
            have c15b2 : (t239.length == l0.length) = true := by first | simpa using c15 | (simp at c15 ⊢; omega)
            clear c15
            have H' := Aside0.mk H
            clear H
            go_wp2_with (first | ((with_reducible refine gate_callee (f := 39) rfl ?_); refine goesL_ (some 26) rfl rfl Try.func39 (by kernel_rfl) rfl #[.slice A0 l0.length c0, .int .i64 a1, .int .i64 a2] rfl (by (try simp only [List.map_toArray, List.map_cons, List.map_nil]); first | done | rfl | (simp only [List.length_drop, List.length_take]; rfl)) ?_; (with_reducible refine (accounts_Charge.calls kj3 _ _ l0 a1 a2 t239 t240 t241 _ ?side1 ?side2 A13.out).mono ?_); (case side1 => repeat (first | exact (Kd.C_below HR0.out HB.out) | (with_reducible refine Kd.C_alloc ?_ _) | (with_reducible refine Kd.C_drewN ?_ _) | (with_reducible refine Kd.C_drew ?_))); (case side2 => exact HC0.out); rintro e w16 ⟨v242, rfl, ho0, hb⟩; refine ⟨_, rfl, ?_⟩; have n0_ := Aside0.mk (Kd.R_lower ho0 (below_size (by repeat (first | (with_reducible first | exact HB.out | apply below_alloc | apply pw_below_drewN | apply below_drew1) | exact HB.out)))); have n1_ := Aside0.mk (below_step (by repeat (first | (with_reducible first | exact HB.out | apply below_alloc | apply pw_below_drewN | apply below_drew1) | exact HB.out)) hb); clear HB; have HO243 := n0_; have HB := n1_; clear n0_ n1_; (try clear hb); (try clear hb2); (try clear hk); (try clear hi); (try clear ho0); obtain ⟨Ao17, co17, eo17⟩ := Kd.R_slice HO243.out; subst eo17))
            go_loopg [42] kj3 (fun kq v42 w' => ∃ (x42_2 : Int), v42 = .int .i64 x42_2 ∧ Aside0 (estoverslaw19_AccountsBack.l0 kq l0 a1 a2 t239 (t239.length : Int) x42_2 = some r) ∧ Aside0 (kq ≤ kj3) ∧ Aside0 (Kd.R k43 43 w' w.heap.size (fun _ => True) (.slice Ao17 t239.length co17) t239) ∧ Aside0 (Below w.heap.size w w'))
            case atStart => exact ⟨(0), (by first | rfl | (simp; done) | (simp [*]; done)), H', ⟨Nat.le_refl _⟩, ⟨by (with_reducible repeat (first | apply Kd.R_alloc | apply Kd.R_drewN | apply Kd.R_drew)); exact HO243.out⟩, ⟨by repeat (first | (with_reducible first | exact HB.out | apply below_alloc | apply pw_below_drewN | apply below_drew1) | exact HB.out)⟩⟩
            case round =>
              clear H'
              try clear c1
              try clear c2
              try clear p2
              try clear c3
              try clear c6
              try clear c10
              try clear c14
              try clear c14b0
              try clear c14b1
              try clear c15
              try clear c15b0
              try clear c15b1
              try clear c15b2
              try clear p2
              obtain ⟨x42_2, rfl, HA, HK2, HO_7, HB⟩ := hrel
              cases gk with
              | zero => exact absurd HA.out (by simp [estoverslaw19_AccountsBack.l0])
              | succ k2 =>
                have H := HA.out
                clear HA
                simp only [estoverslaw19_AccountsBack.l0] at H
                by_cases c18 : x42_2 < (t239.length : Int)
                · rw [if_pos c18] at H
                  have c18b0 : decide (x42_2 < (t239.length : Int)) = true := decide_eq_true c18
                  clear c18
                  by_cases c19 : 0 ≤ x42_2
                  · rw [if_pos c19] at H
                    have c19b0 : decide (0 ≤ x42_2) = true := decide_eq_true c19
                    clear c19
                    by_cases c20 : x42_2 < (l0.length : Int)
                    · rw [if_pos c20] at H
                      have c20b0 : decide (x42_2 < (l0.length : Int)) = true := decide_eq_true c20
                      clear c20
                      replace H := Option.bind_eq_some_iff.mp H
                      obtain ⟨t250, A210, H⟩ := H
                      replace H : (if t250 = true then (if x42_2 < (t239.length : Int) then (if ((rd_T43 t239 x42_2).f1) = (wrap64 (((rd_T43 l0 x42_2).f1) + a2)) then (estoverslaw19_AccountsBack.l0 k2 l0 a1 a2 t239 (t239.length : Int) (wrap64 (x42_2 + 1))) else (none)) else (none)) else (if x42_2 < (t239.length : Int) then (if ((rd_T43 t239 x42_2).f1) = ((rd_T43 l0 x42_2).f1) then (estoverslaw19_AccountsBack.l0 k2 l0 a1 a2 t239 (t239.length : Int) (wrap64 (x42_2 + 1))) else (none)) else (none))) = some r := H
                      have A21 := Aside0.mk A210
                      clear A210
                      by_cases c22 : t250 = true
                      · subst c22
                        have H1 : (if x42_2 < (t239.length : Int) then (if ((rd_T43 t239 x42_2).f1) = (wrap64 (((rd_T43 l0 x42_2).f1) + a2)) then (estoverslaw19_AccountsBack.l0 k2 l0 a1 a2 t239 (t239.length : Int) (wrap64 (x42_2 + 1))) else (none)) else (none)) = some r := by rw [if_pos rfl] at H; exact H
                        clear H
                        have H := H1
                        clear H1
                        by_cases c23 : x42_2 < (t239.length : Int)
                        · rw [if_pos c23] at H
                          have c23b0 : decide (x42_2 < (t239.length : Int)) = true := decide_eq_true c23
                          clear c23
                          by_cases c24 : ((rd_T43 t239 x42_2).f1) = (wrap64 (((rd_T43 l0 x42_2).f1) + a2))
                          · rw [if_pos c24] at H
                            have c24b0 : (((rd_T43 t239 x42_2).f1) == (wrap64 (((rd_T43 l0 x42_2).f1) + a2))) = true := beq_iff_eq.mpr c24
                            have c24b1 : (((rd_T43 t239 x42_2).f1) != (wrap64 (((rd_T43 l0 x42_2).f1) + a2))) = false := bne_eq_false_iff_eq.mpr c24
                            clear c24
                            have H' := Aside0.mk H
                            clear H
                            have p249 : 0 ≤ (x42_2 : Int) := of_decide_eq_true (by first | (with_reducible assumption) | assumption)
                            have q249 : x42_2 < (l0.length : Int) := of_decide_eq_true (by first | (with_reducible assumption) | assumption)
                            obtain ⟨ad249, e249, hx249_0, hx249_1, hx249_2, hx249_3, hx249_4⟩ := at_T43 HR0.out x42_2 p249 q249
                            cases e249
                            replace hx249_0 := (HB.out.cell (World.block_lt_of_cell? w _ hx249_0)).trans hx249_0
                            replace hx249_1 := (HB.out.cell (World.block_lt_of_cell? w _ hx249_1)).trans hx249_1
                            replace hx249_2 := (HB.out.cell (World.block_lt_of_cell? w _ hx249_2)).trans hx249_2
                            replace hx249_3 := (HB.out.cell (World.block_lt_of_cell? w _ hx249_3)).trans hx249_3
                            replace hx249_4 := (HB.out.cell (World.block_lt_of_cell? w _ hx249_4)).trans hx249_4
                            replace p249 := eq_true p249
                            replace q249 := eq_true q249
                            go_wp2_with (first | ((with_reducible refine gate_callee (f := 35) rfl ?_); refine goesL_ (some 53) rfl rfl Try.func35 (by kernel_rfl) rfl #[.slice (some ad249) l0.length c0, .int .i64 a1, .int .i64 x42_2] rfl (by (try simp only [List.map_toArray, List.map_cons, List.map_nil]); first | done | rfl | (simp only [List.length_drop, List.length_take]; rfl)) ?_; (with_reducible refine (accounts_Inside.calls k2 _ _ l0 a1 x42_2 true _ ?side1 ?side2 A21.out).mono ?_); (case side1 => repeat (first | exact (Kd.C_below HR0.out HB.out) | (with_reducible refine Kd.C_alloc ?_ _) | (with_reducible refine Kd.C_drewN ?_ _) | (with_reducible refine Kd.C_drew ?_))); (case side2 => exact HC0.out); rintro e w25 ⟨rfl, hb⟩; refine ⟨_, rfl, ?_⟩; have n0_ := Aside0.mk (Kd.R_below (by (with_reducible repeat (first | apply Kd.R_alloc | apply Kd.R_drewN | apply Kd.R_drew)); exact HO_7.out) hb); have n1_ := Aside0.mk (below_step (by repeat (first | (with_reducible first | exact HB.out | apply below_alloc | apply pw_below_drewN | apply below_drew1) | exact HB.out)) hb); clear HO_7; clear HB; have HO_7 := n0_; have HB := n1_; clear n0_ n1_; (try clear hb); (try clear hb2); (try clear hk); (try clear hi); have p251 : 0 ≤ (x42_2 : Int) := of_decide_eq_true (by first | (with_reducible assumption) | assumption); have q251 : x42_2 < (t239.length : Int) := of_decide_eq_true (by first | (with_reducible assumption) | assumption); obtain ⟨ad251, e251, hx251_0, hx251_1, hx251_2, hx251_3, hx251_4⟩ := at_T43 (Kd.R_reads' HO_7.out).2.2 x42_2 p251 q251; cases e251; replace p251 := eq_true p251; replace q251 := eq_true q251))
                            go_roundg k2
                            case measure => have := HJ3.out; have := HK2.out; omega
                            case rel => exact ⟨(wrap64 (x42_2 + 1)), (by first | rfl | (simp; done) | (simp [*]; done)), H', ⟨by have := HJ3.out; have := HK2.out; omega⟩, ⟨by (with_reducible repeat (first | apply Kd.R_alloc | apply Kd.R_drewN | apply Kd.R_drew)); exact HO_7.out⟩, ⟨by repeat (first | (with_reducible first | exact HB.out | apply below_alloc | apply pw_below_drewN | apply below_drew1) | exact HB.out)⟩⟩
                          · rw [if_neg c24] at H
                            exact absurd H (by simp)
                        · rw [if_neg c23] at H
                          exact absurd H (by simp)
                      · replace c22 := Bool.eq_false_iff.mpr c22
                        subst c22
                        have H1 : (if x42_2 < (t239.length : Int) then (if ((rd_T43 t239 x42_2).f1) = ((rd_T43 l0 x42_2).f1) then (estoverslaw19_AccountsBack.l0 k2 l0 a1 a2 t239 (t239.length : Int) (wrap64 (x42_2 + 1))) else (none)) else (none)) = some r := by rw [if_neg (show ¬ (false = true) by decide)] at H; exact H
                        clear H
                        have H := H1
                        clear H1
                        by_cases c26 : x42_2 < (t239.length : Int)
                        · rw [if_pos c26] at H
                          have c26b0 : decide (x42_2 < (t239.length : Int)) = true := decide_eq_true c26
                          clear c26
                          by_cases c27 : ((rd_T43 t239 x42_2).f1) = ((rd_T43 l0 x42_2).f1)
                          · rw [if_pos c27] at H
                            have c27b0 : (((rd_T43 t239 x42_2).f1) == ((rd_T43 l0 x42_2).f1)) = true := beq_iff_eq.mpr c27
                            have c27b1 : (((rd_T43 t239 x42_2).f1) != ((rd_T43 l0 x42_2).f1)) = false := bne_eq_false_iff_eq.mpr c27
                            clear c27
                            have H' := Aside0.mk H
                            clear H
                            have p249 : 0 ≤ (x42_2 : Int) := of_decide_eq_true (by first | (with_reducible assumption) | assumption)
                            have q249 : x42_2 < (l0.length : Int) := of_decide_eq_true (by first | (with_reducible assumption) | assumption)
                            obtain ⟨ad249, e249, hx249_0, hx249_1, hx249_2, hx249_3, hx249_4⟩ := at_T43 HR0.out x42_2 p249 q249
                            cases e249
                            replace hx249_0 := (HB.out.cell (World.block_lt_of_cell? w _ hx249_0)).trans hx249_0
                            replace hx249_1 := (HB.out.cell (World.block_lt_of_cell? w _ hx249_1)).trans hx249_1
                            replace hx249_2 := (HB.out.cell (World.block_lt_of_cell? w _ hx249_2)).trans hx249_2
                            replace hx249_3 := (HB.out.cell (World.block_lt_of_cell? w _ hx249_3)).trans hx249_3
                            replace hx249_4 := (HB.out.cell (World.block_lt_of_cell? w _ hx249_4)).trans hx249_4
                            replace p249 := eq_true p249
                            replace q249 := eq_true q249
                            go_wp2_with (first | ((with_reducible refine gate_callee (f := 35) rfl ?_); refine goesL_ (some 53) rfl rfl Try.func35 (by kernel_rfl) rfl #[.slice (some ad249) l0.length c0, .int .i64 a1, .int .i64 x42_2] rfl (by (try simp only [List.map_toArray, List.map_cons, List.map_nil]); first | done | rfl | (simp only [List.length_drop, List.length_take]; rfl)) ?_; (with_reducible refine (accounts_Inside.calls k2 _ _ l0 a1 x42_2 false _ ?side1 ?side2 A21.out).mono ?_); (case side1 => repeat (first | exact (Kd.C_below HR0.out HB.out) | (with_reducible refine Kd.C_alloc ?_ _) | (with_reducible refine Kd.C_drewN ?_ _) | (with_reducible refine Kd.C_drew ?_))); (case side2 => exact HC0.out); rintro e w28 ⟨rfl, hb⟩; refine ⟨_, rfl, ?_⟩; have n0_ := Aside0.mk (Kd.R_below (by (with_reducible repeat (first | apply Kd.R_alloc | apply Kd.R_drewN | apply Kd.R_drew)); exact HO_7.out) hb); have n1_ := Aside0.mk (below_step (by repeat (first | (with_reducible first | exact HB.out | apply below_alloc | apply pw_below_drewN | apply below_drew1) | exact HB.out)) hb); clear HO_7; clear HB; have HO_7 := n0_; have HB := n1_; clear n0_ n1_; (try clear hb); (try clear hb2); (try clear hk); (try clear hi); have p252 : 0 ≤ (x42_2 : Int) := of_decide_eq_true (by first | (with_reducible assumption) | assumption); have q252 : x42_2 < (t239.length : Int) := of_decide_eq_true (by first | (with_reducible assumption) | assumption); obtain ⟨ad252, e252, hx252_0, hx252_1, hx252_2, hx252_3, hx252_4⟩ := at_T43 (Kd.R_reads' HO_7.out).2.2 x42_2 p252 q252; cases e252; replace p252 := eq_true p252; replace q252 := eq_true q252))
                            go_roundg k2
                            case measure => have := HJ3.out; have := HK2.out; omega
                            case rel => exact ⟨(wrap64 (x42_2 + 1)), (by first | rfl | (simp; done) | (simp [*]; done)), H', ⟨by have := HJ3.out; have := HK2.out; omega⟩, ⟨by (with_reducible repeat (first | apply Kd.R_alloc | apply Kd.R_drewN | apply Kd.R_drew)); exact HO_7.out⟩, ⟨by repeat (first | (with_reducible first | exact HB.out | apply below_alloc | apply pw_below_drewN | apply below_drew1) | exact HB.out)⟩⟩
                          · rw [if_neg c27] at H
                            exact absurd H (by simp)
                        · rw [if_neg c26] at H
                          exact absurd H (by simp)
                    · rw [if_neg c20] at H
                      exact absurd H (by simp)
                  · rw [if_neg c19] at H
                    exact absurd H (by simp)
                · rw [if_neg c18] at H
                  have c18b0 : decide (x42_2 < (t239.length : Int)) = false := decide_eq_false c18
                  clear c18
                  replace H := Option.bind_eq_some_iff.mp H
                  obtain ⟨⟨t244, t245⟩, A290, H⟩ := H
                  replace H : (if t245 = 0 then ((estoversref19_Same.f k2 t244 l0).bind fun t248 => (some t248)) else (none)) = some r := H
                  have A29 := Aside0.mk A290
                  clear A290
                  by_cases c30 : t245 = 0
                  · rw [if_pos c30] at H
                    have c30b0 : (t245 == 0) = true := beq_iff_eq.mpr c30
                    have c30b1 : (t245 != 0) = false := bne_eq_false_iff_eq.mpr c30
                    clear c30
                    replace H := Option.bind_eq_some_iff.mp H
                    obtain ⟨t248, A310, H⟩ := H
                    replace H : (some t248) = some r := H
                    have A31 := Aside0.mk A310
                    clear A310
                    obtain rfl := Option.some.inj H
                    go_wp2_with (first | ((with_reducible refine gate_callee (f := 41) rfl ?_); refine goesL_ (some 69) rfl rfl Try.func41 (by kernel_rfl) rfl #[.slice Ao17 t239.length co17, .int .i64 a1, .int .i64 a2] rfl (by (try simp only [List.map_toArray, List.map_cons, List.map_nil]); first | done | rfl | (simp only [List.length_drop, List.length_take]; rfl)) ?_; (with_reducible refine (accounts_Uncharge.calls k2 _ _ t239 a1 a2 t244 t245 _ ?side1 ?side2 A29.out).mono ?_); (case side1 => repeat (first | exact (Kd.R_reads' HO_7.out).2.2 | (with_reducible refine Kd.C_alloc ?_ _) | (with_reducible refine Kd.C_drewN ?_ _) | (with_reducible refine Kd.C_drew ?_))); (case side2 => exact (Kd.R_reads' HO_7.out).2.1); rintro e w32 ⟨v246, rfl, ho0, hb⟩; refine ⟨_, rfl, ?_⟩; have n0_ := Aside0.mk (Kd.R_elder' (by (with_reducible repeat (first | apply Kd.R_alloc | apply Kd.R_drewN | apply Kd.R_drew)); exact HO_7.out) (Kd.R_base ho0) hb); have n1_ := Aside0.mk (Kd.R_lower (Kd.R_new' ho0 (Kd.R_lt (by (with_reducible repeat (first | apply Kd.R_alloc | apply Kd.R_drewN | apply Kd.R_drew)); exact HO_7.out))) (below_size (by repeat (first | (with_reducible first | exact HB.out | apply below_alloc | apply pw_below_drewN | apply below_drew1) | exact HB.out)))); have n2_ := Aside0.mk (below_step (by repeat (first | (with_reducible first | exact HB.out | apply below_alloc | apply pw_below_drewN | apply below_drew1) | exact HB.out)) hb); clear HO_7; clear HB; have HO_7 := n0_; have HO247 := n1_; have HB := n2_; clear n0_ n1_ n2_; (try clear hb); (try clear hb2); (try clear hk); (try clear hi); (try clear ho0); obtain ⟨Ao33, co33, eo33⟩ := Kd.R_slice HO247.out; subst eo33) | (go_at_call 43; (with_reducible refine (estoversref19_Same.calls k2 _ _ t244 _ _ l0 t248 _ ?side1 ?side2 ?side3 ?side4 A31.out).mono ?_); (case side1 => repeat (first | exact (Kd.R_reads' HO247.out).2.2 | (with_reducible refine Kd.C_alloc ?_ _) | (with_reducible refine Kd.C_drewN ?_ _) | (with_reducible refine Kd.C_drew ?_))); (case side2 => exact (Kd.R_reads' HO247.out).2.1); (case side3 => repeat (first | exact (Kd.C_below HR0.out HB.out) | (with_reducible refine Kd.C_alloc ?_ _) | (with_reducible refine Kd.C_drewN ?_ _) | (with_reducible refine Kd.C_drew ?_))); (case side4 => exact HC0.out); rintro e w' ⟨rfl, ⟨nd, rfl⟩⟩))
                    go_ret
                    exact ⟨by first | rfl | (simp [errW_none, errW_some] <;> rfl) | (simp [*, errW_none, errW_some] <;> rfl), by repeat (first | (with_reducible first | exact HB.out | apply below_alloc | apply pw_below_drewN | apply below_drew1) | exact HB.out)⟩
                  · rw [if_neg c30] at H
                    exact absurd H (by simp)
          · rw [if_neg c15] at H
            exact absurd H (by simp)
        · rw [if_neg c14] at H
          have c14b0 : (t241 == 0) = false := beq_eq_false_iff_ne.mpr c14
          have c14b1 : (t241 != 0) = true := bne_iff_ne.mpr c14
          obtain rfl := Option.some.inj H
          go_wp2_with (first | ((with_reducible refine gate_callee (f := 39) rfl ?_); refine goesL_ (some 26) rfl rfl Try.func39 (by kernel_rfl) rfl #[.slice A0 l0.length c0, .int .i64 a1, .int .i64 a2] rfl (by (try simp only [List.map_toArray, List.map_cons, List.map_nil]); first | done | rfl | (simp only [List.length_drop, List.length_take]; rfl)) ?_; (with_reducible refine (accounts_Charge.calls kj3 _ _ l0 a1 a2 t239 t240 t241 _ ?side1 ?side2 A13.out).mono ?_); (case side1 => repeat (first | exact (Kd.C_below HR0.out HB.out) | (with_reducible refine Kd.C_alloc ?_ _) | (with_reducible refine Kd.C_drewN ?_ _) | (with_reducible refine Kd.C_drew ?_))); (case side2 => exact HC0.out); rintro e w34 ⟨v242, rfl, ho0, hb⟩; refine ⟨_, rfl, ?_⟩; have n0_ := Aside0.mk (Kd.R_lower ho0 (below_size (by repeat (first | (with_reducible first | exact HB.out | apply below_alloc | apply pw_below_drewN | apply below_drew1) | exact HB.out)))); have n1_ := Aside0.mk (below_step (by repeat (first | (with_reducible first | exact HB.out | apply below_alloc | apply pw_below_drewN | apply below_drew1) | exact HB.out)) hb); clear HB; have HO243 := n0_; have HB := n1_; clear n0_ n1_; (try clear hb); (try clear hb2); (try clear hk); (try clear hi); (try clear ho0); obtain ⟨Ao35, co35, eo35⟩ := Kd.R_slice HO243.out; subst eo35))
          go_ret
          exact ⟨by first | rfl | (simp [errW_none, errW_some] <;> rfl) | (simp [*, errW_none, errW_some] <;> rfl), by repeat (first | (with_reducible first | exact HB.out | apply below_alloc | apply pw_below_drewN | apply below_drew1) | exact HB.out)⟩

end Go.Proofs.Ytpomppjeknmciaa.PAccountsBack
