-- Printed by a copy of the kit's printer that this session has patched (wip/tools/patch_print.py): the session's own text. Lean checks it.
import Derived.Test.YtpomppjeknmciaaPAccountsLimitsx0
import Derived.Test.YtpomppjeknmciaaPAccountsLimitsx1
import Derived.Test.YtpomppjeknmciaaPAccountsLimitsx2
import Derived.Test.YtpomppjeknmciaaPAccountsLimitsx3
namespace Go.Proofs.Ytpomppjeknmciaa.PAccountsLimits
open Go.RowKit Go.Proofs.YtpomppjeknmciaaW.PrintWords Go.Proofs.YtpomppjeknmciaaW.PrintLast Go.Proofs.YtpomppjeknmciaaW.PrintMore
attribute [local go_sem] max2_int min2_int max_two min_two max_three min_three max_four min_four   -- for this text's walks alone
set_option linter.unusedVariables false
set_option linter.unusedSimpArgs false

/-! ### accounts_request: function 57 -/
def accounts_request.f (k : Nat) (l0 : List (S43)) (a1 : Int) (a2 : Int) : Option (Int) := (accounts_Check.f k l0).bind fun t163 => (if t163 = 0 then ((accounts_is.f k l0 a1).bind fun t164 => (if t164 = true then ((accounts_in.f a2).bind fun t165 => (if t165 = true then (some 0) else (some 2))) else (some 6))) else (some t163))
theorem accounts_request.mono : ∀ a0 a1 a2 k, LeO (accounts_request.f k a0 a1 a2) (accounts_request.f (k + 1) a0 a1 a2) := by
  intro a0 a1 a2 k
  unfold accounts_request.f
  repeat' first
      | (with_reducible exact accounts_Check.mono _ _)
      | (with_reducible exact accounts_is.mono _ _ _)
      | (with_reducible exact LeO.refl _)
      | (with_reducible exact LeO.none _)
      | (with_reducible refine LeO.ite ?_ ?_)
      | (with_reducible refine LeO.bind ?_ (fun _ => ?_))
      | exact accounts_Check.mono _ _
      | exact accounts_is.mono _ _ _
      | exact LeO.none _
      | refine LeO.ite ?_ ?_
      | refine LeO.bind ?_ (fun _ => ?_)
set_option maxHeartbeats 8000000 in
set_option maxRecDepth 100000 in
theorem accounts_request.calls (k : Nat) (A0 : Option Addr) (c0 : Nat) (l0 : List (S43)) (a1 : Int) (a2 : Int) (r : Int) (w : World) (hr0 : Kd.C k43 w A0 l0.length l0) (hc0 : l0.length ≤ c0) (h : accounts_request.f k l0 a1 a2 = some r) :
    Calls Try.prog 57 #[.slice A0 l0.length c0, .int .i64 a1, .int .i64 a2] w fun e w' => e = .returned (.int .i64 r) ∧ Below w.heap.size w w' := by
  have HR0 := Aside0.mk hr0
  have HC0 := Aside0.mk hc0
  clear hr0 hc0
  have HB := Aside0.mk (Below.refl w.heap.size w)
  have H : ((accounts_Check.f k l0).bind fun t163 => (if t163 = 0 then ((accounts_is.f k l0 a1).bind fun t164 => (if t164 = true then ((accounts_in.f a2).bind fun t165 => (if t165 = true then (some 0) else (some 2))) else (some 6))) else (some t163))) = some r := h
  clear h
  replace H := Option.bind_eq_some_iff.mp H
  obtain ⟨t163, A40, H⟩ := H
  replace H : (if t163 = 0 then ((accounts_is.f k l0 a1).bind fun t164 => (if t164 = true then ((accounts_in.f a2).bind fun t165 => (if t165 = true then (some 0) else (some 2))) else (some 6))) else (some t163)) = some r := H
  have A4 := Aside0.mk A40
  clear A40
  by_cases c5 : t163 = 0
  · rw [if_pos c5] at H
    have c5b0 : (t163 == 0) = true := beq_iff_eq.mpr c5
    have c5b1 : (t163 != 0) = false := bne_eq_false_iff_eq.mpr c5
    clear c5
    replace H := Option.bind_eq_some_iff.mp H
    obtain ⟨t164, A60, H⟩ := H
    replace H : (if t164 = true then ((accounts_in.f a2).bind fun t165 => (if t165 = true then (some 0) else (some 2))) else (some 6)) = some r := H
    have A6 := Aside0.mk A60
    clear A60
    by_cases c7 : t164 = true
    · subst c7
      have H1 : ((accounts_in.f a2).bind fun t165 => (if t165 = true then (some 0) else (some 2))) = some r := by rw [if_pos rfl] at H; exact H
      clear H
      have H := H1
      clear H1
      replace H := Option.bind_eq_some_iff.mp H
      obtain ⟨t165, A80, H⟩ := H
      replace H : (if t165 = true then (some 0) else (some 2)) = some r := H
      have A8 := Aside0.mk A80
      clear A80
      by_cases c9 : t165 = true
      · subst c9
        have H1 : (some 0) = some r := by rw [if_pos rfl] at H; exact H
        clear H
        have H := H1
        clear H1
        obtain rfl := Option.some.inj H
        go_enter Try.func57, Try.ntmps57
        go_wp2_with (first | ((with_reducible refine gate_callee (f := 28) rfl ?_); refine goesL_ (some 9) rfl rfl Try.func28 (by kernel_rfl) rfl #[.slice A0 l0.length c0] rfl (by (try simp only [List.map_toArray, List.map_cons, List.map_nil]); first | done | rfl | (simp only [List.length_drop, List.length_take]; rfl)) ?_; (with_reducible refine (accounts_Check.calls k _ _ l0 t163 _ ?side1 ?side2 A4.out).mono ?_); (case side1 => repeat (first | exact HR0.out | (with_reducible refine Kd.C_alloc ?_ _) | (with_reducible refine Kd.C_drewN ?_ _) | (with_reducible refine Kd.C_drew ?_))); (case side2 => exact HC0.out); rintro e w10 ⟨rfl, hb⟩; refine ⟨_, rfl, ?_⟩; have n0_ := Aside0.mk (below_step (by repeat (first | (with_reducible first | exact HB.out | apply below_alloc | apply pw_below_drewN | apply below_drew1) | exact HB.out)) hb); clear HB; have HB := n0_; clear n0_; (try clear hb); (try clear hb2); (try clear hk); (try clear hi)) | ((with_reducible refine gate_callee (f := 54) rfl ?_); refine goesL_ (some 17) rfl rfl Try.func54 (by kernel_rfl) rfl #[.slice A0 l0.length c0, .int .i64 a1] rfl (by (try simp only [List.map_toArray, List.map_cons, List.map_nil]); first | done | rfl | (simp only [List.length_drop, List.length_take]; rfl)) ?_; (with_reducible refine (accounts_is.calls k _ _ l0 a1 true _ ?side1 ?side2 A6.out).mono ?_); (case side1 => repeat (first | exact (Kd.C_below HR0.out HB.out) | (with_reducible refine Kd.C_alloc ?_ _) | (with_reducible refine Kd.C_drewN ?_ _) | (with_reducible refine Kd.C_drew ?_))); (case side2 => exact HC0.out); rintro e w11 ⟨rfl, hb⟩; refine ⟨_, rfl, ?_⟩; have n0_ := Aside0.mk (below_step (by repeat (first | (with_reducible first | exact HB.out | apply below_alloc | apply pw_below_drewN | apply below_drew1) | exact HB.out)) hb); clear HB; have HB := n0_; clear n0_; (try clear hb); (try clear hb2); (try clear hk); (try clear hi)) | ((with_reducible refine gate_callee (f := 60) rfl ?_); refine goesL_ (some 21) rfl rfl Try.func60 (by kernel_rfl) rfl #[.int .i64 a2] rfl (by (try simp only [List.map_toArray, List.map_cons, List.map_nil]); first | done | rfl | (simp only [List.length_drop, List.length_take]; rfl)) ?_; (with_reducible refine (accounts_in.calls a2 true _ A8.out).mono ?_); rintro e w' ⟨rfl, ⟨nd, rfl⟩⟩; refine ⟨_, rfl, ?_⟩))
        go_ret
        exact ⟨by first | rfl | (simp [errW_none, errW_some] <;> rfl) | (simp [*, errW_none, errW_some] <;> rfl), by repeat (first | (with_reducible first | exact HB.out | apply below_alloc | apply pw_below_drewN | apply below_drew1) | exact HB.out)⟩
      · replace c9 := Bool.eq_false_iff.mpr c9
        subst c9
        have H1 : (some 2) = some r := by rw [if_neg (show ¬ (false = true) by decide)] at H; exact H
        clear H
        have H := H1
        clear H1
        obtain rfl := Option.some.inj H
        go_enter Try.func57, Try.ntmps57
        go_wp2_with (first | ((with_reducible refine gate_callee (f := 28) rfl ?_); refine goesL_ (some 9) rfl rfl Try.func28 (by kernel_rfl) rfl #[.slice A0 l0.length c0] rfl (by (try simp only [List.map_toArray, List.map_cons, List.map_nil]); first | done | rfl | (simp only [List.length_drop, List.length_take]; rfl)) ?_; (with_reducible refine (accounts_Check.calls k _ _ l0 t163 _ ?side1 ?side2 A4.out).mono ?_); (case side1 => repeat (first | exact HR0.out | (with_reducible refine Kd.C_alloc ?_ _) | (with_reducible refine Kd.C_drewN ?_ _) | (with_reducible refine Kd.C_drew ?_))); (case side2 => exact HC0.out); rintro e w12 ⟨rfl, hb⟩; refine ⟨_, rfl, ?_⟩; have n0_ := Aside0.mk (below_step (by repeat (first | (with_reducible first | exact HB.out | apply below_alloc | apply pw_below_drewN | apply below_drew1) | exact HB.out)) hb); clear HB; have HB := n0_; clear n0_; (try clear hb); (try clear hb2); (try clear hk); (try clear hi)) | ((with_reducible refine gate_callee (f := 54) rfl ?_); refine goesL_ (some 17) rfl rfl Try.func54 (by kernel_rfl) rfl #[.slice A0 l0.length c0, .int .i64 a1] rfl (by (try simp only [List.map_toArray, List.map_cons, List.map_nil]); first | done | rfl | (simp only [List.length_drop, List.length_take]; rfl)) ?_; (with_reducible refine (accounts_is.calls k _ _ l0 a1 true _ ?side1 ?side2 A6.out).mono ?_); (case side1 => repeat (first | exact (Kd.C_below HR0.out HB.out) | (with_reducible refine Kd.C_alloc ?_ _) | (with_reducible refine Kd.C_drewN ?_ _) | (with_reducible refine Kd.C_drew ?_))); (case side2 => exact HC0.out); rintro e w13 ⟨rfl, hb⟩; refine ⟨_, rfl, ?_⟩; have n0_ := Aside0.mk (below_step (by repeat (first | (with_reducible first | exact HB.out | apply below_alloc | apply pw_below_drewN | apply below_drew1) | exact HB.out)) hb); clear HB; have HB := n0_; clear n0_; (try clear hb); (try clear hb2); (try clear hk); (try clear hi)) | ((with_reducible refine gate_callee (f := 60) rfl ?_); refine goesL_ (some 21) rfl rfl Try.func60 (by kernel_rfl) rfl #[.int .i64 a2] rfl (by (try simp only [List.map_toArray, List.map_cons, List.map_nil]); first | done | rfl | (simp only [List.length_drop, List.length_take]; rfl)) ?_; (with_reducible refine (accounts_in.calls a2 false _ A8.out).mono ?_); rintro e w' ⟨rfl, ⟨nd, rfl⟩⟩; refine ⟨_, rfl, ?_⟩))
        go_ret
        exact ⟨by first | rfl | (simp [errW_none, errW_some] <;> rfl) | (simp [*, errW_none, errW_some] <;> rfl), by repeat (first | (with_reducible first | exact HB.out | apply below_alloc | apply pw_below_drewN | apply below_drew1) | exact HB.out)⟩
    · replace c7 := Bool.eq_false_iff.mpr c7
      subst c7
      have H1 : (some 6) = some r := by rw [if_neg (show ¬ (false = true) by decide)] at H; exact H
      clear H
      have H := H1
      clear H1
      obtain rfl := Option.some.inj H
      go_enter Try.func57, Try.ntmps57
      go_wp2_with (first | ((with_reducible refine gate_callee (f := 28) rfl ?_); refine goesL_ (some 9) rfl rfl Try.func28 (by kernel_rfl) rfl #[.slice A0 l0.length c0] rfl (by (try simp only [List.map_toArray, List.map_cons, List.map_nil]); first | done | rfl | (simp only [List.length_drop, List.length_take]; rfl)) ?_; (with_reducible refine (accounts_Check.calls k _ _ l0 t163 _ ?side1 ?side2 A4.out).mono ?_); (case side1 => repeat (first | exact HR0.out | (with_reducible refine Kd.C_alloc ?_ _) | (with_reducible refine Kd.C_drewN ?_ _) | (with_reducible refine Kd.C_drew ?_))); (case side2 => exact HC0.out); rintro e w14 ⟨rfl, hb⟩; refine ⟨_, rfl, ?_⟩; have n0_ := Aside0.mk (below_step (by repeat (first | (with_reducible first | exact HB.out | apply below_alloc | apply pw_below_drewN | apply below_drew1) | exact HB.out)) hb); clear HB; have HB := n0_; clear n0_; (try clear hb); (try clear hb2); (try clear hk); (try clear hi)) | ((with_reducible refine gate_callee (f := 54) rfl ?_); refine goesL_ (some 17) rfl rfl Try.func54 (by kernel_rfl) rfl #[.slice A0 l0.length c0, .int .i64 a1] rfl (by (try simp only [List.map_toArray, List.map_cons, List.map_nil]); first | done | rfl | (simp only [List.length_drop, List.length_take]; rfl)) ?_; (with_reducible refine (accounts_is.calls k _ _ l0 a1 false _ ?side1 ?side2 A6.out).mono ?_); (case side1 => repeat (first | exact (Kd.C_below HR0.out HB.out) | (with_reducible refine Kd.C_alloc ?_ _) | (with_reducible refine Kd.C_drewN ?_ _) | (with_reducible refine Kd.C_drew ?_))); (case side2 => exact HC0.out); rintro e w15 ⟨rfl, hb⟩; refine ⟨_, rfl, ?_⟩; have n0_ := Aside0.mk (below_step (by repeat (first | (with_reducible first | exact HB.out | apply below_alloc | apply pw_below_drewN | apply below_drew1) | exact HB.out)) hb); clear HB; have HB := n0_; clear n0_; (try clear hb); (try clear hb2); (try clear hk); (try clear hi)))
      go_ret
      exact ⟨by first | rfl | (simp [errW_none, errW_some] <;> rfl) | (simp [*, errW_none, errW_some] <;> rfl), by repeat (first | (with_reducible first | exact HB.out | apply below_alloc | apply pw_below_drewN | apply below_drew1) | exact HB.out)⟩
  · rw [if_neg c5] at H
    have c5b0 : (t163 == 0) = false := beq_eq_false_iff_ne.mpr c5
    have c5b1 : (t163 != 0) = true := bne_iff_ne.mpr c5
    obtain rfl := Option.some.inj H
    go_enter Try.func57, Try.ntmps57
    go_wp2_with (first | ((with_reducible refine gate_callee (f := 28) rfl ?_); refine goesL_ (some 9) rfl rfl Try.func28 (by kernel_rfl) rfl #[.slice A0 l0.length c0] rfl (by (try simp only [List.map_toArray, List.map_cons, List.map_nil]); first | done | rfl | (simp only [List.length_drop, List.length_take]; rfl)) ?_; (with_reducible refine (accounts_Check.calls k _ _ l0 t163 _ ?side1 ?side2 A4.out).mono ?_); (case side1 => repeat (first | exact HR0.out | (with_reducible refine Kd.C_alloc ?_ _) | (with_reducible refine Kd.C_drewN ?_ _) | (with_reducible refine Kd.C_drew ?_))); (case side2 => exact HC0.out); rintro e w16 ⟨rfl, hb⟩; refine ⟨_, rfl, ?_⟩; have n0_ := Aside0.mk (below_step (by repeat (first | (with_reducible first | exact HB.out | apply below_alloc | apply pw_below_drewN | apply below_drew1) | exact HB.out)) hb); clear HB; have HB := n0_; clear n0_; (try clear hb); (try clear hb2); (try clear hk); (try clear hi)))
    go_ret
    exact ⟨by first | rfl | (simp [errW_none, errW_some] <;> rfl) | (simp [*, errW_none, errW_some] <;> rfl), by repeat (first | (with_reducible first | exact HB.out | apply below_alloc | apply pw_below_drewN | apply below_drew1) | exact HB.out)⟩

/-! ### api_Account_63: function 63 -/
def api_Account_63.f (l0 : List (S43)) : Option ((List (S43))) := (some (([] : List (S43)) : List (S43))).bind fun y166 => (if y166.length + l0.length < 3518437208883 then (some (y166 ++ l0)) else (none))
set_option maxHeartbeats 8000000 in
set_option maxRecDepth 100000 in
theorem api_Account_63.calls (A0 : Option Addr) (c0 : Nat) (l0 : List (S43)) (r : List (S43)) (w : World) (hr0 : Kd.C k43 w A0 l0.length l0) (hc0 : l0.length ≤ c0) (h : api_Account_63.f l0 = some r) :
    Calls Try.prog 63 #[.slice A0 l0.length c0] w fun e w' => ∃ v0_ : Value, e = .returned (v0_) ∧ Kd.R k43 43 w' w.heap.size (fun _ => True) v0_ r ∧ Below w.heap.size w w' := by
  cases A0 with
  | none =>
    obtain rfl : l0 = [] := by
      rcases Nat.eq_zero_or_pos l0.length with h0 | h0
      · exact List.length_eq_zero_iff.1 h0
      · obtain ⟨ad, e, _⟩ := hr0.2.2 h0
        cases e
    obtain rfl : r = [] := by simpa [api_Account_63.f] using h.symm
    clear h hr0
    have hn_ := nil_yes Try.underlying24
    go_enter Try.func63, Try.ntmps63
    go_wp2
    go_ret
    exact ⟨_, rfl, Kd.R_nil _ _ _ _ _, by repeat (first | exact Below.refl _ _ | apply below_alloc | apply pw_below_drewN | apply below_drew1)⟩
  | some ad_ =>
    have hn_ := nil_no ad_ Try.underlying24
    have HR0 := Aside0.mk hr0
    have HC0 := Aside0.mk hc0
    clear hr0 hc0
    have HB := Aside0.mk (Below.refl w.heap.size w)
    have H : ((some (([] : List (S43)) : List (S43))).bind fun y166 => (if y166.length + l0.length < 3518437208883 then (some (y166 ++ l0)) else (none))) = some r := h
    clear h
    obtain ⟨y166, hy166⟩ : ∃ y_ : List (S43), y_ = (([] : List (S43))) := ⟨_, rfl⟩
    replace H : (if y166.length + l0.length < 3518437208883 then (some (y166 ++ l0)) else (none)) = some r := by first | (rw [hy166]; with_reducible exact H) | (have H2_ := (Option.bind_some _ _).symm.trans H; rw [hy166]; with_reducible exact H2_) | (have H2_ := (Option.bind_some _ _).symm.trans H; with_reducible exact H2_) | with_reducible exact H | (rw [hy166]; exact H) | exact H
    have Ny166 := Aside0.mk hy166
    clear hy166
    by_cases c2 : y166.length + l0.length < 3518437208883
    · rw [if_pos c2] at H
      have LMc2 := Aside0.mk c2
      clear c2
      obtain ⟨y169, hy169⟩ : ∃ y_ : List (S43), y_ = (y166 ++ l0) := ⟨_, rfl⟩
      replace H : (some y169) = some r := by first | (rw [hy169]; with_reducible exact H) | (have H2_ := (Option.bind_some _ _).symm.trans H; rw [hy169]; with_reducible exact H2_) | (have H2_ := (Option.bind_some _ _).symm.trans H; with_reducible exact H2_) | with_reducible exact H | (rw [hy169]; exact H) | exact H
      have Ny169 := Aside0.mk hy169
      clear hy169
      obtain rfl := Option.some.inj H
      go_enter Try.func63, Try.ntmps63
      go_wp2_with (first | ((with_reducible refine gate_dst (N := 5) rfl ?_); refine Kd.R_lit k43 _ 43 ?hg (N := 5) ?hd (xs := ([] : List (S43))) (inner := []) (ok := fun _ => True) (okp := fun _ => True) ?hr ?hp (fun _ hk => hk) trivial (Below.refl _ _) (Nat.le_refl _) (by simp) ?_; (case hd => rfl); (case hg => rfl); (case hr => first | (go_simp; done) | (go_simp; rfl)); (case hp => exact (Reps.none _ _)); intro v167 w3 ho4 hb hg_ hnew_; clear hg_ hnew_; (first | rw [← Ny166.out] at ho4 | (simp only [Int.reduceToNat] at ho4; rw [← Ny166.out] at ho4)); have n0_ := Aside0.mk (Kd.R_lower ho4 (below_size (by repeat (first | (with_reducible first | exact HB.out | apply below_alloc | apply pw_below_drewN | apply below_drew1) | exact HB.out)))); have n1_ := Aside0.mk (below_step (by repeat (first | (with_reducible first | exact HB.out | apply below_alloc | apply pw_below_drewN | apply below_drew1) | exact HB.out)) hb); clear HB; have HO168 := n0_; have HB := n1_; clear n0_ n1_; clear hb ho4) | ((with_reducible refine gate_builtin (b := .append) (xs := #[.tmp 5, .tmp 6]) rfl ?_); at_builtin; refine Kd.R_append_rows k43 (w0 := w) w.heap.size rfl (.tmp 5) (.tmp 6) 24 43 (.agg #[(.int .i64 0), (.int .i64 0), (.int .i64 0), (.int .i64 0), (.int .i64 0)]) 40 rfl Try.underlying24 info43 rfl (by decide) (by omega) v167 y166 l0 _ _ _ (fun _ => True) (fun _ => False) rfl rfl ?aO ?aR (fun _ _ h => h) (fun _ h => h.elim) ?aF ?aB ?aS ?aL ?_; (case aR => repeat (first | exact (Kd.C_below HR0.out HB.out) | (with_reducible refine Kd.C_alloc ?_ _) | (with_reducible refine Kd.C_drewN ?_ _) | (with_reducible refine Kd.C_drew ?_))); (case aB => exact (by repeat (first | (with_reducible first | exact HB.out | apply below_alloc | apply pw_below_drewN | apply below_drew1) | exact HB.out))); (case aF => exact (fun _ _ => trivial)); (case aO => exact (by (with_reducible repeat (first | apply Kd.R_alloc | apply Kd.R_drewN | apply Kd.R_drew)); exact HO168.out)); (case aS => exact (below_size (by repeat (first | (with_reducible first | exact HB.out | apply below_alloc | apply pw_below_drewN | apply below_drew1) | exact HB.out)))); (case aL => have := LMc2.out; omega); intro v170 w5 ho hb hg hat; rw [← Ny169.out] at ho; have n0_ := Aside0.mk (hb); have n1_ := Aside0.mk (ho); clear HB; clear HO168; have HB := n0_; have HO171 := n1_; clear n0_ n1_; clear ho hb hg hat))
      go_ret
      exact ⟨_, by first | rfl | (simp [errW_none, errW_some] <;> rfl) | (simp [*, errW_none, errW_some] <;> rfl), by (with_reducible repeat (first | apply Kd.R_alloc | apply Kd.R_drewN | apply Kd.R_drew)); exact HO171.out, by repeat (first | (with_reducible first | exact HB.out | apply below_alloc | apply pw_below_drewN | apply below_drew1) | exact HB.out)⟩
    · rw [if_neg c2] at H
      exact absurd H (by simp)

/-! ### accounts_add: function 58 -/
def accounts_add.l0 : Nat → Int → List (S43) → List Int → Int → Int → Option ((List (S43)))
  | 0, _, _, _, _, _ => none
  | k + 1, x2, x7, x14, x15, x16 => if x16 < x15 then (if 0 ≤ x16 then (if x16 < (x14.length : Int) then (if 0 ≤ (rd x14 x16) then (if (rd x14 x16) < (x7.length : Int) then (accounts_add.l0 k x2 (x7.set ((rd x14 x16) : Int).toNat (⟨(rd_T43 x7 (rd x14 x16)).f0, wrap64 (((rd_T43 x7 (rd x14 x16)).f1) + x2), (rd_T43 x7 (rd x14 x16)).f2, (rd_T43 x7 (rd x14 x16)).f3, (rd_T43 x7 (rd x14 x16)).f4⟩ : S43)) x14 x15 (wrap64 (x16 + 1))) else (none)) else (none)) else (none)) else (none)) else (some x7)
def accounts_add.f (k : Nat) (l0 : List (S43)) (a1 : Int) (a2 : Int) : Option ((List (S43))) := (api_Account_63.f l0).bind fun t172 => ((accounts_Path.f k l0 a1).bind fun t175 => (accounts_add.l0 k a2 t172 t175 (t175.length : Int) 0))
theorem accounts_add.mono_l : ∀ k, (∀ y0 y1 y2 y3 y4, LeO (accounts_add.l0 k y0 y1 y2 y3 y4) (accounts_add.l0 (k + 1) y0 y1 y2 y3 y4))
  | 0 => fun _ _ _ _ _ r h => by simp [accounts_add.l0] at h
  | k + 1 => by
    have ih0 := accounts_add.mono_l k
    · intro y0 y1 y2 y3 y4
      unfold accounts_add.l0
      repeat' first
      | (with_reducible exact ih0 _ _ _ _ _)
      | (with_reducible exact accounts_Path.mono _ _ _)
      | (with_reducible exact LeO.refl _)
      | (with_reducible exact LeO.none _)
      | (with_reducible refine LeO.ite ?_ ?_)
      | (with_reducible refine LeO.bind ?_ (fun _ => ?_))
      | exact ih0 _ _ _ _ _
      | exact accounts_Path.mono _ _ _
      | exact LeO.none _
      | refine LeO.ite ?_ ?_
      | refine LeO.bind ?_ (fun _ => ?_)
theorem accounts_add.mono : ∀ a0 a1 a2 k, LeO (accounts_add.f k a0 a1 a2) (accounts_add.f (k + 1) a0 a1 a2) := by
  intro a0 a1 a2 k
  have ih0 := accounts_add.mono_l k
  unfold accounts_add.f
  repeat' first
      | (with_reducible exact ih0 _ _ _ _ _)
      | (with_reducible exact accounts_Path.mono _ _ _)
      | (with_reducible exact LeO.refl _)
      | (with_reducible exact LeO.none _)
      | (with_reducible refine LeO.ite ?_ ?_)
      | (with_reducible refine LeO.bind ?_ (fun _ => ?_))
      | exact ih0 _ _ _ _ _
      | exact accounts_Path.mono _ _ _
      | exact LeO.none _
      | refine LeO.ite ?_ ?_
      | refine LeO.bind ?_ (fun _ => ?_)
set_option maxHeartbeats 8000000 in
set_option maxRecDepth 100000 in
theorem accounts_add.calls (k : Nat) (A0 : Option Addr) (c0 : Nat) (l0 : List (S43)) (a1 : Int) (a2 : Int) (r : List (S43)) (w : World) (hr0 : Kd.C k43 w A0 l0.length l0) (hc0 : l0.length ≤ c0) (h : accounts_add.f k l0 a1 a2 = some r) :
    Calls Try.prog 58 #[.slice A0 l0.length c0, .int .i64 a1, .int .i64 a2] w fun e w' => ∃ v0_ : Value, e = .returned (v0_) ∧ Kd.R k43 43 w' w.heap.size (fun _ => True) v0_ r ∧ Below w.heap.size w w' := by
  have HR0 := Aside0.mk hr0
  have HC0 := Aside0.mk hc0
  clear hr0 hc0
  have HB := Aside0.mk (Below.refl w.heap.size w)
  have H : ((api_Account_63.f l0).bind fun t172 => ((accounts_Path.f k l0 a1).bind fun t175 => (accounts_add.l0 k a2 t172 t175 (t175.length : Int) 0))) = some r := h
  clear h
  replace H := Option.bind_eq_some_iff.mp H
  obtain ⟨t172, A40, H⟩ := H
  replace H : ((accounts_Path.f k l0 a1).bind fun t175 => (accounts_add.l0 k a2 t172 t175 (t175.length : Int) 0)) = some r := H
  have A4 := Aside0.mk A40
  clear A40
  replace H := Option.bind_eq_some_iff.mp H
  obtain ⟨t175, A50, H⟩ := H
  replace H : (accounts_add.l0 k a2 t172 t175 (t175.length : Int) 0) = some r := H
  have A5 := Aside0.mk A50
  clear A50
  have H' := Aside0.mk H
  clear H
  go_enter Try.func58, Try.ntmps58
  go_wp2_with (first | ((with_reducible refine gate_callee (f := 63) rfl ?_); refine goesL_ (some 11) rfl rfl Try.func63 (by kernel_rfl) rfl #[.slice A0 l0.length c0] rfl (by (try simp only [List.map_toArray, List.map_cons, List.map_nil]); first | done | rfl | (simp only [List.length_drop, List.length_take]; rfl)) ?_; (with_reducible refine (api_Account_63.calls _ _ l0 t172 _ ?side1 ?side2 A4.out).mono ?_); (case side1 => repeat (first | exact HR0.out | (with_reducible refine Kd.C_alloc ?_ _) | (with_reducible refine Kd.C_drewN ?_ _) | (with_reducible refine Kd.C_drew ?_))); (case side2 => exact HC0.out); rintro e w6 ⟨v173, rfl, ho0, hb⟩; refine ⟨_, rfl, ?_⟩; have n0_ := Aside0.mk (Kd.R_lower ho0 (below_size (by repeat (first | (with_reducible first | exact HB.out | apply below_alloc | apply pw_below_drewN | apply below_drew1) | exact HB.out)))); have n1_ := Aside0.mk (below_step (by repeat (first | (with_reducible first | exact HB.out | apply below_alloc | apply pw_below_drewN | apply below_drew1) | exact HB.out)) hb); clear HB; have HO174 := n0_; have HB := n1_; clear n0_ n1_; (try clear hb); (try clear hb2); (try clear hk); (try clear hi); (try clear ho0)) | ((with_reducible refine gate_callee (f := 31) rfl ?_); refine goesL_ (some 14) rfl rfl Try.func31 (by kernel_rfl) rfl #[.slice A0 l0.length c0, .int .i64 a1] rfl (by (try simp only [List.map_toArray, List.map_cons, List.map_nil]); first | done | rfl | (simp only [List.length_drop, List.length_take]; rfl)) ?_; (with_reducible refine (accounts_Path.calls k _ _ l0 a1 t175 _ ?side1 ?side2 A5.out).mono ?_); (case side1 => repeat (first | exact (Kd.C_below HR0.out HB.out) | (with_reducible refine Kd.C_alloc ?_ _) | (with_reducible refine Kd.C_drewN ?_ _) | (with_reducible refine Kd.C_drew ?_))); (case side2 => exact HC0.out); rintro e w7 ⟨v176, rfl, ho0, hb⟩; refine ⟨_, rfl, ?_⟩; have n0_ := Aside0.mk (Kd.R_below (by (with_reducible repeat (first | apply Kd.R_alloc | apply Kd.R_drewN | apply Kd.R_drew)); exact HO174.out) hb); have n1_ := Aside0.mk (Kd.R_lower ho0 (below_size (by repeat (first | (with_reducible first | exact HB.out | apply below_alloc | apply pw_below_drewN | apply below_drew1) | exact HB.out)))); have n2_ := Aside0.mk (below_step (by repeat (first | (with_reducible first | exact HB.out | apply below_alloc | apply pw_below_drewN | apply below_drew1) | exact HB.out)) hb); clear HO174; clear HB; have HO174 := n0_; have HO177 := n1_; have HB := n2_; clear n0_ n1_ n2_; (try clear hb); (try clear hb2); (try clear hk); (try clear hi); (try clear ho0); obtain ⟨Ao8, co8, eo8⟩ := Kd.R_slice HO177.out; subst eo8))
  go_loopg [16] k (fun kq v16 w' => ∃ (x7_1 : List (S43)) (x16_1 : Int), v16 = .int .i64 x16_1 ∧ Aside0 (accounts_add.l0 kq a2 x7_1 t175 (t175.length : Int) x16_1 = some r) ∧ Aside0 (kq ≤ k) ∧ Aside0 (Kd.R k43 43 w' w.heap.size (fun _ => True) v173 x7_1) ∧ Aside0 (Kd.R (Kd.int .i64) 3 w' w.heap.size (fun _ => True) (.slice Ao8 t175.length co8) t175) ∧ Aside0 (Below w.heap.size w w'))
  case atStart => exact ⟨(t172), (0), (by first | rfl | (simp; done) | (simp [*]; done)), H', ⟨Nat.le_refl _⟩, ⟨by (with_reducible repeat (first | apply Kd.R_alloc | apply Kd.R_drewN | apply Kd.R_drew)); exact HO174.out⟩, ⟨by (with_reducible repeat (first | apply Kd.R_alloc | apply Kd.R_drewN | apply Kd.R_drew)); exact HO177.out⟩, ⟨by repeat (first | (with_reducible first | exact HB.out | apply below_alloc | apply pw_below_drewN | apply below_drew1) | exact HB.out)⟩⟩
  case round =>
    clear H'
    try clear p2
    try clear c3
    try clear c5
    try clear c6
    obtain ⟨x7_1, x16_1, rfl, HA, HK1, HO_7, HO_14, HB⟩ := hrel
    cases gk with
    | zero => exact absurd HA.out (by simp [accounts_add.l0])
    | succ k1 =>
      have H := HA.out
      clear HA
      simp only [accounts_add.l0] at H
      by_cases c9 : x16_1 < (t175.length : Int)
      · rw [if_pos c9] at H
        have c9b0 : decide (x16_1 < (t175.length : Int)) = true := decide_eq_true c9
        clear c9
        by_cases c10 : 0 ≤ x16_1
        · rw [if_pos c10] at H
          have c10b0 : decide (0 ≤ x16_1) = true := decide_eq_true c10
          clear c10
          by_cases c11 : x16_1 < (t175.length : Int)
          · rw [if_pos c11] at H
            have c11b0 : decide (x16_1 < (t175.length : Int)) = true := decide_eq_true c11
            clear c11
            by_cases c12 : 0 ≤ (rd t175 x16_1)
            · rw [if_pos c12] at H
              have c12b0 : decide (0 ≤ (rd t175 x16_1)) = true := decide_eq_true c12
              clear c12
              by_cases c13 : (rd t175 x16_1) < (x7_1.length : Int)
              · rw [if_pos c13] at H
                have c13b0 : decide ((rd t175 x16_1) < (x7_1.length : Int)) = true := decide_eq_true c13
                clear c13
                obtain ⟨y180, hy180⟩ : ∃ y_ : List (S43), y_ = (x7_1.set ((rd t175 x16_1) : Int).toNat (⟨(rd_T43 x7_1 (rd t175 x16_1)).f0, wrap64 (((rd_T43 x7_1 (rd t175 x16_1)).f1) + a2), (rd_T43 x7_1 (rd t175 x16_1)).f2, (rd_T43 x7_1 (rd t175 x16_1)).f3, (rd_T43 x7_1 (rd t175 x16_1)).f4⟩ : S43)) := ⟨_, rfl⟩
                replace H : (accounts_add.l0 k1 a2 y180 t175 (t175.length : Int) (wrap64 (x16_1 + 1))) = some r := by first | (rw [hy180]; with_reducible exact H) | (have H2_ := (Option.bind_some _ _).symm.trans H; rw [hy180]; with_reducible exact H2_) | (have H2_ := (Option.bind_some _ _).symm.trans H; with_reducible exact H2_) | with_reducible exact H | (rw [hy180]; exact H) | exact H
                have Ny180 := Aside0.mk hy180
                clear hy180
                have H' := Aside0.mk H
                clear H
                have p178 : 0 ≤ (x16_1 : Int) := of_decide_eq_true (by first | (with_reducible assumption) | assumption)
                have q178 : x16_1 < (t175.length : Int) := of_decide_eq_true (by first | (with_reducible assumption) | assumption)
                obtain ⟨ad178, e178, hx178_0⟩ := Kd.at_int (Kd.R_reads' HO_14.out).2.2 x16_1 p178 q178
                cases e178
                replace p178 := eq_true p178
                replace q178 := eq_true q178
                obtain ⟨Ao15, co15, eo15⟩ := Kd.R_slice HO_7.out
                subst eo15
                have p179 : 0 ≤ ((rd t175 x16_1) : Int) := of_decide_eq_true (by first | (with_reducible assumption) | assumption)
                have q179 : (rd t175 x16_1) < (x7_1.length : Int) := of_decide_eq_true (by first | (with_reducible assumption) | assumption)
                obtain ⟨ad179, e179, hx179_0, hx179_1, hx179_2, hx179_3, hx179_4⟩ := at_T43 (Kd.R_reads' HO_7.out).2.2 (rd t175 x16_1) p179 q179
                cases e179
                replace p179 := eq_true p179
                replace q179 := eq_true q179
                have p14 : 0 ≤ ((rd t175 x16_1) : Int) := of_decide_eq_true (by first | (with_reducible assumption) | assumption)
                have q14 : ((rd t175 x16_1) : Int) < ((x7_1.length : Int) : Int) := of_decide_eq_true (by first | (with_reducible assumption) | assumption)
                obtain ⟨go14, co14, eo14, gb14, gl14, cl14, HG14⟩ := Kd.R_form HO_7.out (by omega)
                (first | cases eo14 | (injection eo14 with ea_ en_ ec_; (first | subst ea_ | (injection ea_ with ea_; subst ea_)); subst ec_; clear en_))
                have GB14 := Aside0.mk gb14
                have GG14 := Aside0.mk HG14
                clear gb14 gl14 HG14
                (first | simp only [add_plain] at hx179_0 | skip)
                (first | simp only [add_plain] at hx179_1 | skip)
                (first | simp only [add_plain] at hx179_2 | skip)
                (first | simp only [add_plain] at hx179_3 | skip)
                (first | simp only [add_plain] at hx179_4 | skip)
                obtain ⟨ce14, hcl14, hM14, hcc14, hfr14⟩ := Kd.R_elem HO_7.out z43 ((rd t175 x16_1) : Int) p14 q14
                obtain rfl := k43_openM hM14
                have hx14_0 : wr.cell? ⟨go14, ((rd t175 x16_1) : Int).toNat * 5, none⟩ = some (.int .i64 ((rd_T43 x7_1 (rd t175 x16_1)).f0)) := hcc14 0 _ rfl
                have hx14_1 : wr.cell? ⟨go14, ((rd t175 x16_1) : Int).toNat * 5 + 1, none⟩ = some (.int .i64 ((rd_T43 x7_1 (rd t175 x16_1)).f1)) := hcc14 1 _ rfl
                have hx14_2 : wr.cell? ⟨go14, ((rd t175 x16_1) : Int).toNat * 5 + 2, none⟩ = some (.int .i64 ((rd_T43 x7_1 (rd t175 x16_1)).f2)) := hcc14 2 _ rfl
                have hx14_3 : wr.cell? ⟨go14, ((rd t175 x16_1) : Int).toNat * 5 + 3, none⟩ = some (.int .i64 ((rd_T43 x7_1 (rd t175 x16_1)).f3)) := hcc14 3 _ rfl
                have hx14_4 : wr.cell? ⟨go14, ((rd t175 x16_1) : Int).toNat * 5 + 4, none⟩ = some (.int .i64 ((rd_T43 x7_1 (rd t175 x16_1)).f4)) := hcc14 4 _ rfl
                have hf14_0 : wr.frozen? ⟨go14, ((rd t175 x16_1) : Int).toNat * 5, none⟩ = false := hfr14 0
                have hf14_1 : wr.frozen? ⟨go14, ((rd t175 x16_1) : Int).toNat * 5 + 1, none⟩ = false := hfr14 1
                have hf14_2 : wr.frozen? ⟨go14, ((rd t175 x16_1) : Int).toNat * 5 + 2, none⟩ = false := hfr14 2
                have hf14_3 : wr.frozen? ⟨go14, ((rd t175 x16_1) : Int).toNat * 5 + 3, none⟩ = false := hfr14 3
                have hf14_4 : wr.frozen? ⟨go14, ((rd t175 x16_1) : Int).toNat * 5 + 4, none⟩ = false := hfr14 4
                clear hcl14 hcc14 hfr14 hM14
                replace p14 := eq_true p14
                replace q14 := eq_true q14
                have HX16 := Aside0.mk (show Kd.R k43 43 wr w.heap.size (fun _ => True) (.slice (some ⟨go14, 0, none⟩) x7_1.length co15) x7_1 from (by (with_reducible repeat (first | apply Kd.R_alloc | apply Kd.R_drewN | apply Kd.R_drew)); exact HO_7.out))
                obtain ⟨ce16, hcl16, hM16, hcc16, hfr16⟩ := Kd.R_elem HX16.out z43 ((rd t175 x16_1) : Int) (of_decide_eq_true (by first | (with_reducible assumption) | assumption)) (by have h_ : ((rd t175 x16_1) : Int) < ((x7_1.length : Int) : Int) := of_decide_eq_true (by first | (with_reducible assumption) | assumption); first | exact h_ | (have e_ := (Kd.R_reads' HO_7.out).1; omega) | simpa using h_)
                obtain rfl := k43_openM hM16
                have HP16 := Kd.R_seg HX16.out ((rd t175 x16_1) : Int) (of_decide_eq_true (by first | (with_reducible assumption) | assumption)) (by have h_ : ((rd t175 x16_1) : Int) < ((x7_1.length : Int) : Int) := of_decide_eq_true (by first | (with_reducible assumption) | assumption); first | exact h_ | (have e_ := (Kd.R_reads' HO_7.out).1; omega) | simpa using h_) (seg := [.int .i64 (wrap64 (((rd_T43 x7_1 (rd t175 x16_1)).f1) + a2))]) (j := 1) hcl16 hcc16 (show 2 ≤ 5 from by decide) (x' := (⟨(rd_T43 x7_1 (rd t175 x16_1)).f0, wrap64 (((rd_T43 x7_1 (rd t175 x16_1)).f1) + a2), (rd_T43 x7_1 (rd t175 x16_1)).f2, (rd_T43 x7_1 (rd t175 x16_1)).f3, (rd_T43 x7_1 (rd t175 x16_1)).f4⟩ : S43)) (k43_mkM _ _ _ (⟨(rd_T43 x7_1 (rd t175 x16_1)).f0, wrap64 (((rd_T43 x7_1 (rd t175 x16_1)).f1) + a2), (rd_T43 x7_1 (rd t175 x16_1)).f2, (rd_T43 x7_1 (rd t175 x16_1)).f3, (rd_T43 x7_1 (rd t175 x16_1)).f4⟩ : S43) ) (fun _ hk => hk)
                have hx16_1 := hcc16 1 _ rfl
                (try simp only [show (k43).sz = 5 from rfl, Nat.mul_one, Nat.add_zero] at hx16_1)
                have hf16_1 := hfr16 1
                (try simp only [show (k43).sz = 5 from rfl, Nat.mul_one, Nat.add_zero] at hf16_1)
                clear hcl16 hcc16 hfr16 hM16
                go_wp2_with (first | ((with_reducible refine gate_store (t := 3) (p := 28) rfl ?_); refine store_event (t := 3) (p := 28) (v := ?vo_w17) (w1 := (wr.setCell ⟨go14, ((rd t175 x16_1) : Int).toNat * 5 + 1, none⟩ (.int .i64 (wrap64 (((rd_T43 x7_1 (rd t175 x16_1)).f1) + a2))))) ?hg ?ho ?hn ?hr ?_; (case ho => rfl); (case hg => rfl); (case hn => rfl); (case hr => first | (go_simp; done) | (go_simp; rfl)); intro w17 hw; have hg : wr.grownBy w17 (some go14) := (by rw [hw]; exact HP16.2); have hp_ : Kd.R k43 43 w17 w.heap.size (fun _ => True) (.slice (some ⟨go14, 0, none⟩) x7_1.length co15) y180 := (by rw [hw, Ny180.out]; exact HP16.1); clear HP16; have n0_ := Aside0.mk (hp_); have n1_ := Aside0.mk (Kd.R_over' (v := (.slice (some ⟨go14, 0, none⟩) x7_1.length co15)) (by (with_reducible repeat (first | apply Kd.R_alloc | apply Kd.R_drewN | apply Kd.R_drew)); exact HO_14.out) (Kd.R_typed HO_7.out) (by decide) hg); have n2_ := Aside0.mk ((by rw [hw]; exact below_set (HB.out) GB14.out : Below w.heap.size w w17)); clear HO_7; clear HO_14; clear HB; have HO_7 := n0_; have HO_14 := n1_; have HB := n2_; clear n0_ n1_ n2_; clear hg hw hp_))
                go_roundg k1
                case measure => have := HK1.out; omega
                case rel => exact ⟨(y180), (wrap64 (x16_1 + 1)), (by first | rfl | (simp; done) | (simp [*]; done)), H', ⟨by have := HK1.out; omega⟩, ⟨by (with_reducible repeat (first | apply Kd.R_alloc | apply Kd.R_drewN | apply Kd.R_drew)); exact HO_7.out⟩, ⟨by (with_reducible repeat (first | apply Kd.R_alloc | apply Kd.R_drewN | apply Kd.R_drew)); exact HO_14.out⟩, ⟨by repeat (first | (with_reducible first | exact HB.out | apply below_alloc | apply pw_below_drewN | apply below_drew1) | exact HB.out)⟩⟩
              · rw [if_neg c13] at H
                exact absurd H (by simp)
            · rw [if_neg c12] at H
              exact absurd H (by simp)
          · rw [if_neg c11] at H
            exact absurd H (by simp)
        · rw [if_neg c10] at H
          exact absurd H (by simp)
      · rw [if_neg c9] at H
        have c9b0 : decide (x16_1 < (t175.length : Int)) = false := decide_eq_false c9
        clear c9
        obtain rfl := Option.some.inj H
        go_wp2
        go_ret
        exact ⟨_, by first | rfl | (simp [errW_none, errW_some] <;> rfl) | (simp [*, errW_none, errW_some] <;> rfl), by (with_reducible repeat (first | apply Kd.R_alloc | apply Kd.R_drewN | apply Kd.R_drew)); exact HO_7.out, by repeat (first | (with_reducible first | exact HB.out | apply below_alloc | apply pw_below_drewN | apply below_drew1) | exact HB.out)⟩

/-! ### accounts_Charge: function 39 -/
def accounts_Charge.l0 : Nat → List (S43) → Int → Int → List Int → Int → Int → Option ((List (S43)) × Int × Int)
  | 0, _, _, _, _, _, _ => none
  | k + 1, x0, x1, x2, x21, x22, x23 => if x23 < x22 then (if 0 ≤ x23 then (if x23 < (x21.length : Int) then (if 0 ≤ (rd x21 x23) then (if (rd x21 x23) < (x0.length : Int) then (if (wrap64 (((rd_T43 x0 (rd x21 x23)).f1) + x2)) > ((rd_T43 x0 (rd x21 x23)).f4) then (some (([] : List (S43)), rd x21 x23, 17)) else (accounts_Charge.l0 k x0 x1 x2 x21 x22 (wrap64 (x23 + 1)))) else (none)) else (none)) else (none)) else (none)) else ((accounts_add.f k x0 x1 x2).bind fun t188 => (some (t188, (-1), 0)))
def accounts_Charge.f (k : Nat) (l0 : List (S43)) (a1 : Int) (a2 : Int) : Option ((List (S43)) × Int × Int) := (accounts_request.f k l0 a1 a2).bind fun t181 => (if t181 = 0 then ((accounts_Path.f k l0 a1).bind fun t182 => (accounts_Charge.l0 k l0 a1 a2 t182 (t182.length : Int) 0)) else (some (([] : List (S43)), (-1), t181)))
theorem accounts_Charge.mono_l : ∀ k, (∀ y0 y1 y2 y3 y4 y5, LeO (accounts_Charge.l0 k y0 y1 y2 y3 y4 y5) (accounts_Charge.l0 (k + 1) y0 y1 y2 y3 y4 y5))
  | 0 => fun _ _ _ _ _ _ r h => by simp [accounts_Charge.l0] at h
  | k + 1 => by
    have ih0 := accounts_Charge.mono_l k
    · intro y0 y1 y2 y3 y4 y5
      unfold accounts_Charge.l0
      repeat' first
      | (with_reducible exact ih0 _ _ _ _ _ _)
      | (with_reducible exact accounts_Path.mono _ _ _)
      | (with_reducible exact accounts_add.mono _ _ _ _)
      | (with_reducible exact accounts_request.mono _ _ _ _)
      | (with_reducible exact LeO.refl _)
      | (with_reducible exact LeO.none _)
      | (with_reducible refine LeO.ite ?_ ?_)
      | (with_reducible refine LeO.bind ?_ (fun _ => ?_))
      | exact ih0 _ _ _ _ _ _
      | exact accounts_Path.mono _ _ _
      | exact accounts_add.mono _ _ _ _
      | exact accounts_request.mono _ _ _ _
      | exact LeO.none _
      | refine LeO.ite ?_ ?_
      | refine LeO.bind ?_ (fun _ => ?_)
theorem accounts_Charge.mono : ∀ a0 a1 a2 k, LeO (accounts_Charge.f k a0 a1 a2) (accounts_Charge.f (k + 1) a0 a1 a2) := by
  intro a0 a1 a2 k
  have ih0 := accounts_Charge.mono_l k
  unfold accounts_Charge.f
  repeat' first
      | (with_reducible exact ih0 _ _ _ _ _ _)
      | (with_reducible exact accounts_Path.mono _ _ _)
      | (with_reducible exact accounts_add.mono _ _ _ _)
      | (with_reducible exact accounts_request.mono _ _ _ _)
      | (with_reducible exact LeO.refl _)
      | (with_reducible exact LeO.none _)
      | (with_reducible refine LeO.ite ?_ ?_)
      | (with_reducible refine LeO.bind ?_ (fun _ => ?_))
      | exact ih0 _ _ _ _ _ _
      | exact accounts_Path.mono _ _ _
      | exact accounts_add.mono _ _ _ _
      | exact accounts_request.mono _ _ _ _
      | exact LeO.none _
      | refine LeO.ite ?_ ?_
      | refine LeO.bind ?_ (fun _ => ?_)
set_option maxHeartbeats 8000000 in
set_option maxRecDepth 100000 in
theorem accounts_Charge.calls (k : Nat) (A0 : Option Addr) (c0 : Nat) (l0 : List (S43)) (a1 : Int) (a2 : Int) (r1 : List (S43)) (r2 : Int) (r3 : Int) (w : World) (hr0 : Kd.C k43 w A0 l0.length l0) (hc0 : l0.length ≤ c0) (h : accounts_Charge.f k l0 a1 a2 = some (r1, r2, r3)) :
    Calls Try.prog 39 #[.slice A0 l0.length c0, .int .i64 a1, .int .i64 a2] w fun e w' => ∃ v0_ : Value, e = .returned (.tuple #[v0_, .int .i64 r2, .int .i64 r3]) ∧ Kd.R k43 43 w' w.heap.size (fun _ => True) v0_ r1 ∧ Below w.heap.size w w' := by
  have HR0 := Aside0.mk hr0
  have HC0 := Aside0.mk hc0
  clear hr0 hc0
  have HB := Aside0.mk (Below.refl w.heap.size w)
  have H : ((accounts_request.f k l0 a1 a2).bind fun t181 => (if t181 = 0 then ((accounts_Path.f k l0 a1).bind fun t182 => (accounts_Charge.l0 k l0 a1 a2 t182 (t182.length : Int) 0)) else (some (([] : List (S43)), (-1), t181)))) = some (r1, r2, r3) := h
  clear h
  replace H := Option.bind_eq_some_iff.mp H
  obtain ⟨t181, A40, H⟩ := H
  replace H : (if t181 = 0 then ((accounts_Path.f k l0 a1).bind fun t182 => (accounts_Charge.l0 k l0 a1 a2 t182 (t182.length : Int) 0)) else (some (([] : List (S43)), (-1), t181))) = some (r1, r2, r3) := H
  have A4 := Aside0.mk A40
  clear A40
  by_cases c5 : t181 = 0
  · rw [if_pos c5] at H
    have c5b0 : (t181 == 0) = true := beq_iff_eq.mpr c5
    have c5b1 : (t181 != 0) = false := bne_eq_false_iff_eq.mpr c5
    clear c5
    replace H := Option.bind_eq_some_iff.mp H
    obtain ⟨t182, A60, H⟩ := H
    replace H : (accounts_Charge.l0 k l0 a1 a2 t182 (t182.length : Int) 0) = some (r1, r2, r3) := H
    have A6 := Aside0.mk A60
    clear A60
    have H' := Aside0.mk H
    clear H
    go_enter Try.func39, Try.ntmps39
    go_wp2_with (first | (go_at_call 57; (with_reducible refine (accounts_request.calls k _ _ l0 a1 a2 t181 _ ?side1 ?side2 A4.out).mono ?_); (case side1 => repeat (first | exact HR0.out | (with_reducible refine Kd.C_alloc ?_ _) | (with_reducible refine Kd.C_drewN ?_ _) | (with_reducible refine Kd.C_drew ?_))); (case side2 => exact HC0.out); rintro e w7 ⟨rfl, hb⟩; have n0_ := Aside0.mk (below_step (by repeat (first | (with_reducible first | exact HB.out | apply below_alloc | apply pw_below_drewN | apply below_drew1) | exact HB.out)) hb); clear HB; have HB := n0_; clear n0_; (try clear hb); (try clear hb2); (try clear hk); (try clear hi)) | (go_at_call 31; (with_reducible refine (accounts_Path.calls k _ _ l0 a1 t182 _ ?side1 ?side2 A6.out).mono ?_); (case side1 => repeat (first | exact (Kd.C_below HR0.out HB.out) | (with_reducible refine Kd.C_alloc ?_ _) | (with_reducible refine Kd.C_drewN ?_ _) | (with_reducible refine Kd.C_drew ?_))); (case side2 => exact HC0.out); rintro e w8 ⟨v183, rfl, ho0, hb⟩; have n0_ := Aside0.mk (Kd.R_lower ho0 (below_size (by repeat (first | (with_reducible first | exact HB.out | apply below_alloc | apply pw_below_drewN | apply below_drew1) | exact HB.out)))); have n1_ := Aside0.mk (below_step (by repeat (first | (with_reducible first | exact HB.out | apply below_alloc | apply pw_below_drewN | apply below_drew1) | exact HB.out)) hb); clear HB; have HO184 := n0_; have HB := n1_; clear n0_ n1_; (try clear hb); (try clear hb2); (try clear hk); (try clear hi); (try clear ho0); obtain ⟨Ao9, co9, eo9⟩ := Kd.R_slice HO184.out; subst eo9))
    repeat (go_quiet (first | (go_at_call 57; (with_reducible refine (accounts_request.calls k _ _ l0 a1 a2 t181 _ ?side1 ?side2 A4.out).mono ?_); (case side1 => repeat (first | exact HR0.out | (with_reducible refine Kd.C_alloc ?_ _) | (with_reducible refine Kd.C_drewN ?_ _) | (with_reducible refine Kd.C_drew ?_))); (case side2 => exact HC0.out); rintro e w7 ⟨rfl, hb⟩; have n0_ := Aside0.mk (below_step (by repeat (first | (with_reducible first | exact HB.out | apply below_alloc | apply pw_below_drewN | apply below_drew1) | exact HB.out)) hb); clear HB; have HB := n0_; clear n0_; (try clear hb); (try clear hb2); (try clear hk); (try clear hi)) | (go_at_call 31; (with_reducible refine (accounts_Path.calls k _ _ l0 a1 t182 _ ?side1 ?side2 A6.out).mono ?_); (case side1 => repeat (first | exact (Kd.C_below HR0.out HB.out) | (with_reducible refine Kd.C_alloc ?_ _) | (with_reducible refine Kd.C_drewN ?_ _) | (with_reducible refine Kd.C_drew ?_))); (case side2 => exact HC0.out); rintro e w8 ⟨v183, rfl, ho0, hb⟩; have n0_ := Aside0.mk (Kd.R_lower ho0 (below_size (by repeat (first | (with_reducible first | exact HB.out | apply below_alloc | apply pw_below_drewN | apply below_drew1) | exact HB.out)))); have n1_ := Aside0.mk (below_step (by repeat (first | (with_reducible first | exact HB.out | apply below_alloc | apply pw_below_drewN | apply below_drew1) | exact HB.out)) hb); clear HB; have HO184 := n0_; have HB := n1_; clear n0_ n1_; (try clear hb); (try clear hb2); (try clear hk); (try clear hi); (try clear ho0); obtain ⟨Ao9, co9, eo9⟩ := Kd.R_slice HO184.out; subst eo9)); try go_wp2_with (first | (go_at_call 57; (with_reducible refine (accounts_request.calls k _ _ l0 a1 a2 t181 _ ?side1 ?side2 A4.out).mono ?_); (case side1 => repeat (first | exact HR0.out | (with_reducible refine Kd.C_alloc ?_ _) | (with_reducible refine Kd.C_drewN ?_ _) | (with_reducible refine Kd.C_drew ?_))); (case side2 => exact HC0.out); rintro e w7 ⟨rfl, hb⟩; have n0_ := Aside0.mk (below_step (by repeat (first | (with_reducible first | exact HB.out | apply below_alloc | apply pw_below_drewN | apply below_drew1) | exact HB.out)) hb); clear HB; have HB := n0_; clear n0_; (try clear hb); (try clear hb2); (try clear hk); (try clear hi)) | (go_at_call 31; (with_reducible refine (accounts_Path.calls k _ _ l0 a1 t182 _ ?side1 ?side2 A6.out).mono ?_); (case side1 => repeat (first | exact (Kd.C_below HR0.out HB.out) | (with_reducible refine Kd.C_alloc ?_ _) | (with_reducible refine Kd.C_drewN ?_ _) | (with_reducible refine Kd.C_drew ?_))); (case side2 => exact HC0.out); rintro e w8 ⟨v183, rfl, ho0, hb⟩; have n0_ := Aside0.mk (Kd.R_lower ho0 (below_size (by repeat (first | (with_reducible first | exact HB.out | apply below_alloc | apply pw_below_drewN | apply below_drew1) | exact HB.out)))); have n1_ := Aside0.mk (below_step (by repeat (first | (with_reducible first | exact HB.out | apply below_alloc | apply pw_below_drewN | apply below_drew1) | exact HB.out)) hb); clear HB; have HO184 := n0_; have HB := n1_; clear n0_ n1_; (try clear hb); (try clear hb2); (try clear hk); (try clear hi); (try clear ho0); obtain ⟨Ao9, co9, eo9⟩ := Kd.R_slice HO184.out; subst eo9)))
    go_loopg [23] k (fun kq v23 w' => ∃ (x23_1 : Int), v23 = .int .i64 x23_1 ∧ Aside0 (accounts_Charge.l0 kq l0 a1 a2 t182 (t182.length : Int) x23_1 = some (r1, r2, r3)) ∧ Aside0 (kq ≤ k) ∧ Aside0 (Kd.R (Kd.int .i64) 3 w' w.heap.size (fun _ => True) (.slice Ao9 t182.length co9) t182) ∧ Aside0 (Below w.heap.size w w'))
    case atStart => exact ⟨(0), (by first | rfl | (simp; done) | (simp [*]; done)), H', ⟨Nat.le_refl _⟩, ⟨by (with_reducible repeat (first | apply Kd.R_alloc | apply Kd.R_drewN | apply Kd.R_drew)); exact HO184.out⟩, ⟨by repeat (first | (with_reducible first | exact HB.out | apply below_alloc | apply pw_below_drewN | apply below_drew1) | exact HB.out)⟩⟩
    case round =>
      clear H'
      try clear p2
      try clear c3
      try clear c5
      try clear c5b0
      try clear c5b1
      obtain ⟨x23_1, rfl, HA, HK1, HO_21, HB⟩ := hrel
      cases gk with
      | zero => exact absurd HA.out (by simp [accounts_Charge.l0])
      | succ k1 =>
        have H := HA.out
        clear HA
        simp only [accounts_Charge.l0] at H
        by_cases c10 : x23_1 < (t182.length : Int)
        · rw [if_pos c10] at H
          have c10b0 : decide (x23_1 < (t182.length : Int)) = true := decide_eq_true c10
          clear c10
          by_cases c11 : 0 ≤ x23_1
          · rw [if_pos c11] at H
            have c11b0 : decide (0 ≤ x23_1) = true := decide_eq_true c11
            clear c11
            by_cases c12 : x23_1 < (t182.length : Int)
            · rw [if_pos c12] at H
              have c12b0 : decide (x23_1 < (t182.length : Int)) = true := decide_eq_true c12
              clear c12
              by_cases c13 : 0 ≤ (rd t182 x23_1)
              · rw [if_pos c13] at H
                have c13b0 : decide (0 ≤ (rd t182 x23_1)) = true := decide_eq_true c13
                clear c13
                by_cases c14 : (rd t182 x23_1) < (l0.length : Int)
                · rw [if_pos c14] at H
                  have c14b0 : decide ((rd t182 x23_1) < (l0.length : Int)) = true := decide_eq_true c14
                  clear c14
                  by_cases c15 : (wrap64 (((rd_T43 l0 (rd t182 x23_1)).f1) + a2)) > ((rd_T43 l0 (rd t182 x23_1)).f4)
                  · rw [if_pos c15] at H
                    have c15b0 : decide (((rd_T43 l0 (rd t182 x23_1)).f4) < (wrap64 (((rd_T43 l0 (rd t182 x23_1)).f1) + a2))) = true := decide_eq_true c15
                    clear c15
                    simp only [Option.some.injEq, Prod.mk.injEq] at H
                    obtain ⟨rfl, rfl, rfl⟩ := H
                    have p185 : 0 ≤ (x23_1 : Int) := of_decide_eq_true (by first | (with_reducible assumption) | assumption)
                    have q185 : x23_1 < (t182.length : Int) := of_decide_eq_true (by first | (with_reducible assumption) | assumption)
                    obtain ⟨ad185, e185, hx185_0⟩ := Kd.at_int (Kd.R_reads' HO_21.out).2.2 x23_1 p185 q185
                    cases e185
                    replace p185 := eq_true p185
                    replace q185 := eq_true q185
                    have p186 : 0 ≤ ((rd t182 x23_1) : Int) := of_decide_eq_true (by first | (with_reducible assumption) | assumption)
                    have q186 : (rd t182 x23_1) < (l0.length : Int) := of_decide_eq_true (by first | (with_reducible assumption) | assumption)
                    obtain ⟨ad186, e186, hx186_0, hx186_1, hx186_2, hx186_3, hx186_4⟩ := at_T43 HR0.out (rd t182 x23_1) p186 q186
                    cases e186
                    replace hx186_0 := (HB.out.cell (World.block_lt_of_cell? w _ hx186_0)).trans hx186_0
                    replace hx186_1 := (HB.out.cell (World.block_lt_of_cell? w _ hx186_1)).trans hx186_1
                    replace hx186_2 := (HB.out.cell (World.block_lt_of_cell? w _ hx186_2)).trans hx186_2
                    replace hx186_3 := (HB.out.cell (World.block_lt_of_cell? w _ hx186_3)).trans hx186_3
                    replace hx186_4 := (HB.out.cell (World.block_lt_of_cell? w _ hx186_4)).trans hx186_4
                    replace p186 := eq_true p186
                    replace q186 := eq_true q186
                    have p187 : 0 ≤ ((rd t182 x23_1) : Int) := of_decide_eq_true (by first | (with_reducible assumption) | assumption)
                    have q187 : (rd t182 x23_1) < (l0.length : Int) := of_decide_eq_true (by first | (with_reducible assumption) | assumption)
                    obtain ⟨ad187, e187, hx187_0, hx187_1, hx187_2, hx187_3, hx187_4⟩ := at_T43 HR0.out (rd t182 x23_1) p187 q187
                    obtain rfl : ad186 = ad187 := (by injection e187)
                    replace hx187_0 := (HB.out.cell (World.block_lt_of_cell? w _ hx187_0)).trans hx187_0
                    replace hx187_1 := (HB.out.cell (World.block_lt_of_cell? w _ hx187_1)).trans hx187_1
                    replace hx187_2 := (HB.out.cell (World.block_lt_of_cell? w _ hx187_2)).trans hx187_2
                    replace hx187_3 := (HB.out.cell (World.block_lt_of_cell? w _ hx187_3)).trans hx187_3
                    replace hx187_4 := (HB.out.cell (World.block_lt_of_cell? w _ hx187_4)).trans hx187_4
                    replace p187 := eq_true p187
                    replace q187 := eq_true q187
                    go_wp2
                    repeat (go_quiet (fail); try go_wp2)
                    go_ret3
                    exact ⟨_, by first | rfl | (simp [errW_none, errW_some] <;> rfl) | (simp [*, errW_none, errW_some] <;> rfl), by first | exact Kd.R_nil _ _ _ _ _ | exact Kd.N_nil _ _ _ _ _ | exact Kd.V_nil _ _ _ _ _ | exact Kd.Q_nil _ _ _ _ _ | exact Kd.S_nil _ _ _ _ _, by repeat (first | (with_reducible first | exact HB.out | apply below_alloc | apply pw_below_drewN | apply below_drew1) | exact HB.out)⟩
                  · rw [if_neg c15] at H
                    have c15b0 : decide (((rd_T43 l0 (rd t182 x23_1)).f4) < (wrap64 (((rd_T43 l0 (rd t182 x23_1)).f1) + a2))) = false := decide_eq_false c15
                    clear c15
                    have H' := Aside0.mk H
                    clear H
                    have p185 : 0 ≤ (x23_1 : Int) := of_decide_eq_true (by first | (with_reducible assumption) | assumption)
                    have q185 : x23_1 < (t182.length : Int) := of_decide_eq_true (by first | (with_reducible assumption) | assumption)
                    obtain ⟨ad185, e185, hx185_0⟩ := Kd.at_int (Kd.R_reads' HO_21.out).2.2 x23_1 p185 q185
                    cases e185
                    replace p185 := eq_true p185
                    replace q185 := eq_true q185
                    have p186 : 0 ≤ ((rd t182 x23_1) : Int) := of_decide_eq_true (by first | (with_reducible assumption) | assumption)
                    have q186 : (rd t182 x23_1) < (l0.length : Int) := of_decide_eq_true (by first | (with_reducible assumption) | assumption)
                    obtain ⟨ad186, e186, hx186_0, hx186_1, hx186_2, hx186_3, hx186_4⟩ := at_T43 HR0.out (rd t182 x23_1) p186 q186
                    cases e186
                    replace hx186_0 := (HB.out.cell (World.block_lt_of_cell? w _ hx186_0)).trans hx186_0
                    replace hx186_1 := (HB.out.cell (World.block_lt_of_cell? w _ hx186_1)).trans hx186_1
                    replace hx186_2 := (HB.out.cell (World.block_lt_of_cell? w _ hx186_2)).trans hx186_2
                    replace hx186_3 := (HB.out.cell (World.block_lt_of_cell? w _ hx186_3)).trans hx186_3
                    replace hx186_4 := (HB.out.cell (World.block_lt_of_cell? w _ hx186_4)).trans hx186_4
                    replace p186 := eq_true p186
                    replace q186 := eq_true q186
                    have p187 : 0 ≤ ((rd t182 x23_1) : Int) := of_decide_eq_true (by first | (with_reducible assumption) | assumption)
                    have q187 : (rd t182 x23_1) < (l0.length : Int) := of_decide_eq_true (by first | (with_reducible assumption) | assumption)
                    obtain ⟨ad187, e187, hx187_0, hx187_1, hx187_2, hx187_3, hx187_4⟩ := at_T43 HR0.out (rd t182 x23_1) p187 q187
                    obtain rfl : ad186 = ad187 := (by injection e187)
                    replace hx187_0 := (HB.out.cell (World.block_lt_of_cell? w _ hx187_0)).trans hx187_0
                    replace hx187_1 := (HB.out.cell (World.block_lt_of_cell? w _ hx187_1)).trans hx187_1
                    replace hx187_2 := (HB.out.cell (World.block_lt_of_cell? w _ hx187_2)).trans hx187_2
                    replace hx187_3 := (HB.out.cell (World.block_lt_of_cell? w _ hx187_3)).trans hx187_3
                    replace hx187_4 := (HB.out.cell (World.block_lt_of_cell? w _ hx187_4)).trans hx187_4
                    replace p187 := eq_true p187
                    replace q187 := eq_true q187
                    go_wp2
                    repeat (go_quiet (fail); try go_wp2)
                    go_roundg k1
                    case measure => have := HK1.out; omega
                    case rel => exact ⟨(wrap64 (x23_1 + 1)), (by first | rfl | (simp; done) | (simp [*]; done)), H', ⟨by have := HK1.out; omega⟩, ⟨by (with_reducible repeat (first | apply Kd.R_alloc | apply Kd.R_drewN | apply Kd.R_drew)); exact HO_21.out⟩, ⟨by repeat (first | (with_reducible first | exact HB.out | apply below_alloc | apply pw_below_drewN | apply below_drew1) | exact HB.out)⟩⟩
                · rw [if_neg c14] at H
                  exact absurd H (by simp)
              · rw [if_neg c13] at H
                exact absurd H (by simp)
            · rw [if_neg c12] at H
              exact absurd H (by simp)
          · rw [if_neg c11] at H
            exact absurd H (by simp)
        · rw [if_neg c10] at H
          have c10b0 : decide (x23_1 < (t182.length : Int)) = false := decide_eq_false c10
          clear c10
          replace H := Option.bind_eq_some_iff.mp H
          obtain ⟨t188, A160, H⟩ := H
          replace H : (some (t188, (-1), 0)) = some (r1, r2, r3) := H
          have A16 := Aside0.mk A160
          clear A160
          simp only [Option.some.injEq, Prod.mk.injEq] at H
          obtain ⟨rfl, rfl, rfl⟩ := H
          go_wp2_with (first | (go_at_call 58; (with_reducible refine (accounts_add.calls k1 _ _ l0 a1 a2 t188 _ ?side1 ?side2 A16.out).mono ?_); (case side1 => repeat (first | exact (Kd.C_below HR0.out HB.out) | (with_reducible refine Kd.C_alloc ?_ _) | (with_reducible refine Kd.C_drewN ?_ _) | (with_reducible refine Kd.C_drew ?_))); (case side2 => exact HC0.out); rintro e w17 ⟨v189, rfl, ho0, hb⟩; have n0_ := Aside0.mk (Kd.R_below (by (with_reducible repeat (first | apply Kd.R_alloc | apply Kd.R_drewN | apply Kd.R_drew)); exact HO_21.out) hb); have n1_ := Aside0.mk (Kd.R_lower ho0 (below_size (by repeat (first | (with_reducible first | exact HB.out | apply below_alloc | apply pw_below_drewN | apply below_drew1) | exact HB.out)))); have n2_ := Aside0.mk (below_step (by repeat (first | (with_reducible first | exact HB.out | apply below_alloc | apply pw_below_drewN | apply below_drew1) | exact HB.out)) hb); clear HO_21; clear HB; have HO_21 := n0_; have HO190 := n1_; have HB := n2_; clear n0_ n1_ n2_; (try clear hb); (try clear hb2); (try clear hk); (try clear hi); (try clear ho0)))
          repeat (go_quiet (first | (go_at_call 58; (with_reducible refine (accounts_add.calls k1 _ _ l0 a1 a2 t188 _ ?side1 ?side2 A16.out).mono ?_); (case side1 => repeat (first | exact (Kd.C_below HR0.out HB.out) | (with_reducible refine Kd.C_alloc ?_ _) | (with_reducible refine Kd.C_drewN ?_ _) | (with_reducible refine Kd.C_drew ?_))); (case side2 => exact HC0.out); rintro e w17 ⟨v189, rfl, ho0, hb⟩; have n0_ := Aside0.mk (Kd.R_below (by (with_reducible repeat (first | apply Kd.R_alloc | apply Kd.R_drewN | apply Kd.R_drew)); exact HO_21.out) hb); have n1_ := Aside0.mk (Kd.R_lower ho0 (below_size (by repeat (first | (with_reducible first | exact HB.out | apply below_alloc | apply pw_below_drewN | apply below_drew1) | exact HB.out)))); have n2_ := Aside0.mk (below_step (by repeat (first | (with_reducible first | exact HB.out | apply below_alloc | apply pw_below_drewN | apply below_drew1) | exact HB.out)) hb); clear HO_21; clear HB; have HO_21 := n0_; have HO190 := n1_; have HB := n2_; clear n0_ n1_ n2_; (try clear hb); (try clear hb2); (try clear hk); (try clear hi); (try clear ho0))); try go_wp2_with (first | (go_at_call 58; (with_reducible refine (accounts_add.calls k1 _ _ l0 a1 a2 t188 _ ?side1 ?side2 A16.out).mono ?_); (case side1 => repeat (first | exact (Kd.C_below HR0.out HB.out) | (with_reducible refine Kd.C_alloc ?_ _) | (with_reducible refine Kd.C_drewN ?_ _) | (with_reducible refine Kd.C_drew ?_))); (case side2 => exact HC0.out); rintro e w17 ⟨v189, rfl, ho0, hb⟩; have n0_ := Aside0.mk (Kd.R_below (by (with_reducible repeat (first | apply Kd.R_alloc | apply Kd.R_drewN | apply Kd.R_drew)); exact HO_21.out) hb); have n1_ := Aside0.mk (Kd.R_lower ho0 (below_size (by repeat (first | (with_reducible first | exact HB.out | apply below_alloc | apply pw_below_drewN | apply below_drew1) | exact HB.out)))); have n2_ := Aside0.mk (below_step (by repeat (first | (with_reducible first | exact HB.out | apply below_alloc | apply pw_below_drewN | apply below_drew1) | exact HB.out)) hb); clear HO_21; clear HB; have HO_21 := n0_; have HO190 := n1_; have HB := n2_; clear n0_ n1_ n2_; (try clear hb); (try clear hb2); (try clear hk); (try clear hi); (try clear ho0))))
          go_ret3
          exact ⟨_, by first | rfl | (simp [errW_none, errW_some] <;> rfl) | (simp [*, errW_none, errW_some] <;> rfl), by (with_reducible repeat (first | apply Kd.R_alloc | apply Kd.R_drewN | apply Kd.R_drew)); exact HO190.out, by repeat (first | (with_reducible first | exact HB.out | apply below_alloc | apply pw_below_drewN | apply below_drew1) | exact HB.out)⟩
  · rw [if_neg c5] at H
    have c5b0 : (t181 == 0) = false := beq_eq_false_iff_ne.mpr c5
    have c5b1 : (t181 != 0) = true := bne_iff_ne.mpr c5
    simp only [Option.some.injEq, Prod.mk.injEq] at H
    obtain ⟨rfl, rfl, rfl⟩ := H
    go_enter Try.func39, Try.ntmps39
    go_wp2_with (first | (go_at_call 57; (with_reducible refine (accounts_request.calls k _ _ l0 a1 a2 t181 _ ?side1 ?side2 A4.out).mono ?_); (case side1 => repeat (first | exact HR0.out | (with_reducible refine Kd.C_alloc ?_ _) | (with_reducible refine Kd.C_drewN ?_ _) | (with_reducible refine Kd.C_drew ?_))); (case side2 => exact HC0.out); rintro e w18 ⟨rfl, hb⟩; have n0_ := Aside0.mk (below_step (by repeat (first | (with_reducible first | exact HB.out | apply below_alloc | apply pw_below_drewN | apply below_drew1) | exact HB.out)) hb); clear HB; have HB := n0_; clear n0_; (try clear hb); (try clear hb2); (try clear hk); (try clear hi)))
    repeat (go_quiet (first | (go_at_call 57; (with_reducible refine (accounts_request.calls k _ _ l0 a1 a2 t181 _ ?side1 ?side2 A4.out).mono ?_); (case side1 => repeat (first | exact HR0.out | (with_reducible refine Kd.C_alloc ?_ _) | (with_reducible refine Kd.C_drewN ?_ _) | (with_reducible refine Kd.C_drew ?_))); (case side2 => exact HC0.out); rintro e w18 ⟨rfl, hb⟩; have n0_ := Aside0.mk (below_step (by repeat (first | (with_reducible first | exact HB.out | apply below_alloc | apply pw_below_drewN | apply below_drew1) | exact HB.out)) hb); clear HB; have HB := n0_; clear n0_; (try clear hb); (try clear hb2); (try clear hk); (try clear hi))); try go_wp2_with (first | (go_at_call 57; (with_reducible refine (accounts_request.calls k _ _ l0 a1 a2 t181 _ ?side1 ?side2 A4.out).mono ?_); (case side1 => repeat (first | exact HR0.out | (with_reducible refine Kd.C_alloc ?_ _) | (with_reducible refine Kd.C_drewN ?_ _) | (with_reducible refine Kd.C_drew ?_))); (case side2 => exact HC0.out); rintro e w18 ⟨rfl, hb⟩; have n0_ := Aside0.mk (below_step (by repeat (first | (with_reducible first | exact HB.out | apply below_alloc | apply pw_below_drewN | apply below_drew1) | exact HB.out)) hb); clear HB; have HB := n0_; clear n0_; (try clear hb); (try clear hb2); (try clear hk); (try clear hi))))
    go_ret3
    exact ⟨_, by first | rfl | (simp [errW_none, errW_some] <;> rfl) | (simp [*, errW_none, errW_some] <;> rfl), by first | exact Kd.R_nil _ _ _ _ _ | exact Kd.N_nil _ _ _ _ _ | exact Kd.V_nil _ _ _ _ _ | exact Kd.Q_nil _ _ _ _ _ | exact Kd.S_nil _ _ _ _ _, by repeat (first | (with_reducible first | exact HB.out | apply below_alloc | apply pw_below_drewN | apply below_drew1) | exact HB.out)⟩

/-! ### accounts_Uncharge: function 41 -/
def accounts_Uncharge.f (k : Nat) (l0 : List (S43)) (a1 : Int) (a2 : Int) : Option ((List (S43)) × Int) := (accounts_request.f k l0 a1 a2).bind fun t191 => (if t191 = 0 then ((accounts_Own.f k l0 a1).bind fun t192 => (if a2 > t192 then (some (([] : List (S43)), 11)) else ((accounts_add.f k l0 a1 (wrap64 (-a2))).bind fun t193 => (some (t193, 0))))) else (some (([] : List (S43)), t191)))
theorem accounts_Uncharge.mono : ∀ a0 a1 a2 k, LeO (accounts_Uncharge.f k a0 a1 a2) (accounts_Uncharge.f (k + 1) a0 a1 a2) := by
  intro a0 a1 a2 k
  unfold accounts_Uncharge.f
  repeat' first
      | (with_reducible exact accounts_Own.mono _ _ _)
      | (with_reducible exact accounts_add.mono _ _ _ _)
      | (with_reducible exact accounts_request.mono _ _ _ _)
      | (with_reducible exact LeO.refl _)
      | (with_reducible exact LeO.none _)
      | (with_reducible refine LeO.ite ?_ ?_)
      | (with_reducible refine LeO.bind ?_ (fun _ => ?_))
      | exact accounts_Own.mono _ _ _
      | exact accounts_add.mono _ _ _ _
      | exact accounts_request.mono _ _ _ _
      | exact LeO.none _
      | refine LeO.ite ?_ ?_
      | refine LeO.bind ?_ (fun _ => ?_)
set_option maxHeartbeats 8000000 in
set_option maxRecDepth 100000 in
theorem accounts_Uncharge.calls (k : Nat) (A0 : Option Addr) (c0 : Nat) (l0 : List (S43)) (a1 : Int) (a2 : Int) (r1 : List (S43)) (r2 : Int) (w : World) (hr0 : Kd.C k43 w A0 l0.length l0) (hc0 : l0.length ≤ c0) (h : accounts_Uncharge.f k l0 a1 a2 = some (r1, r2)) :
    Calls Try.prog 41 #[.slice A0 l0.length c0, .int .i64 a1, .int .i64 a2] w fun e w' => ∃ v0_ : Value, e = .returned (.tuple #[v0_, .int .i64 r2]) ∧ Kd.R k43 43 w' w.heap.size (fun _ => True) v0_ r1 ∧ Below w.heap.size w w' := by
  have HR0 := Aside0.mk hr0
  have HC0 := Aside0.mk hc0
  clear hr0 hc0
  have HB := Aside0.mk (Below.refl w.heap.size w)
  have H : ((accounts_request.f k l0 a1 a2).bind fun t191 => (if t191 = 0 then ((accounts_Own.f k l0 a1).bind fun t192 => (if a2 > t192 then (some (([] : List (S43)), 11)) else ((accounts_add.f k l0 a1 (wrap64 (-a2))).bind fun t193 => (some (t193, 0))))) else (some (([] : List (S43)), t191)))) = some (r1, r2) := h
  clear h
  replace H := Option.bind_eq_some_iff.mp H
  obtain ⟨t191, A40, H⟩ := H
  replace H : (if t191 = 0 then ((accounts_Own.f k l0 a1).bind fun t192 => (if a2 > t192 then (some (([] : List (S43)), 11)) else ((accounts_add.f k l0 a1 (wrap64 (-a2))).bind fun t193 => (some (t193, 0))))) else (some (([] : List (S43)), t191))) = some (r1, r2) := H
  have A4 := Aside0.mk A40
  clear A40
  by_cases c5 : t191 = 0
  · rw [if_pos c5] at H
    have c5b0 : (t191 == 0) = true := beq_iff_eq.mpr c5
    have c5b1 : (t191 != 0) = false := bne_eq_false_iff_eq.mpr c5
    clear c5
    replace H := Option.bind_eq_some_iff.mp H
    obtain ⟨t192, A60, H⟩ := H
    replace H : (if a2 > t192 then (some (([] : List (S43)), 11)) else ((accounts_add.f k l0 a1 (wrap64 (-a2))).bind fun t193 => (some (t193, 0)))) = some (r1, r2) := H
    have A6 := Aside0.mk A60
    clear A60
    by_cases c7 : a2 > t192
    · rw [if_pos c7] at H
      have c7b0 : decide (t192 < a2) = true := decide_eq_true c7
      clear c7
      simp only [Option.some.injEq, Prod.mk.injEq] at H
      obtain ⟨rfl, rfl⟩ := H
      go_enter Try.func41, Try.ntmps41
      go_wp2_with (first | ((with_reducible refine gate_callee (f := 57) rfl ?_); refine goesL_ (some 12) rfl rfl Try.func57 (by kernel_rfl) rfl #[.slice A0 l0.length c0, .int .i64 a1, .int .i64 a2] rfl (by (try simp only [List.map_toArray, List.map_cons, List.map_nil]); first | done | rfl | (simp only [List.length_drop, List.length_take]; rfl)) ?_; (with_reducible refine (accounts_request.calls k _ _ l0 a1 a2 t191 _ ?side1 ?side2 A4.out).mono ?_); (case side1 => repeat (first | exact HR0.out | (with_reducible refine Kd.C_alloc ?_ _) | (with_reducible refine Kd.C_drewN ?_ _) | (with_reducible refine Kd.C_drew ?_))); (case side2 => exact HC0.out); rintro e w8 ⟨rfl, hb⟩; refine ⟨_, rfl, ?_⟩; have n0_ := Aside0.mk (below_step (by repeat (first | (with_reducible first | exact HB.out | apply below_alloc | apply pw_below_drewN | apply below_drew1) | exact HB.out)) hb); clear HB; have HB := n0_; clear n0_; (try clear hb); (try clear hb2); (try clear hk); (try clear hi)) | ((with_reducible refine gate_callee (f := 37) rfl ?_); refine goesL_ (some 19) rfl rfl Try.func37 (by kernel_rfl) rfl #[.slice A0 l0.length c0, .int .i64 a1] rfl (by (try simp only [List.map_toArray, List.map_cons, List.map_nil]); first | done | rfl | (simp only [List.length_drop, List.length_take]; rfl)) ?_; (with_reducible refine (accounts_Own.calls k _ _ l0 a1 t192 _ ?side1 ?side2 A6.out).mono ?_); (case side1 => repeat (first | exact (Kd.C_below HR0.out HB.out) | (with_reducible refine Kd.C_alloc ?_ _) | (with_reducible refine Kd.C_drewN ?_ _) | (with_reducible refine Kd.C_drew ?_))); (case side2 => exact HC0.out); rintro e w9 ⟨rfl, hb⟩; refine ⟨_, rfl, ?_⟩; have n0_ := Aside0.mk (below_step (by repeat (first | (with_reducible first | exact HB.out | apply below_alloc | apply pw_below_drewN | apply below_drew1) | exact HB.out)) hb); clear HB; have HB := n0_; clear n0_; (try clear hb); (try clear hb2); (try clear hk); (try clear hi)))
      go_ret2
      exact ⟨_, by first | rfl | (simp [errW_none, errW_some] <;> rfl) | (simp [*, errW_none, errW_some] <;> rfl), by first | exact Kd.R_nil _ _ _ _ _ | exact Kd.N_nil _ _ _ _ _ | exact Kd.V_nil _ _ _ _ _ | exact Kd.Q_nil _ _ _ _ _ | exact Kd.S_nil _ _ _ _ _, by repeat (first | (with_reducible first | exact HB.out | apply below_alloc | apply pw_below_drewN | apply below_drew1) | exact HB.out)⟩
    · rw [if_neg c7] at H
      have c7b0 : decide (t192 < a2) = false := decide_eq_false c7
      clear c7
      replace H := Option.bind_eq_some_iff.mp H
      obtain ⟨t193, A100, H⟩ := H
      replace H : (some (t193, 0)) = some (r1, r2) := H
      have A10 := Aside0.mk A100
      clear A100
      simp only [Option.some.injEq, Prod.mk.injEq] at H
      obtain ⟨rfl, rfl⟩ := H
      go_enter Try.func41, Try.ntmps41
      go_wp2_with (first | ((with_reducible refine gate_callee (f := 57) rfl ?_); refine goesL_ (some 12) rfl rfl Try.func57 (by kernel_rfl) rfl #[.slice A0 l0.length c0, .int .i64 a1, .int .i64 a2] rfl (by (try simp only [List.map_toArray, List.map_cons, List.map_nil]); first | done | rfl | (simp only [List.length_drop, List.length_take]; rfl)) ?_; (with_reducible refine (accounts_request.calls k _ _ l0 a1 a2 t191 _ ?side1 ?side2 A4.out).mono ?_); (case side1 => repeat (first | exact HR0.out | (with_reducible refine Kd.C_alloc ?_ _) | (with_reducible refine Kd.C_drewN ?_ _) | (with_reducible refine Kd.C_drew ?_))); (case side2 => exact HC0.out); rintro e w11 ⟨rfl, hb⟩; refine ⟨_, rfl, ?_⟩; have n0_ := Aside0.mk (below_step (by repeat (first | (with_reducible first | exact HB.out | apply below_alloc | apply pw_below_drewN | apply below_drew1) | exact HB.out)) hb); clear HB; have HB := n0_; clear n0_; (try clear hb); (try clear hb2); (try clear hk); (try clear hi)) | ((with_reducible refine gate_callee (f := 37) rfl ?_); refine goesL_ (some 19) rfl rfl Try.func37 (by kernel_rfl) rfl #[.slice A0 l0.length c0, .int .i64 a1] rfl (by (try simp only [List.map_toArray, List.map_cons, List.map_nil]); first | done | rfl | (simp only [List.length_drop, List.length_take]; rfl)) ?_; (with_reducible refine (accounts_Own.calls k _ _ l0 a1 t192 _ ?side1 ?side2 A6.out).mono ?_); (case side1 => repeat (first | exact (Kd.C_below HR0.out HB.out) | (with_reducible refine Kd.C_alloc ?_ _) | (with_reducible refine Kd.C_drewN ?_ _) | (with_reducible refine Kd.C_drew ?_))); (case side2 => exact HC0.out); rintro e w12 ⟨rfl, hb⟩; refine ⟨_, rfl, ?_⟩; have n0_ := Aside0.mk (below_step (by repeat (first | (with_reducible first | exact HB.out | apply below_alloc | apply pw_below_drewN | apply below_drew1) | exact HB.out)) hb); clear HB; have HB := n0_; clear n0_; (try clear hb); (try clear hb2); (try clear hk); (try clear hi)) | ((with_reducible refine gate_callee (f := 58) rfl ?_); refine goesL_ (some 25) rfl rfl Try.func58 (by kernel_rfl) rfl #[.slice A0 l0.length c0, .int .i64 a1, .int .i64 (wrap64 (-a2))] rfl (by (try simp only [List.map_toArray, List.map_cons, List.map_nil]); first | done | rfl | (simp only [List.length_drop, List.length_take]; rfl)) ?_; (with_reducible refine (accounts_add.calls k _ _ l0 a1 (wrap64 (-a2)) t193 _ ?side1 ?side2 A10.out).mono ?_); (case side1 => repeat (first | exact (Kd.C_below HR0.out HB.out) | (with_reducible refine Kd.C_alloc ?_ _) | (with_reducible refine Kd.C_drewN ?_ _) | (with_reducible refine Kd.C_drew ?_))); (case side2 => exact HC0.out); rintro e w13 ⟨v194, rfl, ho0, hb⟩; refine ⟨_, rfl, ?_⟩; have n0_ := Aside0.mk (Kd.R_lower ho0 (below_size (by repeat (first | (with_reducible first | exact HB.out | apply below_alloc | apply pw_below_drewN | apply below_drew1) | exact HB.out)))); have n1_ := Aside0.mk (below_step (by repeat (first | (with_reducible first | exact HB.out | apply below_alloc | apply pw_below_drewN | apply below_drew1) | exact HB.out)) hb); clear HB; have HO195 := n0_; have HB := n1_; clear n0_ n1_; (try clear hb); (try clear hb2); (try clear hk); (try clear hi); (try clear ho0)))
      go_ret2
      exact ⟨_, by first | rfl | (simp [errW_none, errW_some] <;> rfl) | (simp [*, errW_none, errW_some] <;> rfl), by (with_reducible repeat (first | apply Kd.R_alloc | apply Kd.R_drewN | apply Kd.R_drew)); exact HO195.out, by repeat (first | (with_reducible first | exact HB.out | apply below_alloc | apply pw_below_drewN | apply below_drew1) | exact HB.out)⟩
  · rw [if_neg c5] at H
    have c5b0 : (t191 == 0) = false := beq_eq_false_iff_ne.mpr c5
    have c5b1 : (t191 != 0) = true := bne_iff_ne.mpr c5
    simp only [Option.some.injEq, Prod.mk.injEq] at H
    obtain ⟨rfl, rfl⟩ := H
    go_enter Try.func41, Try.ntmps41
    go_wp2_with (first | ((with_reducible refine gate_callee (f := 57) rfl ?_); refine goesL_ (some 12) rfl rfl Try.func57 (by kernel_rfl) rfl #[.slice A0 l0.length c0, .int .i64 a1, .int .i64 a2] rfl (by (try simp only [List.map_toArray, List.map_cons, List.map_nil]); first | done | rfl | (simp only [List.length_drop, List.length_take]; rfl)) ?_; (with_reducible refine (accounts_request.calls k _ _ l0 a1 a2 t191 _ ?side1 ?side2 A4.out).mono ?_); (case side1 => repeat (first | exact HR0.out | (with_reducible refine Kd.C_alloc ?_ _) | (with_reducible refine Kd.C_drewN ?_ _) | (with_reducible refine Kd.C_drew ?_))); (case side2 => exact HC0.out); rintro e w14 ⟨rfl, hb⟩; refine ⟨_, rfl, ?_⟩; have n0_ := Aside0.mk (below_step (by repeat (first | (with_reducible first | exact HB.out | apply below_alloc | apply pw_below_drewN | apply below_drew1) | exact HB.out)) hb); clear HB; have HB := n0_; clear n0_; (try clear hb); (try clear hb2); (try clear hk); (try clear hi)))
    go_ret2
    exact ⟨_, by first | rfl | (simp [errW_none, errW_some] <;> rfl) | (simp [*, errW_none, errW_some] <;> rfl), by first | exact Kd.R_nil _ _ _ _ _ | exact Kd.N_nil _ _ _ _ _ | exact Kd.V_nil _ _ _ _ _ | exact Kd.Q_nil _ _ _ _ _ | exact Kd.S_nil _ _ _ _ _, by repeat (first | (with_reducible first | exact HB.out | apply below_alloc | apply pw_below_drewN | apply below_drew1) | exact HB.out)⟩

/-! ### estoverslaw19_three: function 47 -/
def estoverslaw19_three.f  : Option ((List (S43))) := some (([(⟨(-1), 5, 0, 0, 10⟩ : S43), (⟨0, 4, 0, 0, 6⟩ : S43), (⟨1, 3, 0, 0, 8⟩ : S43)] : List (S43)))
set_option maxHeartbeats 8000000 in
set_option maxRecDepth 100000 in
theorem estoverslaw19_three.calls  (r : List (S43)) (w : World) (h : estoverslaw19_three.f  = some r) :
    Calls Try.prog 47 #[] w fun e w' => ∃ v0_ : Value, e = .returned (v0_) ∧ Kd.R k43 43 w' w.heap.size (fun _ => True) v0_ r ∧ Below w.heap.size w w' := by
  have hu43 := Try.underlying43
  have HB := Aside0.mk (Below.refl w.heap.size w)
  have H : (some (([(⟨(-1), 5, 0, 0, 10⟩ : S43), (⟨0, 4, 0, 0, 6⟩ : S43), (⟨1, 3, 0, 0, 8⟩ : S43)] : List (S43)))) = some r := h
  clear h
  obtain ⟨y196, hy196⟩ : ∃ y_ : List (S43), y_ = (([(⟨(-1), 5, 0, 0, 10⟩ : S43), (⟨0, 4, 0, 0, 6⟩ : S43), (⟨1, 3, 0, 0, 8⟩ : S43)] : List (S43))) := ⟨_, rfl⟩
  replace H : (some y196) = some r := by first | (rw [hy196]; with_reducible exact H) | (have H2_ := (Option.bind_some _ _).symm.trans H; rw [hy196]; with_reducible exact H2_) | (have H2_ := (Option.bind_some _ _).symm.trans H; with_reducible exact H2_) | with_reducible exact H | (rw [hy196]; exact H) | exact H
  have Ny196 := Aside0.mk hy196
  clear hy196
  obtain rfl := Option.some.inj H
  go_enter Try.func47, Try.ntmps47
  go_wp2_with (first | ((with_reducible refine gate_dst (N := 4) rfl ?_); refine Kd.R_lit k43 _ 43 ?hg (N := 4) ?hd (xs := ([(⟨(-1), 5, 0, 0, 10⟩ : S43), (⟨0, 4, 0, 0, 6⟩ : S43), (⟨1, 3, 0, 0, 8⟩ : S43)] : List (S43))) (inner := [.int .i64 (-1), .int .i64 5, .int .i64 0, .int .i64 0, .int .i64 10, .int .i64 0, .int .i64 4, .int .i64 0, .int .i64 0, .int .i64 6, .int .i64 1, .int .i64 3, .int .i64 0, .int .i64 0, .int .i64 8]) (ok := fun _ => True) (okp := fun _ => True) ?hr ?hp (fun _ hk => hk) trivial (Below.refl _ _) (Nat.le_refl _) (by simp) ?_; (case hd => rfl); (case hg => rfl); (case hr => first | (go_simp; done) | (go_simp; rfl)); (case hp => exact (Reps.c5 (show Kd.M k43 _ _ _ (⟨(-1), 5, 0, 0, 10⟩ : S43) [.int .i64 (-1), .int .i64 5, .int .i64 0, .int .i64 0, .int .i64 10] from (k43_mkM _ _ _ (⟨(-1), 5, 0, 0, 10⟩ : S43) )) (Reps.c5 (show Kd.M k43 _ _ _ (⟨0, 4, 0, 0, 6⟩ : S43) [.int .i64 0, .int .i64 4, .int .i64 0, .int .i64 0, .int .i64 6] from (k43_mkM _ _ _ (⟨0, 4, 0, 0, 6⟩ : S43) )) (Reps.c5 (show Kd.M k43 _ _ _ (⟨1, 3, 0, 0, 8⟩ : S43) [.int .i64 1, .int .i64 3, .int .i64 0, .int .i64 0, .int .i64 8] from (k43_mkM _ _ _ (⟨1, 3, 0, 0, 8⟩ : S43) )) (Reps.none _ _))))); intro v197 w1 ho2 hb hg_ hnew_; clear hg_ hnew_; (first | rw [← Ny196.out] at ho2 | (simp only [Int.reduceToNat] at ho2; rw [← Ny196.out] at ho2)); have n0_ := Aside0.mk (Kd.R_lower ho2 (below_size (by repeat (first | (with_reducible first | exact HB.out | apply below_alloc | apply pw_below_drewN | apply below_drew1) | exact HB.out)))); have n1_ := Aside0.mk (below_step (by repeat (first | (with_reducible first | exact HB.out | apply below_alloc | apply pw_below_drewN | apply below_drew1) | exact HB.out)) hb); clear HB; have HO198 := n0_; have HB := n1_; clear n0_ n1_; clear hb ho2))
  go_ret
  exact ⟨_, by first | rfl | (simp [errW_none, errW_some] <;> rfl) | (simp [*, errW_none, errW_some] <;> rfl), by (with_reducible repeat (first | apply Kd.R_alloc | apply Kd.R_drewN | apply Kd.R_drew)); exact HO198.out, by repeat (first | (with_reducible first | exact HB.out | apply below_alloc | apply pw_below_drewN | apply below_drew1) | exact HB.out)⟩

end Go.Proofs.Ytpomppjeknmciaa.PAccountsLimits
