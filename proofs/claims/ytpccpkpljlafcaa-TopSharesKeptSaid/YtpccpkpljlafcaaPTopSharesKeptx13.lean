-- Printed by a copy of the kit's printer that this session has patched (wip/tools/patch_print.py): the session's own text. Lean checks it.
import Derived.Test.YtpccpkpljlafcaaPTopSharesKeptx0
import Derived.Test.YtpccpkpljlafcaaPTopSharesKeptx2
import Derived.Test.YtpccpkpljlafcaaPTopSharesKeptx7
import Derived.Test.YtpccpkpljlafcaaPTopSharesKeptx12
namespace Go.Proofs.Ytpccpkpljlafcaa.PTopSharesKept
open Go.RowKit Go.Proofs.YtpccpkpljlafcaaW.PrintWords Go.Proofs.YtpccpkpljlafcaaW.PrintLast Go.Proofs.YtpccpkpljlafcaaW.PrintMore
attribute [local go_sem] max2_int min2_int max_two min_two max_three min_three max_four min_four   -- for this text's walks alone
set_option linter.unusedVariables false
set_option linter.unusedSimpArgs false
def generations_Add.j0 : Nat → List (List Int) → Int → Int → Bool → Option ((List (List Int)) × Int)
 | 0, _, _, _, _ => none
 | k + 1, x0, x1, x2, x27 => if x27 = true then (some (([] : List (List Int)), 2)) else ((generations_clone.f k x0).bind fun t253 => (if 0 ≤ x1 then (if x1 < (t253.length : Int) then (if (rd_L4 t253 x1).length < 17592186044416 then (some ((t253.set (x1 : Int).toNat ((rd_L4 t253 x1) ++ [x2])), 0)) else (none)) else (none)) else (none)))
def generations_Add.g (k : Nat) (l0 : List (List Int)) (a1 : Int) (a2 : Int) : Option ((List (List Int)) × Int) := (generations_Check.f l0).bind fun t251 => (if t251 = 0 then (if a1 < 0 then (generations_Add.j0 k l0 a1 a2 true) else (if a1 ≥ 4 then (generations_Add.j0 k l0 a1 a2 true) else ((generations_isFrame.f a2).bind fun t252 => (generations_Add.j0 k l0 a1 a2 (!t252))))) else (some (([] : List (List Int)), t251)))
def generations_Add.f (k : Nat) (l0 : List (List Int)) (a1 : Int) (a2 : Int) : Option ((List (List Int)) × Int) := if l0 = gL 0 ∧ a2 = 7 then generations_Add.g k l0 a1 a2 else none
theorem generations_Add.mono_l : ∀ k, (∀ y0 y1 y2 y3, LeO (generations_Add.j0 k y0 y1 y2 y3) (generations_Add.j0 (k + 1) y0 y1 y2 y3))
 | 0 => fun _ _ _ _ r h => by simp [generations_Add.j0] at h
 | k + 1 => by
  have ih0 := generations_Add.mono_l k
  ·intro y0 y1 y2 y3
   unfold generations_Add.j0
   repeat' first
   | (with_reducible exact ih0 _ _ _ _)
   | (with_reducible exact generations_clone.mono _ _)
   | (with_reducible exact LeO.refl _)
   | (with_reducible exact LeO.none _)
   | (with_reducible refine LeO.ite ?_ ?_)
   | (with_reducible refine LeO.bind ?_ (fun _ => ?_))
   | exact ih0 _ _ _ _
   | exact generations_clone.mono _ _
   | exact LeO.none _
   | refine LeO.ite ?_ ?_
   | refine LeO.bind ?_ (fun _ => ?_)
theorem generations_Add.monog : ∀ a0 a1 a2 k, LeO (generations_Add.g k a0 a1 a2) (generations_Add.g (k + 1) a0 a1 a2) := by
 intro a0 a1 a2 k
 have ih0 := generations_Add.mono_l k
 unfold generations_Add.g
 repeat' first
   | (with_reducible exact ih0 _ _ _ _)
   | (with_reducible exact generations_clone.mono _ _)
   | (with_reducible exact LeO.refl _)
   | (with_reducible exact LeO.none _)
   | (with_reducible refine LeO.ite ?_ ?_)
   | (with_reducible refine LeO.bind ?_ (fun _ => ?_))
   | exact ih0 _ _ _ _
   | exact generations_clone.mono _ _
   | exact LeO.none _
   | refine LeO.ite ?_ ?_
   | refine LeO.bind ?_ (fun _ => ?_)
theorem generations_Add.mono : ∀ a0 a1 a2 k, LeO (generations_Add.f k a0 a1 a2) (generations_Add.f (k + 1) a0 a1 a2) := by
 intro a0 a1 a2 k
 unfold generations_Add.f
 exact LeO.ite (generations_Add.monog _ _ _ _) (LeO.none _)
set_option maxHeartbeats 8000000 in
set_option maxRecDepth 100000 in
theorem generations_Add.calls (k : Nat) (A0 : Option Addr) (c0 : Nat) (l0 : List (List Int)) (a1 : Int) (a2 : Int) (r1 : List (List Int)) (r2 : Int) (w : World) (hr0 : Kd.C (Kd.slice 3 (Kd.int .i64)) w A0 l0.length l0) (hc0 : l0.length ≤ c0) (h : generations_Add.f k l0 a1 a2 = some (r1, r2)) :
  Calls Try.prog 18 #[.slice A0 l0.length c0, .int .i64 a1, .int .i64 a2] w fun e w' => ∃ v0_ : Value, e = .returned (.tuple #[v0_, .int .i64 r2]) ∧ Kd.S (Kd.slice 3 (Kd.int .i64)) 30 w' w.heap.size (fun _ => True) v0_ r1 ∧ Below w.heap.size w w' := by
 unfold generations_Add.f at h
 by_cases hla : l0 = gL 0 ∧ a2 = 7
 case neg => rw [if_neg hla] at h; cases h
 rw [if_pos hla] at h
 obtain ⟨hl0, haa⟩ := hla
 have HL0 := Aside0.mk hl0
 have WF2 : Aside0 ((Lit.int .i64 a2).wf = true) := ⟨by
  have ha2 : a2 = 7 := haa
  subst ha2
  decide⟩
 clear hl0 haa
 have HR0 := Aside0.mk hr0
 have HC0 := Aside0.mk hc0
 clear hr0 hc0
 have HB := Aside0.mk (Below.refl w.heap.size w)
 have H : ((generations_Check.f l0).bind fun t251 => (if t251 = 0 then (if a1 < 0 then (generations_Add.j0 k l0 a1 a2 true) else (if a1 ≥ 4 then (generations_Add.j0 k l0 a1 a2 true) else ((generations_isFrame.f a2).bind fun t252 => (generations_Add.j0 k l0 a1 a2 (!t252))))) else (some (([] : List (List Int)), t251)))) = some (r1, r2) := h
 clear h
 replace H := Option.bind_eq_some_iff.mp H
 obtain ⟨t251, A40, H⟩ := H
 replace H : (if t251 = 0 then (if a1 < 0 then (generations_Add.j0 k l0 a1 a2 true) else (if a1 ≥ 4 then (generations_Add.j0 k l0 a1 a2 true) else ((generations_isFrame.f a2).bind fun t252 => (generations_Add.j0 k l0 a1 a2 (!t252))))) else (some (([] : List (List Int)), t251))) = some (r1, r2) := H
 have A4 := Aside0.mk A40
 clear A40
 by_cases c5 : t251 = 0
 ·rw [if_pos c5] at H
  have c5b0 : (t251 == 0) = true := beq_iff_eq.mpr c5
  have c5b1 : (t251 != 0) = false := bne_eq_false_iff_eq.mpr c5
  clear c5
  have HC6 := Aside0.mk H
  clear H
  go_enter Try.func18, Try.ntmps18
  go_upto_region 4 with (first | ((with_reducible refine gate_callee (f := 37) rfl ?_); refine goesL_ (some 13) rfl rfl Try.func37 (by kernel_rfl) rfl #[.slice A0 l0.length c0] rfl (by (try simp only [List.map_toArray, List.map_cons, List.map_nil]); first | done | rfl | (simp only [List.length_drop, List.length_take]; rfl)) ?_; (with_reducible refine (generations_Check.calls _ _ l0 t251 _ ?side1 ?side2 A4.out).mono ?_); (case side1 => repeat (first | exact HR0.out | (with_reducible refine Kd.C_alloc ?_ _) | (with_reducible refine Kd.C_drewN ?_ _) | (with_reducible refine Kd.C_drew ?_))); (case side2 => exact HC0.out); rintro e w7 ⟨rfl, hb⟩; refine ⟨_, rfl, ?_⟩; have n0_ := Aside0.mk (below_step (by repeat (first | (with_reducible first | exact HB.out | apply below_alloc | apply pw_below_drewN | apply below_drew1) | exact HB.out)) hb); clear HB; have HB := n0_; clear n0_; (try clear hb); (try clear hb2); (try clear hk); (try clear hi)))
  (try simp only [Act.put, List.setIfInBounds_toArray, List.set_cons_zero, List.set_cons_succ])
  go_cut [27] (fun v27 wc => ∃ (kq : Nat) (x27_5 : Bool), v27 = .bool x27_5 ∧ Aside0 (generations_Add.j0 kq l0 a1 a2 x27_5 = some (r1, r2)) ∧ Aside0 (kq ≤ k) ∧ Aside0 (Below w.heap.size w wc))
  case first =>
   have H := HC6.out
   clear HC6
   by_cases c8 : a1 < 0
   ·rw [if_pos c8] at H
    have c8b0 : decide (a1 < 0) = true := decide_eq_true c8
    clear c8
    (first | rw [c8b0] | (simp only [i64_w, i32_w]; rw [c8b0]) | skip)
    have H' := Aside0.mk H
    clear H
    go_wp2
    go_meet
    case rel => exact ⟨_, (true), (by first | rfl | (simp; done) | (simp [*]; done)), H', ⟨by first | omega | exact Nat.le_refl _⟩, ⟨by repeat (first | (with_reducible first | exact HB.out | apply below_alloc | apply pw_below_drewN | apply below_drew1) | exact HB.out)⟩⟩
   ·rw [if_neg c8] at H
    have c8b0 : decide (a1 < 0) = false := decide_eq_false c8
    clear c8
    (first | rw [c8b0] | (simp only [i64_w, i32_w]; rw [c8b0]) | skip)
    by_cases c9 : a1 ≥ 4
    ·rw [if_pos c9] at H
     have c9b0 : decide (4 ≤ a1) = true := decide_eq_true c9
     clear c9
     have H' := Aside0.mk H
     clear H
     go_wp2
     go_meet
     case rel => exact ⟨_, (true), (by first | rfl | (simp; done) | (simp [*]; done)), H', ⟨by first | omega | exact Nat.le_refl _⟩, ⟨by repeat (first | (with_reducible first | exact HB.out | apply below_alloc | apply pw_below_drewN | apply below_drew1) | exact HB.out)⟩⟩
    ·rw [if_neg c9] at H
     have c9b0 : decide (4 ≤ a1) = false := decide_eq_false c9
     clear c9
     replace H := Option.bind_eq_some_iff.mp H
     obtain ⟨t252, A100, H⟩ := H
     replace H : (generations_Add.j0 k l0 a1 a2 (!t252)) = some (r1, r2) := H
     have A10 := Aside0.mk A100
     clear A100
     have H' := Aside0.mk H
     clear H
     go_wp2_with (first | (go_at_call 38; (with_reducible refine (generations_isFrame.calls a2 t252 _ A10.out).mono ?_); rintro e w' ⟨rfl, ⟨nd, rfl⟩⟩))
     go_meet
     case rel => exact ⟨_, (!t252), (by first | rfl | (simp; done) | (simp [*]; done)), H', ⟨by first | omega | exact Nat.le_refl _⟩, ⟨by repeat (first | (with_reducible first | exact HB.out | apply below_alloc | apply pw_below_drewN | apply below_drew1) | exact HB.out)⟩⟩
  case rest =>
   clear HC6
   try clear c1
   try clear p2
   try clear c3
   try clear c5
   try clear c5b0
   try clear c5b1
   try clear c8
   try clear c8b0
   try clear c9
   try clear c9b0
   obtain ⟨kq, x27_5, rfl, HA, HJ5, HB⟩ := hcut
   cases kq with
   | zero => exact absurd HA.out (by simp [generations_Add.j0])
   | succ kj5 =>
    have H := HA.out
    clear HA
    simp only [generations_Add.j0] at H
    by_cases c11 : x27_5 = true
    ·subst c11
     have H1 : (some (([] : List (List Int)), 2)) = some (r1, r2) := by rw [if_pos rfl] at H; exact H
     clear H
     have H := H1
     clear H1
     simp only [Option.some.injEq, Prod.mk.injEq] at H
     obtain ⟨rfl, rfl⟩ := H
     go_wp2
     go_ret2
     exact ⟨_, by first | rfl | (simp [errW_none, errW_some] <;> rfl) | (simp [*, errW_none, errW_some] <;> rfl), by first | exact Kd.S_nil _ _ _ _ _ | exact Kd.N_nil _ _ _ _ _ | exact Kd.V_nil _ _ _ _ _ | exact Kd.Q_nil _ _ _ _ _ | exact Kd.R_nil _ _ _ _ _, by repeat (first | (with_reducible first | exact HB.out | apply below_alloc | apply pw_below_drewN | apply below_drew1) | exact HB.out)⟩
    ·replace c11 := Bool.eq_false_iff.mpr c11
     subst c11
     have H1 : ((generations_clone.f kj5 l0).bind fun t253 => (if 0 ≤ a1 then (if a1 < (t253.length : Int) then (if (rd_L4 t253 a1).length < 17592186044416 then (some ((t253.set (a1 : Int).toNat ((rd_L4 t253 a1) ++ [a2])), 0)) else (none)) else (none)) else (none))) = some (r1, r2) := by rw [if_neg (show ¬ (false = true) by decide)] at H; exact H
     clear H
     have H := H1
     clear H1
     replace H := Option.bind_eq_some_iff.mp H
     obtain ⟨t253, A120, H⟩ := H
     replace H : (if 0 ≤ a1 then (if a1 < (t253.length : Int) then (if (rd_L4 t253 a1).length < 17592186044416 then (some ((t253.set (a1 : Int).toNat ((rd_L4 t253 a1) ++ [a2])), 0)) else (none)) else (none)) else (none)) = some (r1, r2) := H
     have A12 := Aside0.mk A120
     clear A120
     by_cases c13 : 0 ≤ a1
     ·rw [if_pos c13] at H
      have c13b0 : decide (0 ≤ a1) = true := decide_eq_true c13
      clear c13
      by_cases c14 : a1 < (t253.length : Int)
      ·rw [if_pos c14] at H
       have c14b0 : decide (a1 < (t253.length : Int)) = true := decide_eq_true c14
       clear c14
       by_cases c15 : (rd_L4 t253 a1).length < 17592186044416
       ·rw [if_pos c15] at H
        have LMc15 := Aside0.mk c15
        clear c15
        obtain ⟨y257, hy257⟩ : ∃ y_ : List Int, y_ = ((rd_L4 t253 a1) ++ [a2]) := ⟨_, rfl⟩
        replace H : (some ((t253.set (a1 : Int).toNat y257), 0)) = some (r1, r2) := by first | (rw [hy257]; with_reducible exact H) | (have H2_ := (Option.bind_some _ _).symm.trans H; rw [hy257]; with_reducible exact H2_) | (have H2_ := (Option.bind_some _ _).symm.trans H; with_reducible exact H2_) | with_reducible exact H | (rw [hy257]; exact H) | exact H
        have Ny257 := Aside0.mk hy257
        clear hy257
        obtain ⟨y260, hy260⟩ : ∃ y_ : List (List Int), y_ = (t253.set (a1 : Int).toNat y257) := ⟨_, rfl⟩
        replace H : (some (y260, 0)) = some (r1, r2) := by first | (rw [hy260]; with_reducible exact H) | (have H2_ := (Option.bind_some _ _).symm.trans H; rw [hy260]; with_reducible exact H2_) | (have H2_ := (Option.bind_some _ _).symm.trans H; with_reducible exact H2_) | with_reducible exact H | (rw [hy260]; exact H) | exact H
        have Ny260 := Aside0.mk hy260
        clear hy260
        simp only [Option.some.injEq, Prod.mk.injEq] at H
        obtain ⟨rfl, rfl⟩ := H
        go_wp2_with (first | (go_at_call 39; (with_reducible refine (gen_ages0 0 (by omega) l0 HL0.out _ _ _ ?g39).mono ?_); (case g39 => exact Kd.C_below HR0.out HB.out); rintro e w40 ⟨rfl, hown, hb⟩; have n1_ := Aside0.mk (below_step (by repeat (first | (with_reducible first | exact HB.out | apply below_alloc | apply pw_below_drewN | apply below_drew1) | exact HB.out)) hb); clear HB; have HB := n1_; have HOW := Aside0.mk hown; clear n1_ hb hown) | (at_lookup; refine wpList_lookup_own_ok_int _ rfl _ _ 84 rfl 3 3 .i64 (Go.Maps.int_keyed Try.underlying3) Try.underlying84 Try.underlying3 (Try.zeroValue3 _) _ 0 _ rfl HOW.out _ _ rfl (Go.Maps.keyOf_int_mk Try.underlying3 (show (Lit.int .i64 a2).wf = true from WF2.out)) ?_; intro c39 hat39 hwc39; clear hat39 hwc39; simp only [show ∀ kl, Go.Maps.has (gD 0) kl = false from fun _ => rfl]) | ((with_reducible refine gate_callee (f := 40) rfl ?_); refine goesL_ (some 37) rfl rfl Try.func40 (by kernel_rfl) rfl #[.slice A0 l0.length c0] rfl (by (try simp only [List.map_toArray, List.map_cons, List.map_nil]); first | done | rfl | (simp only [List.length_drop, List.length_take]; rfl)) ?_; (with_reducible refine (generations_clone.calls kj5 _ _ l0 t253 _ ?side1 ?side2 A12.out).mono ?_); (case side1 => repeat (first | exact (Kd.C_below HR0.out HB.out) | (with_reducible refine Kd.C_alloc ?_ _) | (with_reducible refine Kd.C_drewN ?_ _) | (with_reducible refine Kd.C_drew ?_))); (case side2 => exact HC0.out); rintro e w17 ⟨v254, rfl, ho0, hb⟩; refine ⟨_, rfl, ?_⟩; have n0_ := Aside0.mk (Kd.S_lower ho0 (below_size (by repeat (first | (with_reducible first | exact HB.out | apply below_alloc | apply pw_below_drewN | apply below_drew1) | exact HB.out)))); have n1_ := Aside0.mk (below_step (by repeat (first | (with_reducible first | exact HB.out | apply below_alloc | apply pw_below_drewN | apply below_drew1) | exact HB.out)) hb); clear HB; have HO255 := n0_; have HB := n1_; clear n0_ n1_; (try clear hb); (try clear hb2); (try clear hk); (try clear hi); (try clear ho0); obtain ⟨Ao18, co18, eo18⟩ := Kd.S_slice HO255.out; subst eo18; have p256 : 0 ≤ (a1 : Int) := of_decide_eq_true (by first | (with_reducible assumption) | assumption); have q256 : a1 < (t253.length : Int) := of_decide_eq_true (by first | (with_reducible assumption) | assumption); obtain ⟨ad256, A256_0, c256_0, e256, hx256_0, hl256_0, hi256_0⟩ := at_L4 (Kd.S_reads' HO255.out).2.2 a1 p256 q256; cases e256; obtain ⟨ce256, hce256, hMe256, hcc256⟩ := Kd.S_get HO255.out [] a1 p256 (by first | exact q256 | exact of_decide_eq_true (by first | (with_reducible assumption) | assumption) | (have e_ := (Kd.S_reads' HO255.out).1; omega)); obtain ⟨ve256_0, rfl, ge256_0⟩ := hMe256; have hv256_0 := hcc256 0 _ rfl; rw [Nat.add_zero, show ((Kd.slice 3 (Kd.int .i64))).sz = 1 from rfl, Nat.mul_one] at hv256_0; replace hv256_0 := Option.some.inj (hv256_0.symm.trans hx256_0); rw [hv256_0] at ge256_0; have HL256_0 := Aside0.mk (show Kd.R (Kd.int .i64) 3 _ _ _ _ (rd_L4 t253 a1) from ge256_0); clear hv256_0 ge256_0; have HX256_0 := Aside0.mk hx256_0; clear hcc256 hce256; have HR256_0 := Aside0.mk hi256_0; have HC256_0 := Aside0.mk hl256_0; clear hi256_0 hl256_0; replace p256 := eq_true p256; replace q256 := eq_true q256; obtain ⟨go19, co19, eo19, gb19, gl19, cl19, HG19⟩ := Kd.S_form HO255.out (by have h_ : (a1 : Int) < ((t253.length : Int) : Int) := of_decide_eq_true (by first | (with_reducible assumption) | assumption); have h2_ : 0 ≤ (a1 : Int) := (of_decide_eq_true (by first | (with_reducible assumption) | assumption)); omega); (first | cases eo19 | (injection eo19 with ea_ en_ ec_; (first | subst ea_ | (injection ea_ with ea_; subst ea_)); subst ec_; clear en_)); have GB19 := Aside0.mk gb19; have GG19 := Aside0.mk HG19; clear gb19 gl19 HG19; (first | simp only [add_plain] at hx256_0 | skip); obtain ⟨oki19, ce19, hcl19, hM19, hcc19, _, _, hH19⟩ := Kd.S_elem HO255.out [] (a1 : Int) (of_decide_eq_true (by first | (with_reducible assumption) | assumption)) (by have h_ : (a1 : Int) < ((t253.length : Int) : Int) := of_decide_eq_true (by first | (with_reducible assumption) | assumption); first | exact h_ | (have e_ := (Kd.S_reads' HO255.out).1; omega) | simpa using h_); obtain ⟨ve19_0, rfl, ge19_0⟩ := hM19; have hv19 := hcc19 0 _ rfl; have hX19 := HX256_0.out; (try simp only [add_plain] at hX19); (try simp only [Nat.add_zero] at hv19); (try rw [show ((Kd.slice 3 (Kd.int .i64))).sz = 1 from rfl, Nat.mul_one] at hv19); replace hv19 := Option.some.inj (hv19.symm.trans hX19); subst hv19; clear hX19 hcc19 hcl19; have UU19 := Aside0.mk (show Kd.R (Kd.int .i64) 3 _ w.heap.size oki19 (.slice A256_0 (rd_L4 t253 a1).length c256_0) (rd_L4 t253 a1) from ge19_0); have HH19 := Aside0.mk hH19; have HN19 := Aside0.mk (Kd.S_reads' HO255.out).1; clear hH19 ge19_0) | ((with_reducible refine gate_builtin (b := .append) (xs := #[.tmp 43, .tmp 45]) rfl ?_); at_builtin; refine Kd.R_append (Kd.int .i64) (w0 := w) w.heap.size rfl (.tmp 43) (.tmp 45) 30 3 (.int .i64 0) 8 rfl Try.underlying30 info3 rfl (by decide) (by omega) (.slice A256_0 (rd_L4 t253 a1).length c256_0) (rd_L4 t253 a1) a2 [.int .i64 a2] (fun k_ => oki19 k_ ∨ ((fun _ => True)) k_ ∧ w17.heap.size ≤ k_) (fun _ => False) rfl rfl ?aP (fun _ hk => hk.elim) ?aF ?aO ?aB ?aS ?aL ?_; (case aP => exact rfl); (case aB => exact (by repeat (first | (with_reducible first | exact HB.out | apply below_alloc | apply pw_below_drewN | apply below_drew1) | exact HB.out))); (case aF => exact (fun k_ hk => .inr ⟨trivial, hk⟩)); (case aO => exact (by (with_reducible repeat (first | apply Kd.R_alloc | apply Kd.R_drewN | apply Kd.R_drew)); exact Kd.R_mono UU19.out (fun _ hk => .inl hk))); (case aS => exact (below_size (by repeat (first | (with_reducible first | exact HB.out | apply below_alloc | apply pw_below_drewN | apply below_drew1) | exact HB.out)))); (case aL => have := LMc15.out; omega); intro v258 w20 ho hb hg hat; rw [← Ny257.out] at ho; have n0_ := Aside0.mk (hb); have n1_ := Aside0.mk (Kd.H_grown (Kd.H_widen (by repeat (first | exact HH19.out | refine Kd.H_alloc ?_ _ | refine Kd.H_drewN ?_ _ | refine Kd.H_drew ?_))) hg (fun k_ e_ => .inl (UU19.out.1 k_ e_))); have n2_ := Aside0.mk (ho); clear HB; clear HH19; clear HO255; clear UU19; clear HL256_0; have HB := n0_; have HH19 := n1_; have HO259 := n2_; clear n0_ n1_ n2_; clear ho hb hg hat; have p16 : 0 ≤ (a1 : Int) := of_decide_eq_true (by first | (with_reducible assumption) | assumption); have q16 : (a1 : Int) < ((t253.length : Int) : Int) := of_decide_eq_true (by first | (with_reducible assumption) | assumption); replace p16 := eq_true p16; replace q16 := eq_true q16; obtain ⟨Ao23, co23, eo23⟩ := Kd.R_slice HO259.out; subst eo23; obtain ⟨_, _, hraw21, _, _, hcc21, _⟩ := Kd.H_raw HH19.out (of_decide_eq_true (by first | (with_reducible assumption) | assumption)) (by have h_ : (a1 : Int) < ((t253.length : Int) : Int) := of_decide_eq_true (by first | (with_reducible assumption) | assumption); first | exact h_ | (have e_ := (HN19.out); omega) | simpa using h_); obtain ⟨_, hfr21⟩ := Kd.H_at HH19.out (of_decide_eq_true (by first | (with_reducible assumption) | assumption)) (by have h_ : (a1 : Int) < ((t253.length : Int) : Int) := of_decide_eq_true (by first | (with_reducible assumption) | assumption); first | exact h_ | (have e_ := (HN19.out); omega) | simpa using h_); have hx21_0 := hcc21 0 _ rfl; have hf21_0 := hfr21 0; (try simp only [Nat.add_zero] at hx21_0 hf21_0); (try rw [show ((Kd.slice 3 (Kd.int .i64))).sz = 1 from rfl, Nat.mul_one] at hx21_0); (try rw [show ((Kd.slice 3 (Kd.int .i64))).sz = 1 from rfl, Nat.mul_one] at hf21_0); have HP21 := Kd.S_seg0 HH19.out (of_decide_eq_true (by first | (with_reducible assumption) | assumption)) (by have h_ : (a1 : Int) < ((t253.length : Int) : Int) := of_decide_eq_true (by first | (with_reducible assumption) | assumption); first | exact h_ | (have e_ := (HN19.out); omega) | simpa using h_) (seg := [.slice Ao23 y257.length co23]) (j := 0) (show 1 ≤ 1 from by decide) (x' := y257) (Kd.M_row HO259.out) (fun _ hk => hk); (try simp only [show ((Kd.slice 3 (Kd.int .i64))).sz = 1 from rfl, Nat.mul_one, Nat.add_zero] at HP21); clear hcc21 hfr21) | ((with_reducible refine gate_store (t := 30) (p := 47) rfl ?_); refine store_event (t := 30) (p := 47) (v := ?vo_w22) (w1 := (w20.setCell ⟨go19, (a1 : Int).toNat, none⟩ (.slice Ao23 y257.length co23))) ?hg ?ho ?hn ?hr ?_; (case ho => rfl); (case hg => rfl); (case hn => rfl); (case hr => first | (go_simp; done) | (go_simp; rfl)); intro w22 hw; have hg : w20.grownBy w22 (some go19) := (by rw [hw]; exact HP21.2); have hp_ : Kd.S (Kd.slice 3 (Kd.int .i64)) 30 w22 w.heap.size (fun _ => True) (.slice (some ⟨go19, 0, none⟩) t253.length co18) y260 := (by rw [hw, Ny260.out]; exact HP21.1); clear HP21; have n0_ := Aside0.mk ((by rw [hw]; exact below_set HB.out GB19.out : Below w.heap.size w w22)); have n1_ := Aside0.mk (hp_); clear HB; clear HO259; clear HH19; have HB := n0_; have HO255 := n1_; clear n0_ n1_; clear hg hw hp_ hraw21))
        go_ret2
        exact ⟨_, by first | rfl | (simp [errW_none, errW_some] <;> rfl) | (simp [*, errW_none, errW_some] <;> rfl), by (with_reducible repeat (first | apply Kd.S_alloc | apply Kd.S_drewN | apply Kd.S_drew)); exact HO255.out, by repeat (first | (with_reducible first | exact HB.out | apply below_alloc | apply pw_below_drewN | apply below_drew1) | exact HB.out)⟩
       ·rw [if_neg c15] at H
        exact absurd H (by simp)
      ·rw [if_neg c14] at H
       exact absurd H (by simp)
     ·rw [if_neg c13] at H
      exact absurd H (by simp)
 ·rw [if_neg c5] at H
  have c5b0 : (t251 == 0) = false := beq_eq_false_iff_ne.mpr c5
  have c5b1 : (t251 != 0) = true := bne_iff_ne.mpr c5
  simp only [Option.some.injEq, Prod.mk.injEq] at H
  obtain ⟨rfl, rfl⟩ := H
  go_enter Try.func18, Try.ntmps18
  go_wp2_with (first | ((with_reducible refine gate_callee (f := 37) rfl ?_); refine goesL_ (some 13) rfl rfl Try.func37 (by kernel_rfl) rfl #[.slice A0 l0.length c0] rfl (by (try simp only [List.map_toArray, List.map_cons, List.map_nil]); first | done | rfl | (simp only [List.length_drop, List.length_take]; rfl)) ?_; (with_reducible refine (generations_Check.calls _ _ l0 t251 _ ?side1 ?side2 A4.out).mono ?_); (case side1 => repeat (first | exact HR0.out | (with_reducible refine Kd.C_alloc ?_ _) | (with_reducible refine Kd.C_drewN ?_ _) | (with_reducible refine Kd.C_drew ?_))); (case side2 => exact HC0.out); rintro e w24 ⟨rfl, hb⟩; refine ⟨_, rfl, ?_⟩; have n0_ := Aside0.mk (below_step (by repeat (first | (with_reducible first | exact HB.out | apply below_alloc | apply pw_below_drewN | apply below_drew1) | exact HB.out)) hb); clear HB; have HB := n0_; clear n0_; (try clear hb); (try clear hb2); (try clear hk); (try clear hi)))
  go_ret2
  exact ⟨_, by first | rfl | (simp [errW_none, errW_some] <;> rfl) | (simp [*, errW_none, errW_some] <;> rfl), by first | exact Kd.S_nil _ _ _ _ _ | exact Kd.N_nil _ _ _ _ _ | exact Kd.V_nil _ _ _ _ _ | exact Kd.Q_nil _ _ _ _ _ | exact Kd.R_nil _ _ _ _ _, by repeat (first | (with_reducible first | exact HB.out | apply below_alloc | apply pw_below_drewN | apply below_drew1) | exact HB.out)⟩
def generations_New.f  : Option ((List (List Int))) := if 4 ≤ 11728124029610 then (some (List.replicate 4 [])) else (none)
set_option maxHeartbeats 8000000 in
set_option maxRecDepth 100000 in
theorem generations_New.calls  (r : List (List Int)) (w : World) (h : generations_New.f  = some r) :
  Calls Try.prog 19 #[] w fun e w' => ∃ v0_ : Value, e = .returned (v0_) ∧ Kd.S (Kd.slice 3 (Kd.int .i64)) 30 w' w.heap.size (fun _ => True) v0_ r ∧ Below w.heap.size w w' := by
 have HB := Aside0.mk (Below.refl w.heap.size w)
 have H : (if 4 ≤ 11728124029610 then (some (List.replicate 4 [])) else (none)) = some r := h
 clear h
 by_cases c1 : 4 ≤ 11728124029610
 ·rw [if_pos c1] at H
  have c1b0 := eq_true c1
  have c1b1 : decide (4 ≤ 11728124029610) = true := decide_eq_true c1
  clear c1
  obtain ⟨y232, hy232⟩ : ∃ y_ : List (List Int), y_ = (List.replicate 4 []) := ⟨_, rfl⟩
  replace H : (some y232) = some r := by first | (rw [hy232]; with_reducible exact H) | (have H2_ := (Option.bind_some _ _).symm.trans H; rw [hy232]; with_reducible exact H2_) | (have H2_ := (Option.bind_some _ _).symm.trans H; with_reducible exact H2_) | with_reducible exact H | (rw [hy232]; exact H) | exact H
  have Ny232 := Aside0.mk hy232
  clear hy232
  obtain rfl := Option.some.inj H
  go_enter Try.func19, Try.ntmps19
  go_wp2_with (first | ((with_reducible refine gate_dst (N := 1) rfl ?_); refine Kd.S_make (Kd.slice 3 (Kd.int .i64)) _ 30 rfl (N := 1) rfl 55 _ _ rfl 4 rfl rfl Try.underlying55 (.slice none 0 0) 24 info30 rfl (by decide) (by omega) [] (ok := fun _ => True) (okp := fun _ => True) ⟨_, rfl, Kd.R_nil _ _ _ _ _⟩ (fun _ hk => hk) trivial (by omega) (by omega) (Below.refl _ _) (Nat.le_refl _) ?_; intro v233 w2 ho3 hb hg_ hnew_; clear hg_ hnew_; (first | rw [← Ny232.out] at ho3 | (simp only [Int.reduceToNat] at ho3; rw [← Ny232.out] at ho3)); have n0_ := Aside0.mk (Kd.S_lower ho3 (below_size (by repeat (first | (with_reducible first | exact HB.out | apply below_alloc | apply pw_below_drewN | apply below_drew1) | exact HB.out)))); have n1_ := Aside0.mk (below_step (by repeat (first | (with_reducible first | exact HB.out | apply below_alloc | apply pw_below_drewN | apply below_drew1) | exact HB.out)) hb); clear HB; have HO234 := n0_; have HB := n1_; clear n0_ n1_; clear hb ho3))
  go_ret
  exact ⟨_, by first | rfl | (simp [errW_none, errW_some] <;> rfl) | (simp [*, errW_none, errW_some] <;> rfl), by (with_reducible repeat (first | apply Kd.S_alloc | apply Kd.S_drewN | apply Kd.S_drew)); exact HO234.out, by repeat (first | (with_reducible first | exact HB.out | apply below_alloc | apply pw_below_drewN | apply below_drew1) | exact HB.out)⟩
 ·rw [if_neg c1] at H
  exact absurd H (by simp)
theorem gAt1 : (gD 1).atKey (.int .i64 7) (.lit (.int .i64 0)) = .lit (.int .i64 0) := Go.Maps.atKey_put_same Go.Maps.isMap_empty (show WideAt.IsKeyLit (.int .i64 7) from trivial) _ _
def generations_Where.f (l0 : List (List Int)) (a1 : Int) : Option Int := if l0 = gL 1 ∧ a1 = 7 then some 0 else none
set_option maxHeartbeats 8000000 in
set_option maxRecDepth 100000 in
theorem generations_Where.calls (A0 : Option Addr) (c0 : Nat) (l0 : List (List Int)) (a1 : Int) (r : Int) (w : World) (hr0 : Kd.C (Kd.slice 3 (Kd.int .i64)) w A0 l0.length l0) (hc0 : l0.length ≤ c0) (h : generations_Where.f l0 a1 = some r) :
  Calls Try.prog 20 #[.slice A0 l0.length c0, .int .i64 a1] w fun e w' => e = .returned (.int .i64 r) ∧ Below w.heap.size w w' := by
 unfold generations_Where.f at h
 by_cases hla : l0 = gL 1 ∧ a1 = 7
 case neg => rw [if_neg hla] at h; cases h
 rw [if_pos hla] at h
 obtain rfl := Option.some.inj h
 obtain ⟨hl0, rfl⟩ := hla
 have HL0 := Aside0.mk hl0
 have HCK := Aside0.mk (show generations_Check.f l0 = some 0 by unfold generations_Check.f; rw [if_pos (.inr hl0)])
 have HR0 := Aside0.mk hr0
 have HC0 := Aside0.mk hc0
 clear hr0 hc0 h hl0
 have HB := Aside0.mk (Below.refl w.heap.size w)
 go_enter Try.func20, Try.ntmps20
 go_wp2_with (first | (go_at_call 37; (with_reducible refine (generations_Check.calls _ _ l0 0 _ ?s1 ?s2 HCK.out).mono ?_); (case s1 => exact HR0.out); (case s2 => exact HC0.out); rintro e w1 ⟨rfl, hb⟩; have n1_ := Aside0.mk (below_step HB.out hb); have n2_ := Aside0.mk (Kd.C_below HR0.out (hb.mono HB.out.size)); clear HB HR0; have HB := n1_; have HR0 := n2_; clear n1_ n2_ hb) | (go_at_call 39; (with_reducible refine (gen_ages0 1 (by omega) l0 HL0.out _ _ _ HR0.out).mono ?_); rintro e w40 ⟨rfl, hown, hb⟩; have n1_ := Aside0.mk (below_step HB.out hb); clear HB; have HB := n1_; have HOW := Aside0.mk hown; clear n1_ hb hown) | (at_lookup; refine wpList_lookup_own_ok_int _ rfl _ _ 84 rfl 3 3 .i64 (Go.Maps.int_keyed Try.underlying3) Try.underlying84 Try.underlying3 (Try.zeroValue3 _) _ 1 _ rfl HOW.out _ _ rfl (Go.Maps.keyOf_int_mk Try.underlying3 (show (Lit.int .i64 7).wf = true by decide)) ?_; intro c39 hat39 hwc39; have h39 := gAt1.symm.trans hat39; (obtain rfl : (0 : Int) = c39 := by injection h39 with h39; injection h39); clear h39 hat39 hwc39; simp only [show Go.Maps.has (gD 1) (.int .i64 7) = true from rfl]))
 go_ret
 exact ⟨rfl, HB.out⟩
def accounts_Own.f (k : Nat) (l0 : List (S53)) (a1 : Int) : Option (Int) := (accounts_is.f k l0 a1).bind fun t235 => (if t235 = true then ((accounts_own.f k l0).bind fun t236 => (if 0 ≤ a1 then (if a1 < (t236.length : Int) then (some (rd t236 a1)) else (none)) else (none))) else (some (-1)))
theorem accounts_Own.mono : ∀ a0 a1 k, LeO (accounts_Own.f k a0 a1) (accounts_Own.f (k + 1) a0 a1) := by
 intro a0 a1 k
 unfold accounts_Own.f
 repeat' first
   | (with_reducible exact accounts_is.mono _ _ _)
   | (with_reducible exact accounts_own.mono _ _)
   | (with_reducible exact LeO.refl _)
   | (with_reducible exact LeO.none _)
   | (with_reducible refine LeO.ite ?_ ?_)
   | (with_reducible refine LeO.bind ?_ (fun _ => ?_))
   | exact accounts_is.mono _ _ _
   | exact accounts_own.mono _ _
   | exact LeO.none _
   | refine LeO.ite ?_ ?_
   | refine LeO.bind ?_ (fun _ => ?_)
set_option maxHeartbeats 8000000 in
set_option maxRecDepth 100000 in
theorem accounts_Own.calls (k : Nat) (A0 : Option Addr) (c0 : Nat) (l0 : List (S53)) (a1 : Int) (r : Int) (w : World) (hr0 : Kd.C k53 w A0 l0.length l0) (hc0 : l0.length ≤ c0) (h : accounts_Own.f k l0 a1 = some r) :
  Calls Try.prog 42 #[.slice A0 l0.length c0, .int .i64 a1] w fun e w' => e = .returned (.int .i64 r) ∧ Below w.heap.size w w' := by
 have HR0 := Aside0.mk hr0
 have HC0 := Aside0.mk hc0
 clear hr0 hc0
 have HB := Aside0.mk (Below.refl w.heap.size w)
 have H : ((accounts_is.f k l0 a1).bind fun t235 => (if t235 = true then ((accounts_own.f k l0).bind fun t236 => (if 0 ≤ a1 then (if a1 < (t236.length : Int) then (some (rd t236 a1)) else (none)) else (none))) else (some (-1)))) = some r := h
 clear h
 replace H := Option.bind_eq_some_iff.mp H
 obtain ⟨t235, A30, H⟩ := H
 replace H : (if t235 = true then ((accounts_own.f k l0).bind fun t236 => (if 0 ≤ a1 then (if a1 < (t236.length : Int) then (some (rd t236 a1)) else (none)) else (none))) else (some (-1))) = some r := H
 have A3 := Aside0.mk A30
 clear A30
 by_cases c4 : t235 = true
 ·subst c4
  have H1 : ((accounts_own.f k l0).bind fun t236 => (if 0 ≤ a1 then (if a1 < (t236.length : Int) then (some (rd t236 a1)) else (none)) else (none))) = some r := by rw [if_pos rfl] at H; exact H
  clear H
  have H := H1
  clear H1
  replace H := Option.bind_eq_some_iff.mp H
  obtain ⟨t236, A50, H⟩ := H
  replace H : (if 0 ≤ a1 then (if a1 < (t236.length : Int) then (some (rd t236 a1)) else (none)) else (none)) = some r := H
  have A5 := Aside0.mk A50
  clear A50
  by_cases c6 : 0 ≤ a1
  ·rw [if_pos c6] at H
   have c6b0 : decide (0 ≤ a1) = true := decide_eq_true c6
   clear c6
   by_cases c7 : a1 < (t236.length : Int)
   ·rw [if_pos c7] at H
    have c7b0 : decide (a1 < (t236.length : Int)) = true := decide_eq_true c7
    clear c7
    obtain rfl := Option.some.inj H
    go_enter Try.func42, Try.ntmps42
    go_wp2_with (first | ((with_reducible refine gate_callee (f := 65) rfl ?_); refine goesL_ (some 7) rfl rfl Try.func65 (by kernel_rfl) rfl #[.slice A0 l0.length c0, .int .i64 a1] rfl (by (try simp only [List.map_toArray, List.map_cons, List.map_nil]); first | done | rfl | (simp only [List.length_drop, List.length_take]; rfl)) ?_; (with_reducible refine (accounts_is.calls k _ _ l0 a1 true _ ?side1 ?side2 A3.out).mono ?_); (case side1 => repeat (first | exact HR0.out | (with_reducible refine Kd.C_alloc ?_ _) | (with_reducible refine Kd.C_drewN ?_ _) | (with_reducible refine Kd.C_drew ?_))); (case side2 => exact HC0.out); rintro e w8 ⟨rfl, hb⟩; refine ⟨_, rfl, ?_⟩; have n0_ := Aside0.mk (below_step (by repeat (first | (with_reducible first | exact HB.out | apply below_alloc | apply pw_below_drewN | apply below_drew1) | exact HB.out)) hb); clear HB; have HB := n0_; clear n0_; (try clear hb); (try clear hb2); (try clear hk); (try clear hi)) | ((with_reducible refine gate_callee (f := 49) rfl ?_); refine goesL_ (some 10) rfl rfl Try.func49 (by kernel_rfl) rfl #[.slice A0 l0.length c0] rfl (by (try simp only [List.map_toArray, List.map_cons, List.map_nil]); first | done | rfl | (simp only [List.length_drop, List.length_take]; rfl)) ?_; (with_reducible refine (accounts_own.calls k _ _ l0 t236 _ ?side1 ?side2 A5.out).mono ?_); (case side1 => repeat (first | exact (Kd.C_below HR0.out HB.out) | (with_reducible refine Kd.C_alloc ?_ _) | (with_reducible refine Kd.C_drewN ?_ _) | (with_reducible refine Kd.C_drew ?_))); (case side2 => exact HC0.out); rintro e w9 ⟨v237, rfl, ho0, hb⟩; refine ⟨_, rfl, ?_⟩; have n0_ := Aside0.mk (Kd.R_lower ho0 (below_size (by repeat (first | (with_reducible first | exact HB.out | apply below_alloc | apply pw_below_drewN | apply below_drew1) | exact HB.out)))); have n1_ := Aside0.mk (below_step (by repeat (first | (with_reducible first | exact HB.out | apply below_alloc | apply pw_below_drewN | apply below_drew1) | exact HB.out)) hb); clear HB; have HO238 := n0_; have HB := n1_; clear n0_ n1_; (try clear hb); (try clear hb2); (try clear hk); (try clear hi); (try clear ho0); obtain ⟨Ao10, co10, eo10⟩ := Kd.R_slice HO238.out; subst eo10; have p239 : 0 ≤ (a1 : Int) := of_decide_eq_true (by first | (with_reducible assumption) | assumption); have q239 : a1 < (t236.length : Int) := of_decide_eq_true (by first | (with_reducible assumption) | assumption); obtain ⟨ad239, e239, hx239_0⟩ := Kd.at_int (Kd.R_reads' HO238.out).2.2 a1 p239 q239; cases e239; replace p239 := eq_true p239; replace q239 := eq_true q239))
    go_ret
    exact ⟨by first | rfl | (simp [errW_none, errW_some] <;> rfl) | (simp [*, errW_none, errW_some] <;> rfl), by repeat (first | (with_reducible first | exact HB.out | apply below_alloc | apply pw_below_drewN | apply below_drew1) | exact HB.out)⟩
   ·rw [if_neg c7] at H
    exact absurd H (by simp)
  ·rw [if_neg c6] at H
   exact absurd H (by simp)
 ·replace c4 := Bool.eq_false_iff.mpr c4
  subst c4
  have H1 : (some (-1)) = some r := by rw [if_neg (show ¬ (false = true) by decide)] at H; exact H
  clear H
  have H := H1
  clear H1
  obtain rfl := Option.some.inj H
  go_enter Try.func42, Try.ntmps42
  go_wp2_with (first | ((with_reducible refine gate_callee (f := 65) rfl ?_); refine goesL_ (some 7) rfl rfl Try.func65 (by kernel_rfl) rfl #[.slice A0 l0.length c0, .int .i64 a1] rfl (by (try simp only [List.map_toArray, List.map_cons, List.map_nil]); first | done | rfl | (simp only [List.length_drop, List.length_take]; rfl)) ?_; (with_reducible refine (accounts_is.calls k _ _ l0 a1 false _ ?side1 ?side2 A3.out).mono ?_); (case side1 => repeat (first | exact HR0.out | (with_reducible refine Kd.C_alloc ?_ _) | (with_reducible refine Kd.C_drewN ?_ _) | (with_reducible refine Kd.C_drew ?_))); (case side2 => exact HC0.out); rintro e w11 ⟨rfl, hb⟩; refine ⟨_, rfl, ?_⟩; have n0_ := Aside0.mk (below_step (by repeat (first | (with_reducible first | exact HB.out | apply below_alloc | apply pw_below_drewN | apply below_drew1) | exact HB.out)) hb); clear HB; have HB := n0_; clear n0_; (try clear hb); (try clear hb2); (try clear hk); (try clear hi)))
  go_ret
  exact ⟨by first | rfl | (simp [errW_none, errW_some] <;> rfl) | (simp [*, errW_none, errW_some] <;> rfl), by repeat (first | (with_reducible first | exact HB.out | apply below_alloc | apply pw_below_drewN | apply below_drew1) | exact HB.out)⟩
end Go.Proofs.Ytpccpkpljlafcaa.PTopSharesKept
