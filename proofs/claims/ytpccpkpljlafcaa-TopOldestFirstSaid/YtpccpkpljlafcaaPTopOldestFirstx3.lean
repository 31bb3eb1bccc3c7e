-- Printed by a copy of the kit's printer that this session has patched (wip/tools/patch_print.py): the session's own text. Lean checks it.
import Derived.Test.YtpccpkpljlafcaaPTopOldestFirstx0
import Derived.Test.YtpccpkpljlafcaaPTopOldestFirstx2
namespace Go.Proofs.Ytpccpkpljlafcaa.PTopOldestFirst
open Go.RowKit Go.Proofs.YtpccpkpljlafcaaW.PrintWords Go.Proofs.YtpccpkpljlafcaaW.PrintLast Go.Proofs.YtpccpkpljlafcaaW.PrintMore
attribute [local go_sem] max2_int min2_int max_two min_two max_three min_three max_four min_four   -- for this text's walks alone
set_option linter.unusedVariables false
set_option linter.unusedSimpArgs false

/-! ### writeback_Order: function 14 -/
section
open Go.RowKit
variable {P : Program} {ops : Array Oper} {rest : List Oper} {o : Oper} {a : Act} {Q : Exit → Act → World → Prop}
theorem drawn_drewN (w : World) (n : Nat) : (w.drewN n).drawn = w.drawn + n := rfl
theorem drawn_drew (w : World) : w.drew.drawn = w.drawn + 1 := rfl
theorem box_eventD {W : World} (hgd : o.guard = none) {N : Tmp} (_hd : o.dst = some N) {cs : Array Value} {t : TypeId}
    (hrun : (execOp a.eval o).run P W = .ok (.value (.pointer (some ⟨W.heap.size, 0, none⟩))) (W.alloc (.cells cs t (0, 0))))
    (h : ∀ g, g = W.heap.size → ∀ w1, w1.heap[g]? = some (.cells cs t (0, 0)) → Below W.heap.size W w1 → w1.drawn = W.drawn → wpList P ops Q rest (a.put o.dst (.pointer (some ⟨g, 0, none⟩))) w1) : wpList P ops Q (o :: rest) a W :=
  Kd.event_run hgd hrun (h _ rfl _ (blk_new W _) (below_alloc (Below.refl _ _) _) rfl)
theorem lit_ok {α : Type} (d : Kd α) {w0 W : World} (base e : Nat) {xs : List α} {inner : List Value} {ok okp : Nat → Prop}
    (hrep : Reps (d.M W base okp) d.sz xs inner) (hok : ∀ k, okp k → ok k) (hfresh : ok W.heap.size) (HB : Below base w0 W) (hbase : base ≤ W.heap.size) (hm : xs.length ≤ 9223372036854775807) :
    d.R e (W.alloc (.cells inner.toArray e)) base ok (.slice (some ⟨W.heap.size, 0, none⟩) xs.length xs.length) xs := by
  refine ⟨fun k hk => ?_, inner, ?_, ?_⟩
  · have : W.heap.size = k := by simpa [Value.ownBlock] using hk
    subst this
    exact hfresh
  · have h2 := World.ownsRow_lit (base := base) (e := e) (size := d.sz) W inner.toArray xs.length hbase (by simpa [maxLen] using hm) (by simpa using hrep.1)
    simpa using h2
  · refine hrep.imp_ (fun p c hp => d.M_mono (fun k hk => ⟨hok k hk.1, fun he => ?_⟩) (Kd.M_below (d.M_bound hp) (below_alloc (Below.refl _ _) _)))
    have h3 : k = W.heap.size := by simpa [Value.ownBlock] using he
    have := hk.2.2.1
    omega
theorem lit_stepD {α : Type} (d : Kd α) {Kc : Act → World → Prop} {w0 W : World} (base e : Nat) (hw : Region.wanted o (yielded ops a.tmps) = true) {N : Tmp} (_hd : o.dst = some N) {xs : List α} {inner : List Value} {ok okp : Nat → Prop}
    (hrun : (execOp a.eval o).run P W = .ok (.value (.slice (some ⟨W.heap.size, 0, none⟩) xs.length xs.length)) (W.alloc (.cells inner.toArray e)))
    (hrep : Reps (d.M W base okp) d.sz xs inner) (hok : ∀ k, okp k → ok k) (hfresh : ok W.heap.size) (HB : Below base w0 W) (hbase : base ≤ W.heap.size) (hm : xs.length ≤ 9223372036854775807)
    (h : ∀ v1 w1, d.R e w1 base ok v1 xs → Below base w0 w1 → W.grownBy w1 none → (∃ b, v1.ownBlock = some b ∧ W.heap.size ≤ b) → w1.drawn = W.drawn → Kc (a.put o.dst v1) w1) : if Region.wanted o (yielded ops a.tmps) = true then Oper.wp P o a W Kc Q else Kc (a.put o.dst undef) W :=
  event_step hw hrun (h _ _ (lit_ok d base e hrep hok hfresh HB hbase hm) (HB.alloc hbase _) (World.grownBy_alloc W _ none) ⟨W.heap.size, by simp [Value.ownBlock], Nat.le_refl _⟩ rfl)
end
/-- Nothing but new blocks and draws. -/
theorem grow_of_below {w w' : World} (hb : Below w.heap.size w w') (hd : w.drawn ≤ w'.drawn) : ∃ q os, w' = Go.Sort.grow (w.drewN q) os := by
  refine ⟨w'.drawn - w.drawn, w'.heap.extract w.heap.size w'.heap.size, ?_⟩
  have hh : w'.heap = w.heap ++ w'.heap.extract w.heap.size w'.heap.size := by
    apply Array.ext_getElem?
    intro k
    have h2 := hb.size
    rw [Array.getElem?_append]
    by_cases hk : k < w.heap.size
    · rw [if_pos hk]
      exact hb.block k hk
    · rw [if_neg hk, Array.getElem?_extract]
      by_cases hk2 : k - w.heap.size < w'.heap.size - w.heap.size
      · rw [if_pos (by omega)]
        congr 1
        omega
      · rw [if_neg (by omega)]
        exact Array.getElem?_eq_none (by omega)
  have h1 := hb.os
  have h2 := hb.tape
  have h3 := hb.output
  cases w'
  cases w
  simp only [Go.Sort.grow, World.drewN] at *
  subst h1 h2 h3
  rw [← hh]
  congr 1
  omega
set_option maxHeartbeats 8000000 in
set_option maxRecDepth 100000 in
theorem compareG.calls (k : Nat) (a0_0 : Int) (a0_1 : Int) (a0_2 : Int) (a1_0 : Int) (a1_1 : Int) (a1_2 : Int) (r : Int) (w : World) (h : writeback_compare.f k a0_0 a0_1 a0_2 a1_0 a1_1 a1_2 = some r) :
    Calls Try.prog 34 #[.agg #[.int .i64 a0_0, .int .i64 a0_1, .int .i64 a0_2], .agg #[.int .i64 a1_0, .int .i64 a1_1, .int .i64 a1_2]] w fun e w' => e = .returned (.int .i64 r) ∧ Below w.heap.size w w' ∧ w.drawn ≤ w'.drawn := by
  have hu50 := Try.underlying50
  have HB := Aside0.mk (Below.refl w.heap.size w)
  have HD := Aside0.mk (Nat.le_refl w.drawn)
  have H : ((cmp_Compare_int.f a0_2 a1_2).bind fun t114 => ((cmp_Compare_int.f a0_0 a1_0).bind fun t115 => ((cmp_Compare_int.f a0_1 a1_1).bind fun t116 => ((cmp_Or_int.f k (([t114, t115, t116] : List Int))).bind fun t120 => (some t120))))) = some r := h
  clear h
  replace H := Option.bind_eq_some_iff.mp H
  obtain ⟨t114, A30, H⟩ := H
  replace H : ((cmp_Compare_int.f a0_0 a1_0).bind fun t115 => ((cmp_Compare_int.f a0_1 a1_1).bind fun t116 => ((cmp_Or_int.f k (([t114, t115, t116] : List Int))).bind fun t120 => (some t120)))) = some r := H
  have A3 := Aside0.mk A30
  clear A30
  replace H := Option.bind_eq_some_iff.mp H
  obtain ⟨t115, A40, H⟩ := H
  replace H : ((cmp_Compare_int.f a0_1 a1_1).bind fun t116 => ((cmp_Or_int.f k (([t114, t115, t116] : List Int))).bind fun t120 => (some t120))) = some r := H
  have A4 := Aside0.mk A40
  clear A40
  replace H := Option.bind_eq_some_iff.mp H
  obtain ⟨t116, A50, H⟩ := H
  replace H : ((cmp_Or_int.f k (([t114, t115, t116] : List Int))).bind fun t120 => (some t120)) = some r := H
  have A5 := Aside0.mk A50
  clear A50
  obtain ⟨y117, hy117⟩ : ∃ y_ : List Int, y_ = (([t114, t115, t116] : List Int)) := ⟨_, rfl⟩
  replace H : ((cmp_Or_int.f k y117).bind fun t120 => (some t120)) = some r := by first | (rw [hy117]; with_reducible exact H) | (have H2_ := (Option.bind_some _ _).symm.trans H; rw [hy117]; with_reducible exact H2_) | (have H2_ := (Option.bind_some _ _).symm.trans H; with_reducible exact H2_) | with_reducible exact H | (rw [hy117]; exact H) | exact H
  have Ny117 := Aside0.mk hy117
  clear hy117
  replace H := Option.bind_eq_some_iff.mp H
  obtain ⟨t120, A60, H⟩ := H
  replace H : (some t120) = some r := H
  have A6 := Aside0.mk A60
  clear A60
  obtain rfl := Option.some.inj H
  go_enter Try.func34, Try.ntmps34
  try go_wp2_with (first | ((with_reducible refine gate_dst (N := 2) rfl ?_); refine box_eventD ?hg (N := 2) ?hd (cs := #[.int .i64 a0_0, .int .i64 a0_1, .int .i64 a0_2]) (t := 50) ?hr ?_; (case hd => rfl); (case hg => rfl); (case hr => first | (go_simp; done) | (go_simp; rfl)); intro gb112 hg w7 hbox hb hdr_; have m0_ := Aside0.mk (Nat.le_trans HD.out (Nat.le_of_eq hdr_.symm)); clear HD; have HD := m0_; clear m0_ hdr_; have n0_ := Aside0.mk (below_step (by repeat (first | (with_reducible first | exact HB.out | apply below_alloc | apply pw_below_drewN | apply below_drew1) | exact HB.out)) hb); have n1_ := Aside0.mk (hbox); have n2_ := Aside0.mk ((by rw [hg]; exact (below_size (by repeat (first | (with_reducible first | exact HB.out | apply below_alloc | apply pw_below_drewN | apply below_drew1) | exact HB.out))) : w.heap.size ≤ gb112)); have n3_ := Aside0.mk ((by rw [hg]; exact (below_size (by repeat (first | (with_reducible first | exact HB.out | apply below_alloc | apply pw_below_drewN | apply below_drew1) | exact HB.out))) : w.heap.size ≤ gb112)); clear HB; have HB := n0_; have BK112 := n1_; have GW112 := n2_; have GE112 := n3_; clear n0_ n1_ n2_ n3_; clear hb hbox hg) | ((with_reducible refine gate_dst (N := 3) rfl ?_); refine box_eventD ?hg (N := 3) ?hd (cs := #[.int .i64 a1_0, .int .i64 a1_1, .int .i64 a1_2]) (t := 50) ?hr ?_; (case hd => rfl); (case hg => rfl); (case hr => first | (go_simp; done) | (go_simp; rfl)); intro gb113 hg w8 hbox hb hdr_; have m0_ := Aside0.mk (Nat.le_trans HD.out (Nat.le_of_eq hdr_.symm)); clear HD; have HD := m0_; clear m0_ hdr_; have n0_ := Aside0.mk (blk_below (g := gb112) (o := .cells #[.int .i64 a0_0, .int .i64 a0_1, .int .i64 a0_2] 50 (0, 0)) (by (with_reducible repeat (first | refine blk_drewN ?_ _ | refine blk_drew ?_ | refine blk_alloc ?_ _)); exact BK112.out) hb); have n1_ := Aside0.mk (below_step (by repeat (first | (with_reducible first | exact HB.out | apply below_alloc | apply pw_below_drewN | apply below_drew1 | refine below_set ?_ GE112.out) | exact HB.out)) hb); have n2_ := Aside0.mk (hbox); have n3_ := Aside0.mk ((by rw [hg]; exact (below_size (by repeat (first | (with_reducible first | exact HB.out | apply below_alloc | apply pw_below_drewN | apply below_drew1 | refine below_set ?_ GE112.out) | exact HB.out))) : w.heap.size ≤ gb113)); have n4_ := Aside0.mk ((by rw [hg]; exact (below_size (by repeat (first | (with_reducible first | exact HB.out | apply below_alloc | apply pw_below_drewN | apply below_drew1 | refine below_set ?_ GE112.out) | exact HB.out))) : w.heap.size ≤ gb113)); have n5_ := Aside0.mk ((by rw [hg]; exact Nat.ne_of_lt (blk_lt (g := gb112) (o := .cells #[.int .i64 a0_0, .int .i64 a0_1, .int .i64 a0_2] 50 (0, 0)) (by (with_reducible repeat (first | refine blk_drewN ?_ _ | refine blk_drew ?_ | refine blk_alloc ?_ _)); exact BK112.out)) : gb112 ≠ gb113)); have n6_ := Aside0.mk ((by rw [hg]; exact Nat.ne_of_gt (blk_lt (g := gb112) (o := .cells #[.int .i64 a0_0, .int .i64 a0_1, .int .i64 a0_2] 50 (0, 0)) (by (with_reducible repeat (first | refine blk_drewN ?_ _ | refine blk_drew ?_ | refine blk_alloc ?_ _)); exact BK112.out)) : gb113 ≠ gb112)); clear BK112; clear HB; have BK112 := n0_; have HB := n1_; have BK113 := n2_; have GW113 := n3_; have GE113 := n4_; have NB112_113 := n5_; have NB113_112 := n6_; clear n0_ n1_ n2_ n3_ n4_ n5_ n6_; clear hb hbox hg))
  have n0_ := Aside0.mk (blk_drew BK112.out)
  have n1_ := Aside0.mk (blk_drew BK113.out)
  have n2_ := Aside0.mk (below_drew1 HB.out)
  clear BK112
  clear BK113
  clear HB
  have BK112 := n0_
  have BK113 := n1_
  have HB := n2_
  clear n0_ n1_ n2_
  refine start_ (n := 18) (S := fun w' => w'.cell? ⟨gb112, 0, none⟩ = some (.int .i64 a0_0) ∧ w'.cell? ⟨gb112, 1, none⟩ = some (.int .i64 a0_1) ∧ w'.cell? ⟨gb112, 2, none⟩ = some (.int .i64 a0_2) ∧ w'.cell? ⟨gb113, 0, none⟩ = some (.int .i64 a1_0) ∧ w'.cell? ⟨gb113, 1, none⟩ = some (.int .i64 a1_1) ∧ w'.cell? ⟨gb113, 2, none⟩ = some (.int .i64 a1_2)) (ds := []) #[false, false, false, false, false, false, false, false, false, false, false, false, false, false, false, false, false, false] (by kernel_rfl) rfl rfl ⟨(blk_cell BK112.out 0).trans rfl, (blk_cell BK112.out 1).trans rfl, (blk_cell BK112.out 2).trans rfl, (blk_cell BK113.out 0).trans rfl, (blk_cell BK113.out 1).trans rfl, (blk_cell BK113.out 2).trans rfl⟩ (fun hHeld => ?_); refine with_tabW writeback_compare.tab1 writeback_compare.bits1 (fun HT_ HW_ => ?_)
  have m0_ : Aside0 (w.drawn ≤ w8.drew.drawn) := ⟨Nat.le_succ_of_le HD.out⟩
  clear HD
  have HD := m0_
  clear m0_
  generalize w8.drew = w9 at HD BK112 BK113 HB hHeld ⊢
  refine pure_ (i := 0) (N := some 5) (v := ?_) (a' := ?_) #[true, false, false, false, false, false, false, false, false, false, false, false, false, false, false, false, false, false] rfl rfl (any_of HT_.out (by kernel_rfl)) (fun _ _ _ h => h) (Or.inl ⟨by rfl, ?_⟩) ?_ ?_
  rotate_left
  · intro w'
    go_simp
    with_reducible rfl
  rotate_left
  · simp only [Act.put, List.setIfInBounds_toArray, List.set_cons_zero, List.set_cons_succ, i64_w, i32_w]
    rfl
  refine pure_ (i := 2) (N := some 7) (v := ?_) (a' := ?_) #[true, false, true, false, false, false, false, false, false, false, false, false, false, false, false, false, false, false] rfl rfl (any_of HT_.out (by kernel_rfl)) (fun _ _ _ h => h) (Or.inl ⟨by rfl, ?_⟩) ?_ ?_
  rotate_left
  · intro w'
    go_simp
    with_reducible rfl
  rotate_left
  · simp only [Act.put, List.setIfInBounds_toArray, List.set_cons_zero, List.set_cons_succ, i64_w, i32_w]
    rfl
  refine pure_ (i := 5) (N := some 10) (v := ?_) (a' := ?_) #[true, false, true, false, false, true, false, false, false, false, false, false, false, false, false, false, false, false] rfl rfl (any_of HT_.out (by kernel_rfl)) (fun _ _ _ h => h) (Or.inl ⟨by rfl, ?_⟩) ?_ ?_
  rotate_left
  · intro w'
    go_simp
    with_reducible rfl
  rotate_left
  · simp only [Act.put, List.setIfInBounds_toArray, List.set_cons_zero, List.set_cons_succ, i64_w, i32_w]
    rfl
  refine pure_ (i := 7) (N := some 12) (v := ?_) (a' := ?_) #[true, false, true, false, false, true, false, true, false, false, false, false, false, false, false, false, false, false] rfl rfl (any_of HT_.out (by kernel_rfl)) (fun _ _ _ h => h) (Or.inl ⟨by rfl, ?_⟩) ?_ ?_
  rotate_left
  · intro w'
    go_simp
    with_reducible rfl
  rotate_left
  · simp only [Act.put, List.setIfInBounds_toArray, List.set_cons_zero, List.set_cons_succ, i64_w, i32_w]
    rfl
  refine pure_ (i := 10) (N := some 15) (v := ?_) (a' := ?_) #[true, false, true, false, false, true, false, true, false, false, true, false, false, false, false, false, false, false] rfl rfl (any_of HT_.out (by kernel_rfl)) (fun _ _ _ h => h) (Or.inl ⟨by rfl, ?_⟩) ?_ ?_
  rotate_left
  · intro w'
    go_simp
    with_reducible rfl
  rotate_left
  · simp only [Act.put, List.setIfInBounds_toArray, List.set_cons_zero, List.set_cons_succ, i64_w, i32_w]
    rfl
  refine pure_ (i := 12) (N := some 17) (v := ?_) (a' := ?_) #[true, false, true, false, false, true, false, true, false, false, true, false, true, false, false, false, false, false] rfl rfl (any_of HT_.out (by kernel_rfl)) (fun _ _ _ h => h) (Or.inl ⟨by rfl, ?_⟩) ?_ ?_
  rotate_left
  · intro w'
    go_simp
    with_reducible rfl
  rotate_left
  · simp only [Act.put, List.setIfInBounds_toArray, List.set_cons_zero, List.set_cons_succ, i64_w, i32_w]
    rfl
  refine take_ (i := 1) (N := some 6) (v := ?_) (a' := ?_) #[true, true, true, false, false, true, false, true, false, false, true, false, true, false, false, false, false, false] rfl rfl (take_ofW HT_.out HW_.out (by kernel_rfl)) (fun _ _ _ h => h) (Or.inl ⟨by rfl, ?_⟩) hHeld ?_ ?_
  rotate_left
  · rintro w' ⟨s0, s1, s2, s3, s4, s5⟩
    go_simp
    with_reducible rfl
  rotate_left
  · simp only [Act.put, List.setIfInBounds_toArray, List.set_cons_zero, List.set_cons_succ, i64_w, i32_w]
    rfl
  refine take_ (i := 3) (N := some 8) (v := ?_) (a' := ?_) #[true, true, true, true, false, true, false, true, false, false, true, false, true, false, false, false, false, false] rfl rfl (take_ofW HT_.out HW_.out (by kernel_rfl)) (fun _ _ _ h => h) (Or.inl ⟨by rfl, ?_⟩) hHeld ?_ ?_
  rotate_left
  · rintro w' ⟨s0, s1, s2, s3, s4, s5⟩
    go_simp
    with_reducible rfl
  rotate_left
  · simp only [Act.put, List.setIfInBounds_toArray, List.set_cons_zero, List.set_cons_succ, i64_w, i32_w]
    rfl
  refine take_ (i := 6) (N := some 11) (v := ?_) (a' := ?_) #[true, true, true, true, false, true, true, true, false, false, true, false, true, false, false, false, false, false] rfl rfl (take_ofW HT_.out HW_.out (by kernel_rfl)) (fun _ _ _ h => h) (Or.inl ⟨by rfl, ?_⟩) hHeld ?_ ?_
  rotate_left
  · rintro w' ⟨s0, s1, s2, s3, s4, s5⟩
    go_simp
    with_reducible rfl
  rotate_left
  · simp only [Act.put, List.setIfInBounds_toArray, List.set_cons_zero, List.set_cons_succ, i64_w, i32_w]
    rfl
  refine take_ (i := 8) (N := some 13) (v := ?_) (a' := ?_) #[true, true, true, true, false, true, true, true, true, false, true, false, true, false, false, false, false, false] rfl rfl (take_ofW HT_.out HW_.out (by kernel_rfl)) (fun _ _ _ h => h) (Or.inl ⟨by rfl, ?_⟩) hHeld ?_ ?_
  rotate_left
  · rintro w' ⟨s0, s1, s2, s3, s4, s5⟩
    go_simp
    with_reducible rfl
  rotate_left
  · simp only [Act.put, List.setIfInBounds_toArray, List.set_cons_zero, List.set_cons_succ, i64_w, i32_w]
    rfl
  refine take_ (i := 11) (N := some 16) (v := ?_) (a' := ?_) #[true, true, true, true, false, true, true, true, true, false, true, true, true, false, false, false, false, false] rfl rfl (take_ofW HT_.out HW_.out (by kernel_rfl)) (fun _ _ _ h => h) (Or.inl ⟨by rfl, ?_⟩) hHeld ?_ ?_
  rotate_left
  · rintro w' ⟨s0, s1, s2, s3, s4, s5⟩
    go_simp
    with_reducible rfl
  rotate_left
  · simp only [Act.put, List.setIfInBounds_toArray, List.set_cons_zero, List.set_cons_succ, i64_w, i32_w]
    rfl
  refine take_ (i := 13) (N := some 18) (v := ?_) (a' := ?_) #[true, true, true, true, false, true, true, true, true, false, true, true, true, true, false, false, false, false] rfl rfl (take_ofW HT_.out HW_.out (by kernel_rfl)) (fun _ _ _ h => h) (Or.inl ⟨by rfl, ?_⟩) hHeld ?_ ?_
  rotate_left
  · rintro w' ⟨s0, s1, s2, s3, s4, s5⟩
    go_simp
    with_reducible rfl
  rotate_left
  · simp only [Act.put, List.setIfInBounds_toArray, List.set_cons_zero, List.set_cons_succ, i64_w, i32_w]
    rfl
  refine one_ (i := 4) (N := some 9) #[true, true, true, true, true, true, true, true, true, false, true, true, true, true, false, false, false, false] rfl rfl (one_of HT_.out (by kernel_rfl)) (by decide) (fun K hK => ?_)
  refine goes_ Try.func62 (by kernel_rfl) rfl #[.int .i64 a0_2, .int .i64 a1_2] (by rfl) rfl rfl (by (try simp only [List.map_toArray, List.map_cons, List.map_nil]); first | done | rfl | (simp only [List.length_drop, List.length_take]; rfl)) ?_
  with_reducible refine (cmp_Compare_int.calls a0_2 a1_2 t114 _ A3.out).mono ?_
  rintro e w' ⟨rfl, ⟨nd, rfl⟩⟩
  refine ⟨_, rfl, ?_⟩
  refine hK.out _ _ ⟨(blk_cell BK112.out 0).trans rfl, (blk_cell BK112.out 1).trans rfl, (blk_cell BK112.out 2).trans rfl, (blk_cell BK113.out 0).trans rfl, (blk_cell BK113.out 1).trans rfl, (blk_cell BK113.out 2).trans rfl⟩ (fun hHeld => ?_)
  clear hK K
  refine norm_ (a' := ?_) ?_ ?_
  rotate_left
  · show Act.put _ (some 9) _ = _
    simp only [Act.put, List.setIfInBounds_toArray, List.set_cons_zero, List.set_cons_succ, i64_w, i32_w]
    rfl
  refine one_ (i := 9) (N := some 14) #[true, true, true, true, true, true, true, true, true, true, true, true, true, true, false, false, false, false] rfl rfl (one_of HT_.out (by kernel_rfl)) (by decide) (fun K hK => ?_)
  refine goes_ Try.func62 (by kernel_rfl) rfl #[.int .i64 a0_0, .int .i64 a1_0] (by rfl) rfl rfl (by (try simp only [List.map_toArray, List.map_cons, List.map_nil]); first | done | rfl | (simp only [List.length_drop, List.length_take]; rfl)) ?_
  with_reducible refine (cmp_Compare_int.calls a0_0 a1_0 t115 _ A4.out).mono ?_
  rintro e w' ⟨rfl, ⟨nd, rfl⟩⟩
  refine ⟨_, rfl, ?_⟩
  refine hK.out _ _ ⟨(blk_cell BK112.out 0).trans rfl, (blk_cell BK112.out 1).trans rfl, (blk_cell BK112.out 2).trans rfl, (blk_cell BK113.out 0).trans rfl, (blk_cell BK113.out 1).trans rfl, (blk_cell BK113.out 2).trans rfl⟩ (fun hHeld => ?_)
  clear hK K
  refine norm_ (a' := ?_) ?_ ?_
  rotate_left
  · show Act.put _ (some 14) _ = _
    simp only [Act.put, List.setIfInBounds_toArray, List.set_cons_zero, List.set_cons_succ, i64_w, i32_w]
    rfl
  refine one_ (i := 14) (N := some 19) #[true, true, true, true, true, true, true, true, true, true, true, true, true, true, true, false, false, false] rfl rfl (one_of HT_.out (by kernel_rfl)) (by decide) (fun K hK => ?_)
  refine goes_ Try.func62 (by kernel_rfl) rfl #[.int .i64 a0_1, .int .i64 a1_1] (by rfl) rfl rfl (by (try simp only [List.map_toArray, List.map_cons, List.map_nil]); first | done | rfl | (simp only [List.length_drop, List.length_take]; rfl)) ?_
  with_reducible refine (cmp_Compare_int.calls a0_1 a1_1 t116 _ A5.out).mono ?_
  rintro e w' ⟨rfl, ⟨nd, rfl⟩⟩
  refine ⟨_, rfl, ?_⟩
  refine hK.out _ _ ⟨(blk_cell BK112.out 0).trans rfl, (blk_cell BK112.out 1).trans rfl, (blk_cell BK112.out 2).trans rfl, (blk_cell BK113.out 0).trans rfl, (blk_cell BK113.out 1).trans rfl, (blk_cell BK113.out 2).trans rfl⟩ (fun hHeld => ?_)
  clear hK K
  refine norm_ (a' := ?_) ?_ ?_
  rotate_left
  · show Act.put _ (some 19) _ = _
    simp only [Act.put, List.setIfInBounds_toArray, List.set_cons_zero, List.set_cons_succ, i64_w, i32_w]
    rfl
  refine one_ (i := 15) (N := some 20) #[true, true, true, true, true, true, true, true, true, true, true, true, true, true, true, true, false, false] rfl rfl (one_of HT_.out (by kernel_rfl)) (by decide) (fun K hK => ?_)
  refine lit_stepD (Kd.int .i64) _ 3 ?hg (N := 20) ?hd (xs := ([t114, t115, t116] : List Int)) (inner := [.int .i64 t114, .int .i64 t115, .int .i64 t116]) (ok := fun _ => True) (okp := fun _ => True) ?hr ?hp (fun _ hk => hk) trivial (Below.refl _ _) (Nat.le_refl _) (by simp) ?_; (case hd => rfl); (case hg => rfl); (case hr => first | (go_simp; done) | (go_simp; rfl)); (case hp => exact (Reps.one (show Kd.M (Kd.int .i64) _ _ _ t114 [.int .i64 t114] from rfl) (Reps.one (show Kd.M (Kd.int .i64) _ _ _ t115 [.int .i64 t115] from rfl) (Reps.one (show Kd.M (Kd.int .i64) _ _ _ t116 [.int .i64 t116] from rfl) (Reps.none _ _)))))
  intro v118 w10 ho11 hb hg_ hnew_ hdr_
  have m0_ := Aside0.mk (Nat.le_trans HD.out (Nat.le_trans (by simp only [drawn_drewN]; omega) (Nat.le_of_eq hdr_.symm)))
  clear HD hdr_
  have HD := m0_
  clear m0_
  clear hg_ hnew_
  (first | rw [← Ny117.out] at ho11 | (simp only [Int.reduceToNat] at ho11; rw [← Ny117.out] at ho11))
  have n0_ := Aside0.mk (Kd.R_lower ho11 (below_size (by repeat (first | (with_reducible first | exact HB.out | apply below_alloc | apply pw_below_drewN | apply below_drew1 | refine below_set ?_ GE112.out | refine below_set ?_ GE113.out) | exact HB.out))))
  have n1_ := Aside0.mk (blk_below (g := gb112) (o := .cells #[.int .i64 a0_0, .int .i64 a0_1, .int .i64 a0_2] 50 (0, 0)) (by (with_reducible repeat (first | refine blk_drewN ?_ _ | refine blk_drew ?_ | refine blk_alloc ?_ _)); exact BK112.out) hb)
  have n2_ := Aside0.mk (blk_below (g := gb113) (o := .cells #[.int .i64 a1_0, .int .i64 a1_1, .int .i64 a1_2] 50 (0, 0)) (by (with_reducible repeat (first | refine blk_drewN ?_ _ | refine blk_drew ?_ | refine blk_alloc ?_ _)); exact BK113.out) hb)
  have n3_ := Aside0.mk (below_step (by repeat (first | (with_reducible first | exact HB.out | apply below_alloc | apply pw_below_drewN | apply below_drew1 | refine below_set ?_ GE112.out | refine below_set ?_ GE113.out) | exact HB.out)) hb)
  clear BK112
  clear BK113
  clear HB
  have HO119 := n0_
  have BK112 := n1_
  have BK113 := n2_
  have HB := n3_
  clear n0_ n1_ n2_ n3_
  clear hb ho11
  obtain ⟨Ao12, co12, eo12⟩ := Kd.R_slice HO119.out
  (first | subst eo12 | (injection eo12 with f1_ f2_ f3_; have f4_ := f1_.symm; have f5_ := f3_.symm; clear f1_ f2_ f3_; subst f4_; subst f5_))
  refine hK.out _ _ ⟨(blk_cell BK112.out 0).trans rfl, (blk_cell BK112.out 1).trans rfl, (blk_cell BK112.out 2).trans rfl, (blk_cell BK113.out 0).trans rfl, (blk_cell BK113.out 1).trans rfl, (blk_cell BK113.out 2).trans rfl⟩ (fun hHeld => ?_)
  clear hK K
  refine norm_ (a' := ?_) ?_ ?_
  rotate_left
  · show Act.put _ (some 20) _ = _
    simp only [Act.put, List.setIfInBounds_toArray, List.set_cons_zero, List.set_cons_succ, i64_w, i32_w]
    rfl
  refine one_ (i := 16) (N := some 21) #[true, true, true, true, true, true, true, true, true, true, true, true, true, true, true, true, true, false] rfl rfl (one_of HT_.out (by kernel_rfl)) (by decide) (fun K hK => ?_)
  refine goes_ Try.func61 (by kernel_rfl) rfl #[.slice Ao12 y117.length co12] (by rfl) rfl rfl (by (try simp only [List.map_toArray, List.map_cons, List.map_nil]); first | done | rfl | (simp only [List.length_drop, List.length_take]; rfl)) ?_
  with_reducible refine (cmp_Or_int.calls k _ _ y117 t120 _ ?side1 ?side2 A6.out).mono ?_
  (case side1 => repeat (first | exact (Kd.R_reads' HO119.out).2.2 | (with_reducible refine Kd.C_alloc ?_ _) | (with_reducible refine Kd.C_drewN ?_ _) | (with_reducible refine Kd.C_drew ?_)))
  (case side2 => exact (Kd.R_reads' HO119.out).2.1)
  rintro e w' ⟨rfl, ⟨nd, rfl⟩⟩
  refine ⟨_, rfl, ?_⟩
  refine hK.out _ _ ⟨(blk_cell BK112.out 0).trans rfl, (blk_cell BK112.out 1).trans rfl, (blk_cell BK112.out 2).trans rfl, (blk_cell BK113.out 0).trans rfl, (blk_cell BK113.out 1).trans rfl, (blk_cell BK113.out 2).trans rfl⟩ (fun hHeld => ?_)
  clear hK K
  refine norm_ (a' := ?_) ?_ ?_
  rotate_left
  · show Act.put _ (some 21) _ = _
    simp only [Act.put, List.setIfInBounds_toArray, List.set_cons_zero, List.set_cons_succ, i64_w, i32_w]
    rfl
  refine pure_ (i := 17) (N := some 4) (v := ?_) (a' := ?_) #[true, true, true, true, true, true, true, true, true, true, true, true, true, true, true, true, true, true] rfl rfl (any_of HT_.out (by kernel_rfl)) (fun _ _ _ h => h) (Or.inl ⟨by rfl, ?_⟩) ?_ ?_
  rotate_left
  · intro w'
    go_simp
    with_reducible rfl
  rotate_left
  · simp only [Act.put, List.setIfInBounds_toArray, List.set_cons_zero, List.set_cons_succ, i64_w, i32_w]
    rfl
  refine done_ (done_of HT_.out (by kernel_rfl)) ?_
  try go_wp2
  go_ret
  exact ⟨by first | rfl | (simp [errW_none, errW_some] <;> rfl) | (simp [*, errW_none, errW_some] <;> rfl), (by repeat (first | (with_reducible first | exact HB.out | apply below_alloc | apply pw_below_drewN | apply below_drew1 | refine below_set ?_ GE112.out | refine below_set ?_ GE113.out) | exact HB.out)), (Nat.le_trans HD.out (by simp only [drawn_drewN, drawn_drew]; omega))⟩
def sortL_ren : Go.Shelf.Ren := ⟨fun | 6 => 33 | 14 => 59 | 15 => 60 | 20 => 71 | 21 => 72 | 22 => 73 | 23 => 74 | 24 => 75 | 25 => 76 | 26 => 77 | 27 => 78 | 28 => 79 | 29 => 80 | 46 => 84 | 47 => 85 | 48 => 86 | 49 => 87 | 50 => 88 | 57 => 89 | n => n, fun | 0 => 0 | 3 => 3 | 4 => 4 | 5 => 5 | 9 => 9 | 22 => 39 | 24 => 50 | 25 => 80 | 39 => 106 | 45 => 117 | 46 => 118 | 50 => 83 | 53 => 124 | 55 => 126 | 66 => 128 | 70 => 132 | 76 => 134 | 77 => 135 | n => n, fun n => n⟩
set_option maxRecDepth 100000 in
theorem sortL : Go.Proofs.SlLaysF0.n6 Try.prog sortL_ren := { mixed := by kernel_rfl, f6 := ⟨Try.f33.name, by decide, Try.func33.trans (congrArg some (by kernel_rfl))⟩, f14 := ⟨Try.f59.name, by decide, Try.func59.trans (congrArg some (by kernel_rfl))⟩, f15 := Try.func60.trans (congrArg some (by kernel_rfl)), f20 := ⟨Try.f71.name, by decide, Try.func71.trans (congrArg some (by kernel_rfl))⟩, f21 := ⟨Try.f72.name, by decide, Try.func72.trans (congrArg some (by kernel_rfl))⟩, f22 := ⟨Try.f73.name, by decide, Try.func73.trans (congrArg some (by kernel_rfl))⟩, f23 := ⟨Try.f74.name, by decide, Try.func74.trans (congrArg some (by kernel_rfl))⟩, f24 := ⟨Try.f75.name, by decide, Try.func75.trans (congrArg some (by kernel_rfl))⟩, f25 := ⟨Try.f76.name, by decide, Try.func76.trans (congrArg some (by kernel_rfl))⟩, f26 := ⟨Try.f77.name, by decide, Try.func77.trans (congrArg some (by kernel_rfl))⟩, f27 := ⟨Try.f78.name, by decide, Try.func78.trans (congrArg some (by kernel_rfl))⟩, f28 := Try.func79.trans (congrArg some (by kernel_rfl)), f29 := Try.func80.trans (congrArg some (by kernel_rfl)), f46 := ⟨Try.f84.name, by decide, Try.func84.trans (congrArg some (by kernel_rfl))⟩, f47 := Try.func85.trans (congrArg some (by kernel_rfl)), f48 := Try.func86.trans (congrArg some (by kernel_rfl)), f49 := ⟨Try.f87.name, by decide, Try.func87.trans (congrArg some (by kernel_rfl))⟩, f50 := ⟨Try.f88.name, by decide, Try.func88.trans (congrArg some (by kernel_rfl))⟩, f57 := ⟨Try.f89.name, by decide, Try.func89.trans (congrArg some (by kernel_rfl))⟩, t0 := Try.underlying0, a0 := Try.isAgg0, z0 := Try.sizeOf0, v0 := Try.zeroValue0, t3 := Try.underlying3, a3 := Try.isAgg3, z3 := Try.sizeOf3, v3 := Try.zeroValue3, t4 := Try.underlying4, a4 := Try.isAgg4, z4 := Try.sizeOf4, v4 := Try.zeroValue4, t5 := Try.underlying5, a5 := Try.isAgg5, z5 := Try.sizeOf5, v5 := Try.zeroValue5, t9 := Try.underlying9, a9 := Try.isAgg9, z9 := Try.sizeOf9, v9 := Try.zeroValue9, t22 := Try.underlying39, a22 := Try.isAgg39, z22 := Try.sizeOf39, v22 := Try.zeroValue39, t25 := Try.underlying80, a25 := Try.isAgg80, z25 := Try.sizeOf80, v25 := Try.zeroValue80, t39 := Try.underlying106, a39 := Try.isAgg106, z39 := Try.sizeOf106, v39 := Try.zeroValue106, t45 := Try.underlying117, a45 := Try.isAgg117, z45 := Try.sizeOf117, v45 := Try.zeroValue117, t46 := Try.underlying118, a46 := Try.isAgg118, z46 := Try.sizeOf118, v46 := Try.zeroValue118, t50 := Try.underlying83, a50 := Try.isAgg83, z50 := Try.sizeOf83, v50 := Try.zeroValue83, t53 := Try.underlying124, a53 := Try.isAgg124, z53 := Try.sizeOf124, v53 := Try.zeroValue124, t55 := Try.underlying126, a55 := Try.isAgg126, z55 := Try.sizeOf126, v55 := Try.zeroValue126, t66 := Try.underlying128, a66 := Try.isAgg128, z66 := Try.sizeOf128, v66 := Try.zeroValue128, t70 := Try.underlying132, a70 := Try.isAgg132, z70 := Try.sizeOf132, v70 := Try.zeroValue132, t76 := Try.underlying134, a76 := Try.isAgg134, z76 := Try.sizeOf134, v76 := Try.zeroValue134, t77 := Try.underlying135, a77 := Try.isAgg135, z77 := Try.sizeOf135, v77 := Try.zeroValue135 }
/-- How two pages compare. -/
def cmpI (a b : Int) : Int := if a < b then -1 else if a > b then 1 else 0
def cfP (x y : S50) : Int := if cmpI x.f2 y.f2 ≠ 0 then cmpI x.f2 y.f2 else if cmpI x.f0 y.f0 ≠ 0 then cmpI x.f0 y.f0 else cmpI x.f1 y.f1
theorem compare_int (a b : Int) : cmp_Compare_int.f a b = some (cmpI a b) := by
  unfold cmp_Compare_int.f cmp_isNaN_int.f cmpI
  simp only [Option.bind_some, bne_self_eq_false, Bool.false_eq_true, if_false]
  split
  · rfl
  · split <;> rfl
theorem or_three (a b c : Int) : cmp_Or_int.f 4 [a, b, c] = some (if a ≠ 0 then a else if b ≠ 0 then b else c) := by
  have r0 : ∀ a b c : Int, rd [a, b, c] 0 = a := fun _ _ _ => rfl
  have r1 : ∀ a b c : Int, rd [a, b, c] 1 = b := fun _ _ _ => rfl
  have r2 : ∀ a b c : Int, rd [a, b, c] 2 = c := fun _ _ _ => rfl
  have w1 : wrap64 1 = 1 := by unfold wrap64; omega
  have w2 : wrap64 2 = 2 := by unfold wrap64; omega
  have w3 : wrap64 3 = 3 := by unfold wrap64; omega
  have e1 : (0 : Int) + 1 = 1 := rfl
  have e2 : (1 : Int) + 1 = 2 := rfl
  have e3 : (2 : Int) + 1 = 3 := rfl
  unfold cmp_Or_int.f
  by_cases ha : a = 0
  · by_cases hb : b = 0
    · by_cases hc : c = 0
      · simp [cmp_Or_int.l0, r0, r1, r2, w1, w2, w3, e1, e2, e3, ha, hb, hc]
      · simp [cmp_Or_int.l0, r0, r1, r2, w1, w2, w3, e1, e2, e3, ha, hb, hc]
    · simp [cmp_Or_int.l0, r0, r1, r2, w1, w2, w3, e1, e2, e3, ha, hb]
  · simp [cmp_Or_int.l0, r0, r1, r2, w1, w2, w3, e1, e2, e3, ha]
theorem compare_is (x y : S50) : writeback_compare.f 4 x.f0 x.f1 x.f2 y.f0 y.f1 y.f2 = some (cfP x y) := by
  unfold writeback_compare.f
  rw [compare_int, compare_int, compare_int]
  simp only [Option.bind_some]
  rw [or_three]
  rfl
def pLt (x y : S50) : Bool := decide (x.f2 < y.f2) || (decide (x.f2 = y.f2) && (decide (x.f0 < y.f0) || (decide (x.f0 = y.f0) && decide (x.f1 < y.f1))))
theorem ltP (x y : S50) : Go.Proofs.ltOf cfP x y = pLt x y := by
  rw [Bool.eq_iff_iff]
  unfold Go.Proofs.ltOf cfP cmpI pLt
  simp only [decide_eq_true_eq, Bool.or_eq_true, Bool.and_eq_true]
  split
  · split at * <;> (try split at *) <;> omega
  · split
    · split at * <;> (try split at *) <;> omega
    · split at * <;> (try split at *) <;> omega
theorem pLt_iff (x y : S50) : pLt x y = true ↔ x.f2 < y.f2 ∨ x.f2 = y.f2 ∧ (x.f0 < y.f0 ∨ x.f0 = y.f0 ∧ x.f1 < y.f1) := by
  unfold pLt
  simp only [decide_eq_true_eq, Bool.or_eq_true, Bool.and_eq_true]
theorem pLt_not (x y : S50) : pLt x y = false ↔ ¬ (x.f2 < y.f2 ∨ x.f2 = y.f2 ∧ (x.f0 < y.f0 ∨ x.f0 = y.f0 ∧ x.f1 < y.f1)) := by
  rw [← pLt_iff, Bool.not_eq_true]
theorem swoP : Go.Sort.SWO (Go.Proofs.ltOf cfP) where
  irrefl x := by rw [ltP, pLt_not]; omega
  trans x y z h1 h2 := by rw [ltP, pLt_iff] at *; omega
  ntrans x y z h1 h2 := by rw [ltP, pLt_not] at *; omega
theorem totP (x y : S50) (h1 : Go.Proofs.ltOf cfP x y = false) (h2 : Go.Proofs.ltOf cfP y x = false) : x = y := by
  rw [ltP, pLt_not] at *
  obtain ⟨a, b, c⟩ := x
  obtain ⟨a', b', c'⟩ := y
  simp only at h1 h2
  obtain rfl : a = a' := by omega
  obtain rfl : b = b' := by omega
  obtain rfl : c = c' := by omega
  rfl
instance inhP : Inhabited S50 := ⟨z50⟩
def encP (x : S50) : List Value := [.int .i64 x.f0, .int .i64 x.f1, .int .i64 x.f2]
theorem encP_len (x : S50) : (encP x).length = 3 := rfl
theorem encP_one (x : S50) : ∀ v ∈ encP x, v.oneCell' = true := by
  intro v hv
  simp only [encP, List.mem_cons, List.not_mem_nil, or_false] at hv
  rcases hv with rfl | rfl | rfl <;> rfl
theorem cmpLaysP (blk off size : Nat) (w : World) : Go.Proofs.CmpLays Try.prog 34 #[] encP 3 cfP blk off size w := fun m os dk _ x y =>
  (compareG.calls 4 x.f0 x.f1 x.f2 y.f0 y.f1 y.f2 (cfP x y) (Go.Proofs.sortWorldK encP 3 w blk off m dk os) (compare_is x y)).mono fun e w' hh => ⟨hh.1, grow_of_below hh.2.1 hh.2.2⟩
/-- The cells of a row of pages, one after the other. -/
theorem flat_get (d : Array S50) (j : Nat) (hj : j < d.size) : (((Go.Sort.flatK encP 3 d).toList.drop (j * 3)).take 3) = encP d[j]! := by
  apply List.ext_getElem?
  intro t
  rw [List.getElem?_take]
  by_cases ht : t < 3
  · rw [if_pos ht, List.getElem?_drop]
    have hs : j * 3 + t < (Go.Sort.flatK encP 3 d).size := by rw [Go.Sort.size_flatK]; omega
    have h1 := Go.Sort.get_flatK encP 3 d (j * 3 + t) (by omega)
    rw [getElem!_pos (Go.Sort.flatK encP 3 d) (j * 3 + t) hs] at h1
    rw [Array.getElem?_toList, Array.getElem?_eq_getElem hs, h1, show (j * 3 + t) / 3 = j by omega, show (j * 3 + t) % 3 = t by omega]
    rw [List.getElem?_eq_getElem (by rw [encP_len]; exact ht), getElem!_pos (encP d[j]!) t (by rw [encP_len]; exact ht)]
  · rw [if_neg ht, List.getElem?_eq_none (by rw [encP_len]; omega)]
theorem flat_inner {xs : List S50} {inner : List Value} {R : S50 → List Value → Prop} (hR : ∀ x c, R x c → c = encP x) (h : Reps R 3 xs inner) : inner = (Go.Sort.flatK encP 3 xs.toArray).toList := by
  obtain ⟨hl, hr⟩ := h
  apply List.ext_getElem?
  intro s
  by_cases hs : s < xs.length * 3
  · have hj : s / 3 < xs.length := by omega
    have h1 := hR _ _ (hr (s / 3) (xs[s / 3]'hj) (List.getElem?_eq_getElem hj))
    have h2 := flat_get xs.toArray (s / 3) (by simpa using hj)
    have e : xs.toArray[s / 3]! = xs[s / 3]'hj := by
      rw [getElem!_pos xs.toArray (s / 3) (by simpa using hj)]
      rfl
    rw [e, ← h1] at h2
    have h3 := congrArg (fun l => l[s % 3]?) h2
    simp only [List.getElem?_take, List.getElem?_drop] at h3
    rw [if_pos (by omega), if_pos (by omega), show s / 3 * 3 + s % 3 = s by omega] at h3
    exact h3.symm
  · rw [List.getElem?_eq_none (by omega), List.getElem?_eq_none (by simp; omega)]
theorem flat_reps (w : World) (base : Nat) (ok : Nat → Prop) (d : Array S50) : Reps (k50.M w base ok) 3 d.toList (Go.Sort.flatK encP 3 d).toList := by
  refine ⟨by simp, fun j p hj => ?_⟩
  obtain ⟨hlt, hp⟩ := List.getElem?_eq_some_iff.1 hj
  rw [flat_get d j (by simpa using hlt), getElem!_pos d j (by simpa using hlt)]
  rw [Array.getElem_toList] at hp
  rw [hp]
  exact k50_mkM _ _ _ _
/-- The sort, over a row of pages that the call has made. -/
theorem sort_own {w : World} {base g cap : Nat} {xs : List S50} (h : Kd.R k50 50 w base (fun _ => True) (.slice (some ⟨g, 0, none⟩) xs.length cap) xs) (hlen : xs.length ≤ 1000) :
    Calls Try.prog 33 #[.slice (some ⟨g, 0, none⟩) xs.length cap, .func (.func 34) #[] #[]] w fun e w' => e = .returned (.tuple #[]) ∧ Kd.R k50 50 w' base (fun _ => True) (.slice (some ⟨g, 0, none⟩) xs.length cap) (xs.mergeSort fun x y => !pLt y x) ∧ Below base w w' := by
  obtain ⟨_, inner, hown, hrep⟩ := h
  obtain ⟨hil, hcase⟩ := hown
  have hcell : ∃ cur, base ≤ g ∧ w.heap[g]? = some (.cells cur 50 (0, 0)) ∧ xs.length ≤ cap ∧ cap ≤ maxLen ∧ cur.size = cap * 3 ∧ cur.toList.take (xs.length * 3) = inner := by
    rcases hcase with ⟨h1, _⟩ | ⟨g', cap', cur, h1, h2, h3, h4, h5, h6, h7⟩
    · cases h1
    · injection h1 with e1 e2 e3
      injection e1 with e1
      injection e1 with e1 _ _
      subst e1
      subst e3
      exact ⟨cur, h2, h3, h4, h5, h6, h7⟩
  obtain ⟨cur, hbg, hhp, hlc, hcm, hcs, htk⟩ := hcell
  have hin := flat_inner (fun x c hc => k50_openM hc) hrep
  have hgl : g < w.heap.size := (Array.getElem?_eq_some_iff.1 hhp).1
  have hH : Go.Sort.HoldsK encP 3 w g 0 xs.toArray := by
    intro j hj
    rw [Go.Sort.size_flatK, List.size_toArray] at hj
    have hjs : j < (Go.Sort.flatK encP 3 xs.toArray).size := by rw [Go.Sort.size_flatK, List.size_toArray]; exact hj
    refine ⟨?_, ?_⟩
    · have h1 : cur[j]? = inner[j]? := by
        rw [← htk, List.getElem?_take, if_pos hj, Array.getElem?_toList]
      have h2 : w.cell? ⟨g, 0 + j, none⟩ = cur[j]? := by
        rw [Nat.zero_add]
        simp [World.cell?, hhp]
      rw [h2, h1, hin, Array.getElem?_toList, Array.getElem?_eq_getElem hjs, getElem!_pos (Go.Sort.flatK encP 3 xs.toArray) j hjs]
      rfl
    · simp [World.frozen?, hhp]
  have hsz : (xs.toArray).size < 4611686018427387904 := by rw [List.size_toArray]; omega
  have eg : ∀ args w, (callFunc 34 args).run Try.prog w = .ok (.enter 34 args) w := enters_of Try.func34 (by kernel_rfl) rfl
  have hc := Go.Proofs.AnyQ.slices_SortFunc_total sortL 3 Try.isAgg50 Try.sizeOf50 encP encP_len encP_one cfP swoP 34 #[] g 0 cap xs.toArray w eg (cmpLaysP g 0 xs.toArray.size w) hH hgl hsz totP
  have hc' : Calls Try.prog 33 #[.slice (some ⟨g, 0, none⟩) xs.length cap, .func (.func 34) #[] #[]] w fun e w' => e = .returned (.tuple #[]) ∧ ∃ n os, w' = Go.Proofs.sortWorldK encP 3 w g 0 n (xs.mergeSort fun x y => !pLt y x).toArray os := by
    have e : (fun x y : S50 => !Go.Proofs.ltOf cfP y x) = fun x y => !pLt y x := by
      funext x y
      rw [ltP]
    rw [e] at hc
    exact hc
  refine hc'.mono fun e w' hh => ?_
  obtain ⟨he, n, os, hw⟩ := hh
  have hml : (xs.mergeSort fun x y => !pLt y x).length = xs.length := List.length_mergeSort _
  generalize (xs.mergeSort fun x y => !pLt y x) = ys at *
  subst hw
  have hnew : (Go.Proofs.sortWorldK encP 3 w g 0 n ys.toArray os).heap[g]? = some (.cells (Go.Sort.putCells id 0 (Go.Sort.flatK encP 3 ys.toArray) cur) 50 (0, 0)) := by
    show ((w.heap.modify g (Go.Sort.onCells (Go.Sort.putCells id 0 (Go.Sort.flatK encP 3 ys.toArray)))) ++ os)[g]? = _
    rw [Array.getElem?_append_left (by simpa using hgl), Array.getElem?_modify, if_pos rfl, hhp]
    rfl
  have hold : ∀ k, k < base → (Go.Proofs.sortWorldK encP 3 w g 0 n ys.toArray os).heap[k]? = w.heap[k]? := by
    intro k hk
    show ((w.heap.modify g (Go.Sort.onCells (Go.Sort.putCells id 0 (Go.Sort.flatK encP 3 ys.toArray)))) ++ os)[k]? = _
    rw [Array.getElem?_append_left (by simp; omega), Array.getElem?_modify, if_neg (by omega)]
  refine ⟨he, ⟨fun _ _ => trivial, (Go.Sort.flatK encP 3 ys.toArray).toList, ⟨by rw [Array.length_toList, Go.Sort.size_flatK, List.size_toArray]; rfl, .inr ⟨g, cap, _, by rw [hml], hbg, hnew, by rw [hml]; exact hlc, hcm, by simp [Go.Sort.putCells]; exact hcs, ?_⟩⟩, flat_reps _ _ _ ys.toArray⟩, ⟨rfl, rfl, rfl, by show w.heap.size ≤ ((w.heap.modify g _) ++ os).size; simp, hold⟩⟩
  show List.take (ys.length * 3) _ = _
  apply List.ext_getElem?
  intro s
  rw [List.getElem?_take]
  by_cases hs : s < ys.length * 3
  · rw [if_pos hs, Array.getElem?_toList, Array.getElem?_toList]
    have h1 : s < cur.size := by rw [hcs]; have := Nat.mul_le_mul_right 3 hlc; omega
    have h2 : s < (Go.Sort.flatK encP 3 ys.toArray).size := by simpa using hs
    unfold Go.Sort.putCells
    rw [Array.getElem?_mapIdx, Array.getElem?_eq_getElem h1, Option.map_some, if_pos ⟨Nat.zero_le _, by omega⟩, Nat.sub_zero, getElem!_pos (Go.Sort.flatK encP 3 ys.toArray) s h2, Array.getElem?_eq_getElem h2]
    rfl
  · rw [if_neg hs, List.getElem?_eq_none (by simpa using hs)]
theorem sort_none (w : World) : Calls Try.prog 33 #[.slice none 0 0, .func (.func 34) #[] #[]] w fun e w' => e = .returned (.tuple #[]) ∧ w' = w := Go.Proofs.AnyF.slices_SortFunc_none sortL none 0 _ w
/-- What is told of writeback_Order. -/
def writeback_Order.f (l0 : List S50) : Option (List S50 × Int) := (writeback_Check.f l0).bind fun e => some (l0.mergeSort fun x y => !pLt y x, 0)
theorem order_case {w : World} {base : Nat} {v : Value} {xs : List S50} (h : Kd.R k50 50 w base (fun _ => True) v xs) : (v = .slice none 0 0 ∧ xs = []) ∨ ∃ g cap, v = .slice (some ⟨g, 0, none⟩) xs.length cap := by
  obtain ⟨_, inner, hown, hrep⟩ := h
  rcases hown.2 with ⟨h1, h2⟩ | ⟨g, cap, cur, h1, _⟩
  · exact .inl ⟨h1, List.length_eq_zero_iff.1 h2⟩
  · exact .inr ⟨g, cap, h1⟩
set_option maxHeartbeats 8000000 in
set_option maxRecDepth 100000 in
theorem writeback_Order.core (A0 : Option Addr) (c0 : Nat) (l0 : List S50) (w : World) (hr0 : Kd.C k50 w A0 l0.length l0) (hc0 : l0.length ≤ c0) (hck : writeback_Check.f l0 = some 0) (hlen : l0.length ≤ 1000) :
    Calls Try.prog 14 #[.slice A0 l0.length c0] w fun e w' => ∃ v0_ : Value, e = .returned (.tuple #[v0_, .int .i64 0]) ∧ Kd.R k50 50 w' w.heap.size (fun _ => True) v0_ (l0.mergeSort fun x y => !pLt y x) ∧ Below w.heap.size w w' := by
  have HR0 := Aside0.mk hr0
  have HC0 := Aside0.mk hc0
  have HCK := Aside0.mk hck
  have HLN := Aside0.mk hlen
  have HCL := Aside0.mk (show api_DirtyPage_32.f l0 = some l0 by
    unfold api_DirtyPage_32.f
    simp only [Option.bind_some, List.length_nil, List.nil_append]
    rw [if_pos (by omega)])
  clear hr0 hc0 hck hlen
  have HB := Aside0.mk (Below.refl w.heap.size w)
  go_enter Try.func14, Try.ntmps14
  go_upto_region 5 with (first | (go_at_call 31; (with_reducible refine (writeback_Check.calls _ _ l0 0 _ ?s1 ?s2 HCK.out).mono ?_); (case s1 => exact HR0.out); (case s2 => exact HC0.out); rintro e w1 ⟨rfl, hb⟩; have n1_ := Aside0.mk (below_step HB.out hb); have n2_ := Aside0.mk (Kd.C_below HR0.out (hb.mono HB.out.size)); clear HB HR0; have HB := n1_; have HR0 := n2_; clear n1_ n2_ hb) | (go_at_call 32; (with_reducible refine (api_DirtyPage_32.calls _ _ l0 l0 _ ?s1 ?s2 HCL.out).mono ?_); (case s1 => exact HR0.out); (case s2 => exact HC0.out); rintro e w2 ⟨v2, rfl, ho, hb⟩; have HO := Aside0.mk (Kd.R_lower ho (below_size HB.out)); have n1_ := Aside0.mk (below_step HB.out hb); clear HB; have HB := n1_; clear n1_ hb ho))
  rcases order_case HO.out with ⟨rfl, hnil⟩ | ⟨g, cap, rfl⟩
  · subst hnil
    go_wp2_with (first | (go_at_call 33; (with_reducible refine (sort_none _).mono ?_); rintro e w3 ⟨rfl, rfl⟩))
    go_ret2
    exact ⟨_, rfl, by rw [List.mergeSort_nil]; exact Kd.R_nil _ _ _ _ _, HB.out⟩
  · go_wp2_with (first | (go_at_call 33; (with_reducible refine (sort_own HO.out HLN.out).mono ?_); rintro e w3 ⟨rfl, hs, hb⟩; have HS := Aside0.mk hs; have HB3 := Aside0.mk hb; clear hs hb))
    go_ret2
    exact ⟨_, rfl, HS.out, HB.out.trans HB3.out⟩
theorem writeback_Order.calls (A0 : Option Addr) (c0 : Nat) (l0 : List (S50)) (r1 : List (S50)) (r2 : Int) (w : World) (hr0 : Kd.C k50 w A0 l0.length l0) (hc0 : l0.length ≤ c0) (h : writeback_Order.f l0 = some (r1, r2)) :
    Calls Try.prog 14 #[.slice A0 l0.length c0] w fun e w' => ∃ v0_ : Value, e = .returned (.tuple #[v0_, .int .i64 r2]) ∧ Kd.R k50 50 w' w.heap.size (fun _ => True) v0_ r1 ∧ Below w.heap.size w w' := by
  unfold writeback_Order.f at h
  cases hk : writeback_Check.f l0 with
  | none =>
    rw [hk] at h
    cases h
  | some e =>
    rw [hk] at h
    have h2 := Option.some.inj h
    obtain rfl : (l0.mergeSort fun x y => !pLt y x) = r1 := (Prod.mk.inj h2).1
    obtain rfl : 0 = r2 := (Prod.mk.inj h2).2
    have hk2 := hk
    unfold writeback_Check.f at hk2
    split at hk2
    · rename_i hc
      obtain rfl := Option.some.inj hk2
      exact writeback_Order.core A0 c0 l0 w hr0 hc0 hk hc.2.2
    · cases hk2

/-! ### throttle_Counts: function 35 -/
def throttle_Counts.f (a0_0 : Int) (a0_1 : Int) (a0_2 : Int) (a0_3 : Int) (a0_4 : Int) (a0_5 : Int) (a0_6 : Int) (a0_7 : Int) (a0_8 : Int) (a0_9 : Int) (a0_10 : Bool) (a0_11 : Bool) (a0_12 : Bool) (a0_13 : Int) (l0_14 : List (S153)) (l0_15 : List Int) : Option (Bool) := if a0_0 = 4 then (if a0_10 = true then (some true) else (if a0_1 = 2 then (some true) else (some (a0_1 == 4)))) else (some false)
set_option maxHeartbeats 8000000 in
set_option maxRecDepth 100000 in
theorem throttle_Counts.calls (a0_0 : Int) (a0_1 : Int) (a0_2 : Int) (a0_3 : Int) (a0_4 : Int) (a0_5 : Int) (a0_6 : Int) (a0_7 : Int) (a0_8 : Int) (a0_9 : Int) (a0_10 : Bool) (a0_11 : Bool) (a0_12 : Bool) (a0_13 : Int) (A0_14 : Option Addr) (c0_14 : Nat) (l0_14 : List (S153)) (A0_15 : Option Addr) (c0_15 : Nat) (l0_15 : List Int) (r : Bool) (w : World) (hr0_14 : Kd.C k153 w A0_14 l0_14.length l0_14) (hc0_14 : l0_14.length ≤ c0_14) (hr0_15 : Kd.C (Kd.int .u8) w A0_15 l0_15.length l0_15) (hc0_15 : l0_15.length ≤ c0_15) (h : throttle_Counts.f a0_0 a0_1 a0_2 a0_3 a0_4 a0_5 a0_6 a0_7 a0_8 a0_9 a0_10 a0_11 a0_12 a0_13 l0_14 l0_15 = some r) :
    Calls Try.prog 35 #[.agg #[.int .i64 a0_0, .int .i64 a0_1, .int .i64 a0_2, .int .i64 a0_3, .int .i64 a0_4, .int .i64 a0_5, .int .i64 a0_6, .int .i64 a0_7, .int .i64 a0_8, .int .i64 a0_9, .bool a0_10, .bool a0_11, .bool a0_12, .int .i64 a0_13, .slice A0_14 l0_14.length c0_14, .slice A0_15 l0_15.length c0_15]] w fun e w' => e = .returned (.bool r) ∧ Below w.heap.size w w' := by
  have hu48 := Try.underlying48
  have HR0_14 := Aside0.mk hr0_14
  have HC0_14 := Aside0.mk hc0_14
  clear hr0_14 hc0_14
  have HR0_15 := Aside0.mk hr0_15
  have HC0_15 := Aside0.mk hc0_15
  clear hr0_15 hc0_15
  have HB := Aside0.mk (Below.refl w.heap.size w)
  have H : (if a0_0 = 4 then (if a0_10 = true then (some true) else (if a0_1 = 2 then (some true) else (some (a0_1 == 4)))) else (some false)) = some r := h
  clear h
  by_cases c2 : a0_0 = 4
  · rw [if_pos c2] at H
    have c2b0 : (a0_0 == 4) = true := beq_iff_eq.mpr c2
    have c2b1 : (a0_0 != 4) = false := bne_eq_false_iff_eq.mpr c2
    clear c2
    by_cases c3 : a0_10 = true
    · subst c3
      have H1 : (some true) = some r := by rw [if_pos rfl] at H; exact H
      clear H
      have H := H1
      clear H1
      obtain rfl := Option.some.inj H
      go_enter Try.func35, Try.ntmps35
      go_wp2_with (first | ((with_reducible refine gate_dst (N := 1) rfl ?_); refine box_event ?hg (N := 1) ?hd (cs := #[.int .i64 a0_0, .int .i64 a0_1, .int .i64 a0_2, .int .i64 a0_3, .int .i64 a0_4, .int .i64 a0_5, .int .i64 a0_6, .int .i64 a0_7, .int .i64 a0_8, .int .i64 a0_9, .bool true, .bool a0_11, .bool a0_12, .int .i64 a0_13, .slice A0_14 l0_14.length c0_14, .slice A0_15 l0_15.length c0_15]) (t := 48) ?hr ?_; (case hd => rfl); (case hg => rfl); (case hr => first | (go_simp; done) | (go_simp; rfl)); intro gb121 hg w4 hbox hb; have n0_ := Aside0.mk (below_step (by repeat (first | (with_reducible first | exact HB.out | apply below_alloc | apply pw_below_drewN | apply below_drew1) | exact HB.out)) hb); have n1_ := Aside0.mk (hbox); have n2_ := Aside0.mk ((by rw [hg]; exact (below_size (by repeat (first | (with_reducible first | exact HB.out | apply below_alloc | apply pw_below_drewN | apply below_drew1) | exact HB.out))) : w.heap.size ≤ gb121)); have n3_ := Aside0.mk ((by rw [hg]; exact (below_size (by repeat (first | (with_reducible first | exact HB.out | apply below_alloc | apply pw_below_drewN | apply below_drew1) | exact HB.out))) : w.heap.size ≤ gb121)); clear HB; have HB := n0_; have BK121 := n1_; have GW121 := n2_; have GE121 := n3_; clear n0_ n1_ n2_ n3_; clear hb hbox hg; have hcz5_0 : w4.cell? ⟨gb121, 0, none⟩ = some (.int .i64 a0_0) := (blk_cell BK121.out 0).trans rfl; have hcz5_1 : w4.cell? ⟨gb121, 1, none⟩ = some (.int .i64 a0_1) := (blk_cell BK121.out 1).trans rfl; have hcz5_2 : w4.cell? ⟨gb121, 2, none⟩ = some (.int .i64 a0_2) := (blk_cell BK121.out 2).trans rfl; have hcz5_3 : w4.cell? ⟨gb121, 3, none⟩ = some (.int .i64 a0_3) := (blk_cell BK121.out 3).trans rfl; have hcz5_4 : w4.cell? ⟨gb121, 4, none⟩ = some (.int .i64 a0_4) := (blk_cell BK121.out 4).trans rfl; have hcz5_5 : w4.cell? ⟨gb121, 5, none⟩ = some (.int .i64 a0_5) := (blk_cell BK121.out 5).trans rfl; have hcz5_6 : w4.cell? ⟨gb121, 6, none⟩ = some (.int .i64 a0_6) := (blk_cell BK121.out 6).trans rfl; have hcz5_7 : w4.cell? ⟨gb121, 7, none⟩ = some (.int .i64 a0_7) := (blk_cell BK121.out 7).trans rfl; have hcz5_8 : w4.cell? ⟨gb121, 8, none⟩ = some (.int .i64 a0_8) := (blk_cell BK121.out 8).trans rfl; have hcz5_9 : w4.cell? ⟨gb121, 9, none⟩ = some (.int .i64 a0_9) := (blk_cell BK121.out 9).trans rfl; have hcz5_10 : w4.cell? ⟨gb121, 10, none⟩ = some (.bool true) := (blk_cell BK121.out 10).trans rfl; have hcz5_11 : w4.cell? ⟨gb121, 11, none⟩ = some (.bool a0_11) := (blk_cell BK121.out 11).trans rfl; have hcz5_12 : w4.cell? ⟨gb121, 12, none⟩ = some (.bool a0_12) := (blk_cell BK121.out 12).trans rfl; have hcz5_13 : w4.cell? ⟨gb121, 13, none⟩ = some (.int .i64 a0_13) := (blk_cell BK121.out 13).trans rfl; have hcz5_14 : w4.cell? ⟨gb121, 14, none⟩ = some (.slice A0_14 l0_14.length c0_14) := (blk_cell BK121.out 14).trans rfl; have hcz5_15 : w4.cell? ⟨gb121, 15, none⟩ = some (.slice A0_15 l0_15.length c0_15) := (blk_cell BK121.out 15).trans rfl; have hfz5_0 := blk_frozen BK121.out 0; have hfz5_1 := blk_frozen BK121.out 1; have hfz5_2 := blk_frozen BK121.out 2; have hfz5_3 := blk_frozen BK121.out 3; have hfz5_4 := blk_frozen BK121.out 4; have hfz5_5 := blk_frozen BK121.out 5; have hfz5_6 := blk_frozen BK121.out 6; have hfz5_7 := blk_frozen BK121.out 7; have hfz5_8 := blk_frozen BK121.out 8; have hfz5_9 := blk_frozen BK121.out 9; have hfz5_10 := blk_frozen BK121.out 10; have hfz5_11 := blk_frozen BK121.out 11; have hfz5_12 := blk_frozen BK121.out 12; have hfz5_13 := blk_frozen BK121.out 13; have hfz5_14 := blk_frozen BK121.out 14; have hfz5_15 := blk_frozen BK121.out 15))
      go_ret
      exact ⟨by first | rfl | (simp [errW_none, errW_some] <;> rfl) | (simp [*, errW_none, errW_some] <;> rfl), by repeat (first | (with_reducible first | exact HB.out | apply below_alloc | apply pw_below_drewN | apply below_drew1 | refine below_set ?_ GE121.out) | exact HB.out)⟩
    · replace c3 := Bool.eq_false_iff.mpr c3
      subst c3
      have H1 : (if a0_1 = 2 then (some true) else (some (a0_1 == 4))) = some r := by rw [if_neg (show ¬ (false = true) by decide)] at H; exact H
      clear H
      have H := H1
      clear H1
      by_cases c6 : a0_1 = 2
      · rw [if_pos c6] at H
        have c6b0 : (a0_1 == 2) = true := beq_iff_eq.mpr c6
        have c6b1 : (a0_1 != 2) = false := bne_eq_false_iff_eq.mpr c6
        clear c6
        obtain rfl := Option.some.inj H
        go_enter Try.func35, Try.ntmps35
        go_wp2_with (first | ((with_reducible refine gate_dst (N := 1) rfl ?_); refine box_event ?hg (N := 1) ?hd (cs := #[.int .i64 a0_0, .int .i64 a0_1, .int .i64 a0_2, .int .i64 a0_3, .int .i64 a0_4, .int .i64 a0_5, .int .i64 a0_6, .int .i64 a0_7, .int .i64 a0_8, .int .i64 a0_9, .bool false, .bool a0_11, .bool a0_12, .int .i64 a0_13, .slice A0_14 l0_14.length c0_14, .slice A0_15 l0_15.length c0_15]) (t := 48) ?hr ?_; (case hd => rfl); (case hg => rfl); (case hr => first | (go_simp; done) | (go_simp; rfl)); intro gb121 hg w7 hbox hb; have n0_ := Aside0.mk (below_step (by repeat (first | (with_reducible first | exact HB.out | apply below_alloc | apply pw_below_drewN | apply below_drew1) | exact HB.out)) hb); have n1_ := Aside0.mk (hbox); have n2_ := Aside0.mk ((by rw [hg]; exact (below_size (by repeat (first | (with_reducible first | exact HB.out | apply below_alloc | apply pw_below_drewN | apply below_drew1) | exact HB.out))) : w.heap.size ≤ gb121)); have n3_ := Aside0.mk ((by rw [hg]; exact (below_size (by repeat (first | (with_reducible first | exact HB.out | apply below_alloc | apply pw_below_drewN | apply below_drew1) | exact HB.out))) : w.heap.size ≤ gb121)); clear HB; have HB := n0_; have BK121 := n1_; have GW121 := n2_; have GE121 := n3_; clear n0_ n1_ n2_ n3_; clear hb hbox hg; have hcz8_0 : w7.cell? ⟨gb121, 0, none⟩ = some (.int .i64 a0_0) := (blk_cell BK121.out 0).trans rfl; have hcz8_1 : w7.cell? ⟨gb121, 1, none⟩ = some (.int .i64 a0_1) := (blk_cell BK121.out 1).trans rfl; have hcz8_2 : w7.cell? ⟨gb121, 2, none⟩ = some (.int .i64 a0_2) := (blk_cell BK121.out 2).trans rfl; have hcz8_3 : w7.cell? ⟨gb121, 3, none⟩ = some (.int .i64 a0_3) := (blk_cell BK121.out 3).trans rfl; have hcz8_4 : w7.cell? ⟨gb121, 4, none⟩ = some (.int .i64 a0_4) := (blk_cell BK121.out 4).trans rfl; have hcz8_5 : w7.cell? ⟨gb121, 5, none⟩ = some (.int .i64 a0_5) := (blk_cell BK121.out 5).trans rfl; have hcz8_6 : w7.cell? ⟨gb121, 6, none⟩ = some (.int .i64 a0_6) := (blk_cell BK121.out 6).trans rfl; have hcz8_7 : w7.cell? ⟨gb121, 7, none⟩ = some (.int .i64 a0_7) := (blk_cell BK121.out 7).trans rfl; have hcz8_8 : w7.cell? ⟨gb121, 8, none⟩ = some (.int .i64 a0_8) := (blk_cell BK121.out 8).trans rfl; have hcz8_9 : w7.cell? ⟨gb121, 9, none⟩ = some (.int .i64 a0_9) := (blk_cell BK121.out 9).trans rfl; have hcz8_10 : w7.cell? ⟨gb121, 10, none⟩ = some (.bool false) := (blk_cell BK121.out 10).trans rfl; have hcz8_11 : w7.cell? ⟨gb121, 11, none⟩ = some (.bool a0_11) := (blk_cell BK121.out 11).trans rfl; have hcz8_12 : w7.cell? ⟨gb121, 12, none⟩ = some (.bool a0_12) := (blk_cell BK121.out 12).trans rfl; have hcz8_13 : w7.cell? ⟨gb121, 13, none⟩ = some (.int .i64 a0_13) := (blk_cell BK121.out 13).trans rfl; have hcz8_14 : w7.cell? ⟨gb121, 14, none⟩ = some (.slice A0_14 l0_14.length c0_14) := (blk_cell BK121.out 14).trans rfl; have hcz8_15 : w7.cell? ⟨gb121, 15, none⟩ = some (.slice A0_15 l0_15.length c0_15) := (blk_cell BK121.out 15).trans rfl; have hfz8_0 := blk_frozen BK121.out 0; have hfz8_1 := blk_frozen BK121.out 1; have hfz8_2 := blk_frozen BK121.out 2; have hfz8_3 := blk_frozen BK121.out 3; have hfz8_4 := blk_frozen BK121.out 4; have hfz8_5 := blk_frozen BK121.out 5; have hfz8_6 := blk_frozen BK121.out 6; have hfz8_7 := blk_frozen BK121.out 7; have hfz8_8 := blk_frozen BK121.out 8; have hfz8_9 := blk_frozen BK121.out 9; have hfz8_10 := blk_frozen BK121.out 10; have hfz8_11 := blk_frozen BK121.out 11; have hfz8_12 := blk_frozen BK121.out 12; have hfz8_13 := blk_frozen BK121.out 13; have hfz8_14 := blk_frozen BK121.out 14; have hfz8_15 := blk_frozen BK121.out 15))
        go_ret
        exact ⟨by first | rfl | (simp [errW_none, errW_some] <;> rfl) | (simp [*, errW_none, errW_some] <;> rfl), by repeat (first | (with_reducible first | exact HB.out | apply below_alloc | apply pw_below_drewN | apply below_drew1 | refine below_set ?_ GE121.out) | exact HB.out)⟩
      · rw [if_neg c6] at H
        have c6b0 : (a0_1 == 2) = false := beq_eq_false_iff_ne.mpr c6
        have c6b1 : (a0_1 != 2) = true := bne_iff_ne.mpr c6
        obtain rfl := Option.some.inj H
        go_enter Try.func35, Try.ntmps35
        go_wp2_with (first | ((with_reducible refine gate_dst (N := 1) rfl ?_); refine box_event ?hg (N := 1) ?hd (cs := #[.int .i64 a0_0, .int .i64 a0_1, .int .i64 a0_2, .int .i64 a0_3, .int .i64 a0_4, .int .i64 a0_5, .int .i64 a0_6, .int .i64 a0_7, .int .i64 a0_8, .int .i64 a0_9, .bool false, .bool a0_11, .bool a0_12, .int .i64 a0_13, .slice A0_14 l0_14.length c0_14, .slice A0_15 l0_15.length c0_15]) (t := 48) ?hr ?_; (case hd => rfl); (case hg => rfl); (case hr => first | (go_simp; done) | (go_simp; rfl)); intro gb121 hg w9 hbox hb; have n0_ := Aside0.mk (below_step (by repeat (first | (with_reducible first | exact HB.out | apply below_alloc | apply pw_below_drewN | apply below_drew1) | exact HB.out)) hb); have n1_ := Aside0.mk (hbox); have n2_ := Aside0.mk ((by rw [hg]; exact (below_size (by repeat (first | (with_reducible first | exact HB.out | apply below_alloc | apply pw_below_drewN | apply below_drew1) | exact HB.out))) : w.heap.size ≤ gb121)); have n3_ := Aside0.mk ((by rw [hg]; exact (below_size (by repeat (first | (with_reducible first | exact HB.out | apply below_alloc | apply pw_below_drewN | apply below_drew1) | exact HB.out))) : w.heap.size ≤ gb121)); clear HB; have HB := n0_; have BK121 := n1_; have GW121 := n2_; have GE121 := n3_; clear n0_ n1_ n2_ n3_; clear hb hbox hg; have hcz10_0 : w9.cell? ⟨gb121, 0, none⟩ = some (.int .i64 a0_0) := (blk_cell BK121.out 0).trans rfl; have hcz10_1 : w9.cell? ⟨gb121, 1, none⟩ = some (.int .i64 a0_1) := (blk_cell BK121.out 1).trans rfl; have hcz10_2 : w9.cell? ⟨gb121, 2, none⟩ = some (.int .i64 a0_2) := (blk_cell BK121.out 2).trans rfl; have hcz10_3 : w9.cell? ⟨gb121, 3, none⟩ = some (.int .i64 a0_3) := (blk_cell BK121.out 3).trans rfl; have hcz10_4 : w9.cell? ⟨gb121, 4, none⟩ = some (.int .i64 a0_4) := (blk_cell BK121.out 4).trans rfl; have hcz10_5 : w9.cell? ⟨gb121, 5, none⟩ = some (.int .i64 a0_5) := (blk_cell BK121.out 5).trans rfl; have hcz10_6 : w9.cell? ⟨gb121, 6, none⟩ = some (.int .i64 a0_6) := (blk_cell BK121.out 6).trans rfl; have hcz10_7 : w9.cell? ⟨gb121, 7, none⟩ = some (.int .i64 a0_7) := (blk_cell BK121.out 7).trans rfl; have hcz10_8 : w9.cell? ⟨gb121, 8, none⟩ = some (.int .i64 a0_8) := (blk_cell BK121.out 8).trans rfl; have hcz10_9 : w9.cell? ⟨gb121, 9, none⟩ = some (.int .i64 a0_9) := (blk_cell BK121.out 9).trans rfl; have hcz10_10 : w9.cell? ⟨gb121, 10, none⟩ = some (.bool false) := (blk_cell BK121.out 10).trans rfl; have hcz10_11 : w9.cell? ⟨gb121, 11, none⟩ = some (.bool a0_11) := (blk_cell BK121.out 11).trans rfl; have hcz10_12 : w9.cell? ⟨gb121, 12, none⟩ = some (.bool a0_12) := (blk_cell BK121.out 12).trans rfl; have hcz10_13 : w9.cell? ⟨gb121, 13, none⟩ = some (.int .i64 a0_13) := (blk_cell BK121.out 13).trans rfl; have hcz10_14 : w9.cell? ⟨gb121, 14, none⟩ = some (.slice A0_14 l0_14.length c0_14) := (blk_cell BK121.out 14).trans rfl; have hcz10_15 : w9.cell? ⟨gb121, 15, none⟩ = some (.slice A0_15 l0_15.length c0_15) := (blk_cell BK121.out 15).trans rfl; have hfz10_0 := blk_frozen BK121.out 0; have hfz10_1 := blk_frozen BK121.out 1; have hfz10_2 := blk_frozen BK121.out 2; have hfz10_3 := blk_frozen BK121.out 3; have hfz10_4 := blk_frozen BK121.out 4; have hfz10_5 := blk_frozen BK121.out 5; have hfz10_6 := blk_frozen BK121.out 6; have hfz10_7 := blk_frozen BK121.out 7; have hfz10_8 := blk_frozen BK121.out 8; have hfz10_9 := blk_frozen BK121.out 9; have hfz10_10 := blk_frozen BK121.out 10; have hfz10_11 := blk_frozen BK121.out 11; have hfz10_12 := blk_frozen BK121.out 12; have hfz10_13 := blk_frozen BK121.out 13; have hfz10_14 := blk_frozen BK121.out 14; have hfz10_15 := blk_frozen BK121.out 15))
        go_ret
        exact ⟨by first | rfl | (simp [errW_none, errW_some] <;> rfl) | (simp [*, errW_none, errW_some] <;> rfl), by repeat (first | (with_reducible first | exact HB.out | apply below_alloc | apply pw_below_drewN | apply below_drew1 | refine below_set ?_ GE121.out) | exact HB.out)⟩
  · rw [if_neg c2] at H
    have c2b0 : (a0_0 == 4) = false := beq_eq_false_iff_ne.mpr c2
    have c2b1 : (a0_0 != 4) = true := bne_iff_ne.mpr c2
    obtain rfl := Option.some.inj H
    go_enter Try.func35, Try.ntmps35
    go_wp2_with (first | ((with_reducible refine gate_dst (N := 1) rfl ?_); refine box_event ?hg (N := 1) ?hd (cs := #[.int .i64 a0_0, .int .i64 a0_1, .int .i64 a0_2, .int .i64 a0_3, .int .i64 a0_4, .int .i64 a0_5, .int .i64 a0_6, .int .i64 a0_7, .int .i64 a0_8, .int .i64 a0_9, .bool a0_10, .bool a0_11, .bool a0_12, .int .i64 a0_13, .slice A0_14 l0_14.length c0_14, .slice A0_15 l0_15.length c0_15]) (t := 48) ?hr ?_; (case hd => rfl); (case hg => rfl); (case hr => first | (go_simp; done) | (go_simp; rfl)); intro gb121 hg w11 hbox hb; have n0_ := Aside0.mk (below_step (by repeat (first | (with_reducible first | exact HB.out | apply below_alloc | apply pw_below_drewN | apply below_drew1) | exact HB.out)) hb); have n1_ := Aside0.mk (hbox); have n2_ := Aside0.mk ((by rw [hg]; exact (below_size (by repeat (first | (with_reducible first | exact HB.out | apply below_alloc | apply pw_below_drewN | apply below_drew1) | exact HB.out))) : w.heap.size ≤ gb121)); have n3_ := Aside0.mk ((by rw [hg]; exact (below_size (by repeat (first | (with_reducible first | exact HB.out | apply below_alloc | apply pw_below_drewN | apply below_drew1) | exact HB.out))) : w.heap.size ≤ gb121)); clear HB; have HB := n0_; have BK121 := n1_; have GW121 := n2_; have GE121 := n3_; clear n0_ n1_ n2_ n3_; clear hb hbox hg; have hcz12_0 : w11.cell? ⟨gb121, 0, none⟩ = some (.int .i64 a0_0) := (blk_cell BK121.out 0).trans rfl; have hcz12_1 : w11.cell? ⟨gb121, 1, none⟩ = some (.int .i64 a0_1) := (blk_cell BK121.out 1).trans rfl; have hcz12_2 : w11.cell? ⟨gb121, 2, none⟩ = some (.int .i64 a0_2) := (blk_cell BK121.out 2).trans rfl; have hcz12_3 : w11.cell? ⟨gb121, 3, none⟩ = some (.int .i64 a0_3) := (blk_cell BK121.out 3).trans rfl; have hcz12_4 : w11.cell? ⟨gb121, 4, none⟩ = some (.int .i64 a0_4) := (blk_cell BK121.out 4).trans rfl; have hcz12_5 : w11.cell? ⟨gb121, 5, none⟩ = some (.int .i64 a0_5) := (blk_cell BK121.out 5).trans rfl; have hcz12_6 : w11.cell? ⟨gb121, 6, none⟩ = some (.int .i64 a0_6) := (blk_cell BK121.out 6).trans rfl; have hcz12_7 : w11.cell? ⟨gb121, 7, none⟩ = some (.int .i64 a0_7) := (blk_cell BK121.out 7).trans rfl; have hcz12_8 : w11.cell? ⟨gb121, 8, none⟩ = some (.int .i64 a0_8) := (blk_cell BK121.out 8).trans rfl; have hcz12_9 : w11.cell? ⟨gb121, 9, none⟩ = some (.int .i64 a0_9) := (blk_cell BK121.out 9).trans rfl; have hcz12_10 : w11.cell? ⟨gb121, 10, none⟩ = some (.bool a0_10) := (blk_cell BK121.out 10).trans rfl; have hcz12_11 : w11.cell? ⟨gb121, 11, none⟩ = some (.bool a0_11) := (blk_cell BK121.out 11).trans rfl; have hcz12_12 : w11.cell? ⟨gb121, 12, none⟩ = some (.bool a0_12) := (blk_cell BK121.out 12).trans rfl; have hcz12_13 : w11.cell? ⟨gb121, 13, none⟩ = some (.int .i64 a0_13) := (blk_cell BK121.out 13).trans rfl; have hcz12_14 : w11.cell? ⟨gb121, 14, none⟩ = some (.slice A0_14 l0_14.length c0_14) := (blk_cell BK121.out 14).trans rfl; have hcz12_15 : w11.cell? ⟨gb121, 15, none⟩ = some (.slice A0_15 l0_15.length c0_15) := (blk_cell BK121.out 15).trans rfl; have hfz12_0 := blk_frozen BK121.out 0; have hfz12_1 := blk_frozen BK121.out 1; have hfz12_2 := blk_frozen BK121.out 2; have hfz12_3 := blk_frozen BK121.out 3; have hfz12_4 := blk_frozen BK121.out 4; have hfz12_5 := blk_frozen BK121.out 5; have hfz12_6 := blk_frozen BK121.out 6; have hfz12_7 := blk_frozen BK121.out 7; have hfz12_8 := blk_frozen BK121.out 8; have hfz12_9 := blk_frozen BK121.out 9; have hfz12_10 := blk_frozen BK121.out 10; have hfz12_11 := blk_frozen BK121.out 11; have hfz12_12 := blk_frozen BK121.out 12; have hfz12_13 := blk_frozen BK121.out 13; have hfz12_14 := blk_frozen BK121.out 14; have hfz12_15 := blk_frozen BK121.out 15))
    go_ret
    exact ⟨by first | rfl | (simp [errW_none, errW_some] <;> rfl) | (simp [*, errW_none, errW_some] <;> rfl), by repeat (first | (with_reducible first | exact HB.out | apply below_alloc | apply pw_below_drewN | apply below_drew1 | refine below_set ?_ GE121.out) | exact HB.out)⟩

/-! ### throttle_Count: function 15 -/
def throttle_Count.l0 : Nat → List (S48) → Int → Int → Int → Option (Int)
  | 0, _, _, _, _ => none
  | k + 1, x0, x3, x6, x7 => if x7 < x6 then (if 0 ≤ x7 then (if x7 < (x0.length : Int) then ((throttle_Counts.f ((rd_T48 x0 x7).f0) ((rd_T48 x0 x7).f1) ((rd_T48 x0 x7).f2) ((rd_T48 x0 x7).f3) ((rd_T48 x0 x7).f4) ((rd_T48 x0 x7).f5) ((rd_T48 x0 x7).f6) ((rd_T48 x0 x7).f7) ((rd_T48 x0 x7).f8) ((rd_T48 x0 x7).f9) ((rd_T48 x0 x7).f10) ((rd_T48 x0 x7).f11) ((rd_T48 x0 x7).f12) ((rd_T48 x0 x7).f13) ((rd_T48 x0 x7).f14) ((rd_T48 x0 x7).f15)).bind fun t123 => (if t123 = true then (throttle_Count.l0 k x0 (wrap64 (x3 + 1)) x6 (wrap64 (x7 + 1))) else (throttle_Count.l0 k x0 x3 x6 (wrap64 (x7 + 1))))) else (none)) else (none)) else (some x3)
def throttle_Count.f (k : Nat) (l0 : List (S48)) : Option (Int) := throttle_Count.l0 k l0 0 (l0.length : Int) 0
theorem throttle_Count.mono_l : ∀ k, (∀ y0 y1 y2 y3, LeO (throttle_Count.l0 k y0 y1 y2 y3) (throttle_Count.l0 (k + 1) y0 y1 y2 y3))
  | 0 => fun _ _ _ _ r h => by simp [throttle_Count.l0] at h
  | k + 1 => by
    have ih0 := throttle_Count.mono_l k
    · intro y0 y1 y2 y3
      unfold throttle_Count.l0
      repeat' first
      | (with_reducible exact ih0 _ _ _ _)
      | (with_reducible exact LeO.refl _)
      | (with_reducible exact LeO.none _)
      | (with_reducible refine LeO.ite ?_ ?_)
      | (with_reducible refine LeO.bind ?_ (fun _ => ?_))
      | exact ih0 _ _ _ _
      | exact LeO.none _
      | refine LeO.ite ?_ ?_
      | refine LeO.bind ?_ (fun _ => ?_)
theorem throttle_Count.mono : ∀ a0 k, LeO (throttle_Count.f k a0) (throttle_Count.f (k + 1) a0) := by
  intro a0 k
  have ih0 := throttle_Count.mono_l k
  unfold throttle_Count.f
  repeat' first
      | (with_reducible exact ih0 _ _ _ _)
      | (with_reducible exact LeO.refl _)
      | (with_reducible exact LeO.none _)
      | (with_reducible refine LeO.ite ?_ ?_)
      | (with_reducible refine LeO.bind ?_ (fun _ => ?_))
      | exact ih0 _ _ _ _
      | exact LeO.none _
      | refine LeO.ite ?_ ?_
      | refine LeO.bind ?_ (fun _ => ?_)
set_option maxHeartbeats 8000000 in
set_option maxRecDepth 100000 in
theorem throttle_Count.calls (k : Nat) (A0 : Option Addr) (c0 : Nat) (l0 : List (S48)) (r : Int) (w : World) (hr0 : Kd.C k48 w A0 l0.length l0) (hc0 : l0.length ≤ c0) (h : throttle_Count.f k l0 = some r) :
    Calls Try.prog 15 #[.slice A0 l0.length c0] w fun e w' => e = .returned (.int .i64 r) ∧ Below w.heap.size w w' := by
  have hu48 := Try.underlying48
  have HR0 := Aside0.mk hr0
  have HC0 := Aside0.mk hc0
  clear hr0 hc0
  have HB := Aside0.mk (Below.refl w.heap.size w)
  have H : (throttle_Count.l0 k l0 0 (l0.length : Int) 0) = some r := h
  clear h
  have H' := Aside0.mk H
  clear H
  go_enter Try.func15, Try.ntmps15
  go_wp2
  go_loopg [3, 7] k (fun kq v3 v7 w' => ∃ (x3_1 : Int) (x7_1 : Int), v3 = .int .i64 x3_1 ∧ v7 = .int .i64 x7_1 ∧ Aside0 (throttle_Count.l0 kq l0 x3_1 (l0.length : Int) x7_1 = some r) ∧ Aside0 (kq ≤ k) ∧ Aside0 (Below w.heap.size w w'))
  case atStart => exact ⟨(0), (0), (by first | rfl | (simp; done) | (simp [*]; done)), (by first | rfl | (simp; done) | (simp [*]; done)), H', ⟨Nat.le_refl _⟩, ⟨by repeat (first | (with_reducible first | exact HB.out | apply below_alloc | apply pw_below_drewN | apply below_drew1) | exact HB.out)⟩⟩
  case round =>
    clear H'
    try clear c1
    obtain ⟨x3_1, x7_1, rfl, rfl, HA, HK1, HB⟩ := hrel
    cases gk with
    | zero => exact absurd HA.out (by simp [throttle_Count.l0])
    | succ k1 =>
      have H := HA.out
      clear HA
      simp only [throttle_Count.l0] at H
      by_cases c2 : x7_1 < (l0.length : Int)
      · rw [if_pos c2] at H
        have c2b0 : decide (x7_1 < (l0.length : Int)) = true := decide_eq_true c2
        clear c2
        by_cases c3 : 0 ≤ x7_1
        · rw [if_pos c3] at H
          have c3b0 : decide (0 ≤ x7_1) = true := decide_eq_true c3
          clear c3
          by_cases c4 : x7_1 < (l0.length : Int)
          · rw [if_pos c4] at H
            have c4b0 : decide (x7_1 < (l0.length : Int)) = true := decide_eq_true c4
            clear c4
            replace H := Option.bind_eq_some_iff.mp H
            obtain ⟨t123, A50, H⟩ := H
            replace H : (if t123 = true then (throttle_Count.l0 k1 l0 (wrap64 (x3_1 + 1)) (l0.length : Int) (wrap64 (x7_1 + 1))) else (throttle_Count.l0 k1 l0 x3_1 (l0.length : Int) (wrap64 (x7_1 + 1)))) = some r := H
            have A5 := Aside0.mk A50
            clear A50
            by_cases c6 : t123 = true
            · subst c6
              have H1 : (throttle_Count.l0 k1 l0 (wrap64 (x3_1 + 1)) (l0.length : Int) (wrap64 (x7_1 + 1))) = some r := by rw [if_pos rfl] at H; exact H
              clear H
              have H := H1
              clear H1
              have H' := Aside0.mk H
              clear H
              have p122 : 0 ≤ (x7_1 : Int) := of_decide_eq_true (by first | (with_reducible assumption) | assumption)
              have q122 : x7_1 < (l0.length : Int) := of_decide_eq_true (by first | (with_reducible assumption) | assumption)
              obtain ⟨ad122, A122_14, c122_14, A122_15, c122_15, e122, hx122_0, hx122_1, hx122_2, hx122_3, hx122_4, hx122_5, hx122_6, hx122_7, hx122_8, hx122_9, hx122_10, hx122_11, hx122_12, hx122_13, hx122_14, hx122_15, hl122_14, hi122_14, hl122_15, hi122_15⟩ := at_T48 HR0.out x7_1 p122 q122
              cases e122
              replace hx122_0 := (HB.out.cell (World.block_lt_of_cell? w _ hx122_0)).trans hx122_0
              replace hx122_1 := (HB.out.cell (World.block_lt_of_cell? w _ hx122_1)).trans hx122_1
              replace hx122_2 := (HB.out.cell (World.block_lt_of_cell? w _ hx122_2)).trans hx122_2
              replace hx122_3 := (HB.out.cell (World.block_lt_of_cell? w _ hx122_3)).trans hx122_3
              replace hx122_4 := (HB.out.cell (World.block_lt_of_cell? w _ hx122_4)).trans hx122_4
              replace hx122_5 := (HB.out.cell (World.block_lt_of_cell? w _ hx122_5)).trans hx122_5
              replace hx122_6 := (HB.out.cell (World.block_lt_of_cell? w _ hx122_6)).trans hx122_6
              replace hx122_7 := (HB.out.cell (World.block_lt_of_cell? w _ hx122_7)).trans hx122_7
              replace hx122_8 := (HB.out.cell (World.block_lt_of_cell? w _ hx122_8)).trans hx122_8
              replace hx122_9 := (HB.out.cell (World.block_lt_of_cell? w _ hx122_9)).trans hx122_9
              replace hx122_10 := (HB.out.cell (World.block_lt_of_cell? w _ hx122_10)).trans hx122_10
              replace hx122_11 := (HB.out.cell (World.block_lt_of_cell? w _ hx122_11)).trans hx122_11
              replace hx122_12 := (HB.out.cell (World.block_lt_of_cell? w _ hx122_12)).trans hx122_12
              replace hx122_13 := (HB.out.cell (World.block_lt_of_cell? w _ hx122_13)).trans hx122_13
              replace hx122_14 := (HB.out.cell (World.block_lt_of_cell? w _ hx122_14)).trans hx122_14
              replace hx122_15 := (HB.out.cell (World.block_lt_of_cell? w _ hx122_15)).trans hx122_15
              have HR122_14 := Aside0.mk hi122_14
              have HC122_14 := Aside0.mk hl122_14
              clear hi122_14 hl122_14
              have HR122_15 := Aside0.mk hi122_15
              have HC122_15 := Aside0.mk hl122_15
              clear hi122_15 hl122_15
              replace p122 := eq_true p122
              replace q122 := eq_true q122
              go_wp2_with (first | ((with_reducible refine gate_callee (f := 35) rfl ?_); refine goesL_ (some 14) rfl rfl Try.func35 (by kernel_rfl) rfl #[.agg #[.int .i64 ((rd_T48 l0 x7_1).f0), .int .i64 ((rd_T48 l0 x7_1).f1), .int .i64 ((rd_T48 l0 x7_1).f2), .int .i64 ((rd_T48 l0 x7_1).f3), .int .i64 ((rd_T48 l0 x7_1).f4), .int .i64 ((rd_T48 l0 x7_1).f5), .int .i64 ((rd_T48 l0 x7_1).f6), .int .i64 ((rd_T48 l0 x7_1).f7), .int .i64 ((rd_T48 l0 x7_1).f8), .int .i64 ((rd_T48 l0 x7_1).f9), .bool ((rd_T48 l0 x7_1).f10), .bool ((rd_T48 l0 x7_1).f11), .bool ((rd_T48 l0 x7_1).f12), .int .i64 ((rd_T48 l0 x7_1).f13), .slice A122_14 ((rd_T48 l0 x7_1).f14).length c122_14, .slice A122_15 ((rd_T48 l0 x7_1).f15).length c122_15]] rfl (by (try simp only [List.map_toArray, List.map_cons, List.map_nil]); first | done | rfl | (simp only [List.length_drop, List.length_take]; rfl)) ?_; (with_reducible refine (throttle_Counts.calls ((rd_T48 l0 x7_1).f0) ((rd_T48 l0 x7_1).f1) ((rd_T48 l0 x7_1).f2) ((rd_T48 l0 x7_1).f3) ((rd_T48 l0 x7_1).f4) ((rd_T48 l0 x7_1).f5) ((rd_T48 l0 x7_1).f6) ((rd_T48 l0 x7_1).f7) ((rd_T48 l0 x7_1).f8) ((rd_T48 l0 x7_1).f9) ((rd_T48 l0 x7_1).f10) ((rd_T48 l0 x7_1).f11) ((rd_T48 l0 x7_1).f12) ((rd_T48 l0 x7_1).f13) _ _ ((rd_T48 l0 x7_1).f14) _ _ ((rd_T48 l0 x7_1).f15) true _ ?side1 ?side2 ?side3 ?side4 A5.out).mono ?_); (case side1 => repeat (first | exact (Kd.C_below HR122_14.out HB.out) | (with_reducible refine Kd.C_alloc ?_ _) | (with_reducible refine Kd.C_drewN ?_ _) | (with_reducible refine Kd.C_drew ?_))); (case side2 => exact HC122_14.out); (case side3 => repeat (first | exact (Kd.C_below HR122_15.out HB.out) | (with_reducible refine Kd.C_alloc ?_ _) | (with_reducible refine Kd.C_drewN ?_ _) | (with_reducible refine Kd.C_drew ?_))); (case side4 => exact HC122_15.out); rintro e w7 ⟨rfl, hb⟩; refine ⟨_, rfl, ?_⟩; have n0_ := Aside0.mk (below_step (by repeat (first | (with_reducible first | exact HB.out | apply below_alloc | apply pw_below_drewN | apply below_drew1) | exact HB.out)) hb); clear HB; have HB := n0_; clear n0_; (try clear hb); (try clear hb2); (try clear hk); (try clear hi)))
              go_roundg k1
              case measure => have := HK1.out; omega
              case rel => exact ⟨(wrap64 (x3_1 + 1)), (wrap64 (x7_1 + 1)), (by first | rfl | (simp; done) | (simp [*]; done)), (by first | rfl | (simp; done) | (simp [*]; done)), H', ⟨by have := HK1.out; omega⟩, ⟨by repeat (first | (with_reducible first | exact HB.out | apply below_alloc | apply pw_below_drewN | apply below_drew1) | exact HB.out)⟩⟩
            · replace c6 := Bool.eq_false_iff.mpr c6
              subst c6
              have H1 : (throttle_Count.l0 k1 l0 x3_1 (l0.length : Int) (wrap64 (x7_1 + 1))) = some r := by rw [if_neg (show ¬ (false = true) by decide)] at H; exact H
              clear H
              have H := H1
              clear H1
              have H' := Aside0.mk H
              clear H
              have p122 : 0 ≤ (x7_1 : Int) := of_decide_eq_true (by first | (with_reducible assumption) | assumption)
              have q122 : x7_1 < (l0.length : Int) := of_decide_eq_true (by first | (with_reducible assumption) | assumption)
              obtain ⟨ad122, A122_14, c122_14, A122_15, c122_15, e122, hx122_0, hx122_1, hx122_2, hx122_3, hx122_4, hx122_5, hx122_6, hx122_7, hx122_8, hx122_9, hx122_10, hx122_11, hx122_12, hx122_13, hx122_14, hx122_15, hl122_14, hi122_14, hl122_15, hi122_15⟩ := at_T48 HR0.out x7_1 p122 q122
              cases e122
              replace hx122_0 := (HB.out.cell (World.block_lt_of_cell? w _ hx122_0)).trans hx122_0
              replace hx122_1 := (HB.out.cell (World.block_lt_of_cell? w _ hx122_1)).trans hx122_1
              replace hx122_2 := (HB.out.cell (World.block_lt_of_cell? w _ hx122_2)).trans hx122_2
              replace hx122_3 := (HB.out.cell (World.block_lt_of_cell? w _ hx122_3)).trans hx122_3
              replace hx122_4 := (HB.out.cell (World.block_lt_of_cell? w _ hx122_4)).trans hx122_4
              replace hx122_5 := (HB.out.cell (World.block_lt_of_cell? w _ hx122_5)).trans hx122_5
              replace hx122_6 := (HB.out.cell (World.block_lt_of_cell? w _ hx122_6)).trans hx122_6
              replace hx122_7 := (HB.out.cell (World.block_lt_of_cell? w _ hx122_7)).trans hx122_7
              replace hx122_8 := (HB.out.cell (World.block_lt_of_cell? w _ hx122_8)).trans hx122_8
              replace hx122_9 := (HB.out.cell (World.block_lt_of_cell? w _ hx122_9)).trans hx122_9
              replace hx122_10 := (HB.out.cell (World.block_lt_of_cell? w _ hx122_10)).trans hx122_10
              replace hx122_11 := (HB.out.cell (World.block_lt_of_cell? w _ hx122_11)).trans hx122_11
              replace hx122_12 := (HB.out.cell (World.block_lt_of_cell? w _ hx122_12)).trans hx122_12
              replace hx122_13 := (HB.out.cell (World.block_lt_of_cell? w _ hx122_13)).trans hx122_13
              replace hx122_14 := (HB.out.cell (World.block_lt_of_cell? w _ hx122_14)).trans hx122_14
              replace hx122_15 := (HB.out.cell (World.block_lt_of_cell? w _ hx122_15)).trans hx122_15
              have HR122_14 := Aside0.mk hi122_14
              have HC122_14 := Aside0.mk hl122_14
              clear hi122_14 hl122_14
              have HR122_15 := Aside0.mk hi122_15
              have HC122_15 := Aside0.mk hl122_15
              clear hi122_15 hl122_15
              replace p122 := eq_true p122
              replace q122 := eq_true q122
              go_wp2_with (first | ((with_reducible refine gate_callee (f := 35) rfl ?_); refine goesL_ (some 14) rfl rfl Try.func35 (by kernel_rfl) rfl #[.agg #[.int .i64 ((rd_T48 l0 x7_1).f0), .int .i64 ((rd_T48 l0 x7_1).f1), .int .i64 ((rd_T48 l0 x7_1).f2), .int .i64 ((rd_T48 l0 x7_1).f3), .int .i64 ((rd_T48 l0 x7_1).f4), .int .i64 ((rd_T48 l0 x7_1).f5), .int .i64 ((rd_T48 l0 x7_1).f6), .int .i64 ((rd_T48 l0 x7_1).f7), .int .i64 ((rd_T48 l0 x7_1).f8), .int .i64 ((rd_T48 l0 x7_1).f9), .bool ((rd_T48 l0 x7_1).f10), .bool ((rd_T48 l0 x7_1).f11), .bool ((rd_T48 l0 x7_1).f12), .int .i64 ((rd_T48 l0 x7_1).f13), .slice A122_14 ((rd_T48 l0 x7_1).f14).length c122_14, .slice A122_15 ((rd_T48 l0 x7_1).f15).length c122_15]] rfl (by (try simp only [List.map_toArray, List.map_cons, List.map_nil]); first | done | rfl | (simp only [List.length_drop, List.length_take]; rfl)) ?_; (with_reducible refine (throttle_Counts.calls ((rd_T48 l0 x7_1).f0) ((rd_T48 l0 x7_1).f1) ((rd_T48 l0 x7_1).f2) ((rd_T48 l0 x7_1).f3) ((rd_T48 l0 x7_1).f4) ((rd_T48 l0 x7_1).f5) ((rd_T48 l0 x7_1).f6) ((rd_T48 l0 x7_1).f7) ((rd_T48 l0 x7_1).f8) ((rd_T48 l0 x7_1).f9) ((rd_T48 l0 x7_1).f10) ((rd_T48 l0 x7_1).f11) ((rd_T48 l0 x7_1).f12) ((rd_T48 l0 x7_1).f13) _ _ ((rd_T48 l0 x7_1).f14) _ _ ((rd_T48 l0 x7_1).f15) false _ ?side1 ?side2 ?side3 ?side4 A5.out).mono ?_); (case side1 => repeat (first | exact (Kd.C_below HR122_14.out HB.out) | (with_reducible refine Kd.C_alloc ?_ _) | (with_reducible refine Kd.C_drewN ?_ _) | (with_reducible refine Kd.C_drew ?_))); (case side2 => exact HC122_14.out); (case side3 => repeat (first | exact (Kd.C_below HR122_15.out HB.out) | (with_reducible refine Kd.C_alloc ?_ _) | (with_reducible refine Kd.C_drewN ?_ _) | (with_reducible refine Kd.C_drew ?_))); (case side4 => exact HC122_15.out); rintro e w8 ⟨rfl, hb⟩; refine ⟨_, rfl, ?_⟩; have n0_ := Aside0.mk (below_step (by repeat (first | (with_reducible first | exact HB.out | apply below_alloc | apply pw_below_drewN | apply below_drew1) | exact HB.out)) hb); clear HB; have HB := n0_; clear n0_; (try clear hb); (try clear hb2); (try clear hk); (try clear hi)))
              go_roundg k1
              case measure => have := HK1.out; omega
              case rel => exact ⟨(x3_1), (wrap64 (x7_1 + 1)), (by first | rfl | (simp; done) | (simp [*]; done)), (by first | rfl | (simp; done) | (simp [*]; done)), H', ⟨by have := HK1.out; omega⟩, ⟨by repeat (first | (with_reducible first | exact HB.out | apply below_alloc | apply pw_below_drewN | apply below_drew1) | exact HB.out)⟩⟩
          · rw [if_neg c4] at H
            exact absurd H (by simp)
        · rw [if_neg c3] at H
          exact absurd H (by simp)
      · rw [if_neg c2] at H
        have c2b0 : decide (x7_1 < (l0.length : Int)) = false := decide_eq_false c2
        clear c2
        obtain rfl := Option.some.inj H
        go_wp2
        go_ret
        exact ⟨by first | rfl | (simp [errW_none, errW_some] <;> rfl) | (simp [*, errW_none, errW_some] <;> rfl), by repeat (first | (with_reducible first | exact HB.out | apply below_alloc | apply pw_below_drewN | apply below_drew1) | exact HB.out)⟩

end Go.Proofs.Ytpccpkpljlafcaa.PTopOldestFirst
