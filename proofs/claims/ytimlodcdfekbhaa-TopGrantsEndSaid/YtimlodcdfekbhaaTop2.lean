/- The queue's own test (right) answers true where usages and supplies are those of what is granted. -/
import Derived.Test.YtimlodcdfekbhaaTop1
namespace Go.Proofs.Ytimlodcdfekbhaa.Pure
open Go.RowKit Go.Proofs.Ytimlodcdfekbhaa.PTopGrantsEnd Go.Proofs.YtimlodcdfekbhaaW.PrintWords Go.Proofs.YtimlodcdfekbhaaW.PrintLast Go.Proofs.YtimlodcdfekbhaaW.PrintMore
set_option linter.unusedVariables false
set_option linter.unusedSimpArgs false
theorem St_below {w w' : World} {base g : Nat} {s : BQ} {vq vl vo : Value} (h : StV w base g s vq vl vo) (hb : Below w.heap.size w w') : StV w' base g s vq vl vo :=
  ⟨h.1, blk_below h.2.1 hb, Kd.Q_below h.2.2.1 hb, Kd.R_below h.2.2.2.1 hb, Kd.R_below h.2.2.2.2 hb⟩
theorem store39 {w w5 : World} {gx : Nat} (x : S39) (hb : Below w.heap.size w w5) (hg : w.heap.size ≤ gx) {c0 c1 c2 c3 c4 : Value} (hx : w5.heap[gx]? = some (.cells #[c0, c1, c2, c3, c4] 39 (0, 0))) :
    ∃ w6, w6 = ((((w5.setCell ⟨gx, 0, none⟩ (.int .i64 x.f0)).setCell ⟨gx, 1, none⟩ (.int .i64 x.f1.f0)).setCell ⟨gx, 2, none⟩ (.int .i64 x.f1.f1)).setCell ⟨gx, 3, none⟩ (.int .i64 x.f1.f2)).setCell ⟨gx, 4, none⟩ (.int .i64 x.f1.f3) ∧
      Below w.heap.size w w6 ∧ w6.heap[gx]? = some (.cells #[.int .i64 x.f0, .int .i64 x.f1.f0, .int .i64 x.f1.f1, .int .i64 x.f1.f2, .int .i64 x.f1.f3] 39 (0, 0)) ∧ ∀ k, k ≠ gx → w6.heap[k]? = w5.heap[k]? := by
  refine ⟨_, rfl, ?_, blk_put (blk_put (blk_put (blk_put (blk_put hx 0 _ rfl) 1 _ rfl) 2 _ rfl) 3 _ rfl) 4 _ rfl, fun k hk => ?_⟩
  · exact ((((hb.setCell (p := ⟨gx, 0, none⟩) hg _).setCell (p := ⟨gx, 1, none⟩) hg _).setCell (p := ⟨gx, 2, none⟩) hg _).setCell (p := ⟨gx, 3, none⟩) hg _).setCell (p := ⟨gx, 4, none⟩) hg _
  · rw [Below.heap_setCell _ _ _ _ hk, Below.heap_setCell _ _ _ _ hk, Below.heap_setCell _ _ _ _ hk, Below.heap_setCell _ _ _ _ hk, Below.heap_setCell _ _ _ _ hk]
theorem types_ne {w : World} {a b t u : Nat} {c d : Array Value} (h1 : w.heap[a]? = some (.cells c t (0, 0))) (h2 : w.heap[b]? = some (.cells d u (0, 0))) (hn : t ≠ u) : a ≠ b := by
  rintro rfl
  rw [h1] at h2
  injection h2 with h2
  injection h2 with _ h2
  exact hn h2
theorem upd {P : List Int} (hn : P.Nodup) {j : Int} (h0 : 0 ≤ j) (h1 : j < P.length) {a : Int} (ha : rd P j = a) (m u T : Int) :
    (u + if m ∈ P.take (j + 1).toNat then T else 0) = (u + if m ∈ P.take j.toNat then T else 0) + (if m = a then T else 0) := by
  have hj : j.toNat < P.length := by omega
  have e : P.take (j + 1).toNat = P.take j.toNat ++ [a] := by
    rw [show (j + 1).toNat = j.toNat + 1 by omega, List.take_succ_eq_append_getElem hj, ← ha]
    unfold rd
    rw [List.getD_eq_getElem?_getD, List.getElem?_eq_getElem hj]
    rfl
  have hna : a ∉ P.take j.toNat := by
    intro hm
    have h2 := hn.sublist (List.take_sublist (j + 1).toNat P)
    rw [e] at h2
    exact (List.nodup_append.1 h2).2.2 a hm a (by simp) rfl
  rw [e]
  by_cases hm : m = a
  · subst hm
    simp [hna]
  · simp [hm]
theorem path_lO {x : S37} (h : smA x) {o : List S39} (ho : Lim o) {P : List Int} (hP : pathI (lO o) x.f1 = P) : P.Nodup ∧ (∀ y ∈ P, y = 0 ∨ y = 1 ∨ y = 2) ∧ (0 ∈ P) ∧ (1 ∈ P ↔ 1 ≤ x.f1) ∧ (2 ∈ P ↔ 2 ≤ x.f1) ∧ P.length ≤ 3 := by
  have hlen : (lO o).length = 3 := rfl
  have hb := h.b
  unfold pathI at hP
  rw [if_pos ⟨chk_ok.2 ho.ok, hb.2.2.2.2.2.1, by rw [hlen]; omega⟩] at hP
  unfold lO at hP
  rcases h.cases with e | e | e <;> rw [e] at hP ⊢
  · rw [show ((0 : Int)).toNat = 0 from rfl, pth_lF0] at hP
    subst hP
    simp [ints]
  · rw [show ((1 : Int)).toNat = 1 from rfl, pth_lF1] at hP
    subst hP
    simp [ints]
  · rw [show ((2 : Int)).toNat = 2 from rfl, pth_lF2] at hP
    subst hP
    simp [ints]
theorem uS_bd (j : Int) : ∀ o : List S39, (∀ x ∈ o, smA x.f1) → uS j o ≤ 5 * o.length
  | [], _ => by simp [uS]
  | x :: o, h => by
    have := uS_bd j o (fun y hy => h y (List.mem_cons_of_mem _ hy))
    have := (h x List.mem_cons_self).b
    rw [uS_cons, List.length_cons]
    split <;> omega
theorem store5 {w w5 : World} {gx t : Nat} (v0 v1 v2 v3 v4 : Value) (hb : Below w.heap.size w w5) (hg : w.heap.size ≤ gx) {c0 c1 c2 c3 c4 : Value} (hx : w5.heap[gx]? = some (.cells #[c0, c1, c2, c3, c4] t (0, 0))) :
    ∃ w6, w6 = ((((w5.setCell ⟨gx, 0, none⟩ v0).setCell ⟨gx, 1, none⟩ v1).setCell ⟨gx, 2, none⟩ v2).setCell ⟨gx, 3, none⟩ v3).setCell ⟨gx, 4, none⟩ v4 ∧
      Below w.heap.size w w6 ∧ w6.heap[gx]? = some (.cells #[v0, v1, v2, v3, v4] t (0, 0)) ∧ ∀ k, k ≠ gx → w6.heap[k]? = w5.heap[k]? := by
  refine ⟨_, rfl, ?_, blk_put (blk_put (blk_put (blk_put (blk_put hx 0 _ rfl) 1 _ rfl) 2 _ rfl) 3 _ rfl) 4 _ rfl, fun k hk => ?_⟩
  · exact ((((hb.setCell (p := ⟨gx, 0, none⟩) hg _).setCell (p := ⟨gx, 1, none⟩) hg _).setCell (p := ⟨gx, 2, none⟩) hg _).setCell (p := ⟨gx, 3, none⟩) hg _).setCell (p := ⟨gx, 4, none⟩) hg _
  · rw [Below.heap_setCell _ _ _ _ hk, Below.heap_setCell _ _ _ _ hk, Below.heap_setCell _ _ _ _ hk, Below.heap_setCell _ _ _ _ hk, Below.heap_setCell _ _ _ _ hk]
set_option maxHeartbeats 8000000 in
set_option maxRecDepth 100000 in
theorem right.calls (w : World) (base g : Nat) (s : BQ) (vq vl vo : Value) (hst : StV w base g s vq vl vo) (hl : s.l = lO s.out) (ho : Lim s.out) (hn : 0 ≤ s.n) (ha : 0 ≤ s.a) (hlen : s.out.length ≤ 1000) :
    Calls Try.prog 35 #[.pointer (some ⟨g, 0, none⟩)] w fun e w' => e = .returned (.bool true) ∧ Below w.heap.size w w' := by
  obtain ⟨hb, hg, hq, hL, hO⟩ := hst
  obtain ⟨Al, cl, el, hlc, hlr⟩ := Kd.R_reads hL
  obtain ⟨Ao, co, eo, hoc, hor⟩ := Kd.R_reads hO
  subst el eo
  have hll : s.l.length = 3 := by rw [hl]; rfl
  have d1 := blk_cell hg 1
  have c1 : w.cell? ⟨g, 1, none⟩ = some (.slice Al s.l.length cl) := (blk_cell hg 1).trans rfl
  have hl3 : (((s.l.length : Nat) : Int) != 3) = false := by rw [hll]; rfl
  have c2 : w.cell? ⟨g, 2, none⟩ = some (.int .i64 s.n) := (blk_cell hg 2).trans rfl
  have c3 : w.cell? ⟨g, 3, none⟩ = some (.int .i64 s.a) := (blk_cell hg 3).trans rfl
  have c14 : w.cell? ⟨g, 14, none⟩ = some (.slice Ao s.out.length co) := (blk_cell hg 14).trans rfl
  have hn0 : decide (s.n < 0) = false := decide_eq_false (by omega)
  have ha0 : decide (s.a < 0) = false := decide_eq_false (by omega)
  have HB := Aside0.mk (Below.refl w.heap.size w)
  have HL := Aside0.mk hl
  have HLL := Aside0.mk hll
  have HOUT := Aside0.mk (And.intro ho hlen)
  have HGB := Aside0.mk hg
  clear d1 hl hll ho hlen hg hq hL hO hb hoc hn ha
  go_enter Try.func35, Try.ntmps35
  go_wp2_with (first | ((with_reducible refine gate_dst (N := 3) rfl ?_); refine box_event ?hg (N := 3) ?hd (cs := #[.int .i64 0, .int .i64 0, .int .i64 0]) (t := 91) ?hr ?_; (case hd => rfl); (case hg => rfl); (case hr => first | (go_simp; done) | (go_simp; rfl)); intro gw hgw w1 hbox hb; have HW := Aside0.mk hbox; have HG := Aside0.mk ((by rw [hgw]; exact Nat.le_refl _) : w.heap.size ≤ gw); have HB1 := Aside0.mk hb; have e14 := (hb.cell (World.block_lt_of_cell? _ _ c14)).trans c14; clear hbox hb hgw HB; have HB := HB1; clear HB1))
  go_loopg [35] s.out.length (fun kq v35 w' => ∃ i : Int, v35 = .int .i64 i ∧ Aside0 (0 ≤ i ∧ i + kq = s.out.length) ∧ Aside0 (w'.heap[gw]? = some (.cells #[.int .i64 (uS 0 (s.out.take i.toNat)), .int .i64 (uS 1 (s.out.take i.toNat)), .int .i64 (uS 2 (s.out.take i.toNat))] 91 (0, 0))) ∧ Aside0 (Below w.heap.size w w'))
  case atStart => exact ⟨0, by simp, ⟨by omega⟩, HW, HB⟩
  case round =>
    clear HW HB e14
    obtain ⟨i, rfl, HI, HW, HB⟩ := hrel
    by_cases hi : i < (s.out.length : Int)
    · have hib : decide (i < (s.out.length : Int)) = true := decide_eq_true hi
      obtain ⟨k0, rfl⟩ : ∃ k0, gk = k0 + 1 := ⟨gk - 1, by have := HI.out; omega⟩
      have p0 : 0 ≤ i := HI.out.1
      obtain ⟨ad, e0, x0, x1, x2, x3, x4⟩ := at_T39 hor i p0 hi
      cases e0
      replace x0 := (HB.out.cell (World.block_lt_of_cell? w _ x0)).trans x0
      replace x1 := (HB.out.cell (World.block_lt_of_cell? w _ x1)).trans x1
      replace x2 := (HB.out.cell (World.block_lt_of_cell? w _ x2)).trans x2
      replace x3 := (HB.out.cell (World.block_lt_of_cell? w _ x3)).trans x3
      replace x4 := (HB.out.cell (World.block_lt_of_cell? w _ x4)).trans x4
      have hx : rd_T39 s.out i = s.out[i.toNat]'(by omega) := by
        unfold rd_T39
        rw [List.getD_eq_getElem?_getD, List.getElem?_eq_getElem (by omega)]
        rfl
      have hsm := HOUT.out.1.sm _ (List.getElem_mem (show i.toNat < s.out.length by omega))
      rw [← hx] at hsm
      have hnx : s.out.take (i + 1).toNat = s.out.take i.toNat ++ [rd_T39 s.out i] := by
        rw [hx, show (i + 1).toNat = i.toNat + 1 by omega, List.take_succ_eq_append_getElem (by omega)]
      have hw1 : IntKind.i64.wrap (i + 1) = i + 1 := by
        have := HOUT.out.2
        rw [IntKind.wrap_i64]
        omega
      have P0 := Aside0.mk (And.intro p0 hi)
      replace p0 := eq_true p0
      have hi1 := eq_true hi
      have HX := Aside0.mk hsm
      have HN := Aside0.mk hnx
      clear hx hsm hnx
      obtain ⟨kp, hkp⟩ := Ev.rounds (prog_path s.l (rd_T39 s.out i).f1.f1)
      have HP := Aside0.mk hkp
      clear hkp
      generalize rd_T39 s.out i = x at *
      go_wp2_with (first | ((with_reducible refine gate_dst (N := 5) rfl ?_); refine box_event ?hg (N := 5) ?hd (cs := #[.int .i64 0, .int .i64 0, .int .i64 0, .int .i64 0, .int .i64 0]) (t := 39) ?hr ?_; (case hd => rfl); (case hg => rfl); (case hr => first | (go_simp; done) | (go_simp; rfl)); intro gx hgx w5 hbox hb; have GX := Aside0.mk (And.intro (blk_lt hbox) ((by rw [hgx]; exact HB.out.size) : w.heap.size ≤ gx)); have BX := Aside0.mk hbox; have HB5 := Aside0.mk (below_step HB.out hb); have HW5 := Aside0.mk (blk_below HW.out hb); clear hbox hb HB HW hgx; have HB := HB5; have HW := HW5; clear HB5 HW5; have z0 : w5.cell? ⟨gx, 0, none⟩ = some (.int .i64 0) := (blk_cell BX.out 0).trans rfl; have z1 : w5.cell? ⟨gx, 1, none⟩ = some (.int .i64 0) := (blk_cell BX.out 1).trans rfl; have z2 : w5.cell? ⟨gx, 2, none⟩ = some (.int .i64 0) := (blk_cell BX.out 2).trans rfl; have z3 : w5.cell? ⟨gx, 3, none⟩ = some (.int .i64 0) := (blk_cell BX.out 3).trans rfl; have z4 : w5.cell? ⟨gx, 4, none⟩ = some (.int .i64 0) := (blk_cell BX.out 4).trans rfl; have y0 := blk_frozen BX.out 0; have y1 := blk_frozen BX.out 1; have y2 := blk_frozen BX.out 2; have y3 := blk_frozen BX.out 3; have y4 := blk_frozen BX.out 4))
      obtain ⟨w6, hw6, HB6, BX6, hf6⟩ := store39 x HB.out GX.out.2 BX.out
      rw [← hw6]
      have HW6 := Aside0.mk ((hf6 gw (types_ne HW.out BX.out (by decide))).trans HW.out)
      clear hf6 hw6 z0 z1 z2 z3 z4 y0 y1 y2 y3 y4 x0 x1 x2 x3 x4 HW HB BX
      have HB := Aside0.mk HB6
      have BX := Aside0.mk BX6
      have HW := HW6
      clear HB6 BX6 HW6
      have e1 := (HB.out.cell (World.block_lt_of_cell? _ _ c1)).trans c1
      have z2 : w6.cell? ⟨gx, 2, none⟩ = some (.int .i64 x.f1.f1) := (blk_cell BX.out 2).trans rfl
      go_cut [46, 47, 48] (fun v46 v47 v48 wx => v48 = .int .i64 0 ∧ v47 = .int .i64 ((pathI s.l x.f1.f1).length : Nat) ∧ (∃ Ap cp, v46 = .slice Ap (pathI s.l x.f1.f1).length cp ∧ Aside0 (Kd.R (Kd.int .i64) 3 wx 0 (fun _ => True) (.slice Ap (pathI s.l x.f1.f1).length cp) (pathI s.l x.f1.f1))) ∧ Aside0 (Below w.heap.size w wx) ∧ Aside0 (wx.heap[gw]? = some (.cells #[.int .i64 (uS 0 (s.out.take i.toNat)), .int .i64 (uS 1 (s.out.take i.toNat)), .int .i64 (uS 2 (s.out.take i.toNat))] 91 (0, 0))) ∧ Aside0 (wx.heap[gx]? = some (.cells #[.int .i64 x.f0, .int .i64 x.f1.f0, .int .i64 x.f1.f1, .int .i64 x.f1.f2, .int .i64 x.f1.f3] 39 (0, 0))))
      case first =>
        go_region_with (go_at_call 37; with_reducible refine (accounts_Path.calls kp _ _ s.l x.f1.f1 _ _ ?side1 ?side2 HP.out).mono ?_; (case side1 => exact Kd.C_drew (Kd.C_below hlr HB.out)); (case side2 => exact hlc); rintro e w7 ⟨v7, rfl, ho7, hb7⟩; obtain ⟨Ap, cp, ep⟩ := Kd.R_slice ho7; subst ep)
        all_goals (go_wp2_with fail; go_meet; exact ⟨rfl, rfl, ⟨Ap, cp, rfl, ⟨Kd.R_lower ho7 (Nat.zero_le _)⟩⟩, ⟨below_step (below_drew HB.out) hb7⟩, ⟨blk_below (w := w6.drew) HW.out hb7⟩, ⟨blk_below (w := w6.drew) BX.out hb7⟩⟩)
      case rest =>
       obtain ⟨rfl, rfl, ⟨Ap, cp, rfl, HR7⟩, HB7, HW7, BX7⟩ := hcut
       clear HB HW BX e1 z2
       generalize hPP : pathI s.l x.f1.f1 = P at *
       have HPP := Aside0.mk hPP
       clear hPP
       go_wp2
       go_loopg [48] P.length (fun kq v48 w' => ∃ j : Int, v48 = .int .i64 j ∧ Aside0 (0 ≤ j ∧ j + kq = P.length) ∧ Aside0 (w'.heap[gw]? = some (.cells #[.int .i64 (uS 0 (s.out.take i.toNat) + if (0 : Int) ∈ P.take j.toNat then tot x.f1 else 0), .int .i64 (uS 1 (s.out.take i.toNat) + if (1 : Int) ∈ P.take j.toNat then tot x.f1 else 0), .int .i64 (uS 2 (s.out.take i.toNat) + if (2 : Int) ∈ P.take j.toNat then tot x.f1 else 0)] 91 (0, 0))) ∧ Aside0 (w'.heap[gx]? = some (.cells #[.int .i64 x.f0, .int .i64 x.f1.f0, .int .i64 x.f1.f1, .int .i64 x.f1.f2, .int .i64 x.f1.f3] 39 (0, 0))) ∧ Aside0 (Kd.R (Kd.int .i64) 3 w' 0 (fun _ => True) (.slice Ap P.length cp) P) ∧ Aside0 (Below w.heap.size w w'))
       case atStart => exact ⟨0, by simp, ⟨by omega⟩, ⟨by simpa using HW7.out⟩, BX7, HR7, HB7⟩
       case round =>
         have HNE := Aside0.mk (types_ne BX7.out HW7.out (by decide))
         clear HB7 HW7 BX7 HR7
         obtain ⟨j, rfl, HJ, HW, BX, HR, HB⟩ := hrel
         have HPN := Aside0.mk (path_lO (P := P) HX.out HOUT.out.1 (HL.out ▸ HPP.out))
         by_cases hj : j < (P.length : Int)
         · have hjb : decide (j < (P.length : Int)) = true := decide_eq_true hj
           have hj0 : 0 ≤ j := HJ.out.1
           have HJL := Aside0.mk hj
           have hwj : IntKind.i64.wrap (j + 1) = j + 1 := by
             have := HPN.out.2.2.2.2.2
             rw [IntKind.wrap_i64]
             omega
           obtain ⟨k1, rfl⟩ : ∃ k1, gk = k1 + 1 := ⟨gk - 1, by have := HJ.out; omega⟩
           obtain ⟨Ap2, cp2, ep2, _, hrc⟩ := Kd.R_reads HR.out
           simp only [Value.slice.injEq, true_and] at ep2
           obtain ⟨rfl, rfl⟩ := ep2
           obtain ⟨adp, ea, hy⟩ := Kd.at_int hrc j hj0 hj
           subst ea
           have hjt := eq_true hj
           have hj0t := eq_true hj0
           obtain ⟨A0, hA0⟩ : ∃ v : Int, v = uS 0 (s.out.take i.toNat) + (if (0 : Int) ∈ P.take j.toNat then tot x.f1 else 0) := ⟨_, rfl⟩
           obtain ⟨A1, hA1⟩ : ∃ v : Int, v = uS 1 (s.out.take i.toNat) + (if (1 : Int) ∈ P.take j.toNat then tot x.f1 else 0) := ⟨_, rfl⟩
           obtain ⟨A2, hA2⟩ : ∃ v : Int, v = uS 2 (s.out.take i.toNat) + (if (2 : Int) ∈ P.take j.toNat then tot x.f1 else 0) := ⟨_, rfl⟩
           rw [← hA0, ← hA1, ← hA2] at HW
           have HWR : Aside0 (IntKind.i64.wrap (A0 + tot x.f1) = A0 + tot x.f1 ∧ IntKind.i64.wrap (A1 + tot x.f1) = A1 + tot x.f1 ∧ IntKind.i64.wrap (A2 + tot x.f1) = A2 + tot x.f1) := by
             have hT := HX.out.b
             have hS : ∀ y ∈ s.out.take i.toNat, smA y.f1 := fun y hy => HOUT.out.1.sm y (List.mem_of_mem_take hy)
             have hL2 : (s.out.take i.toNat).length ≤ 1000 := by rw [List.length_take]; have := HOUT.out.2; omega
             have b0 := uS_nn 0 _ hS
             have b1 := uS_nn 1 _ hS
             have b2 := uS_nn 2 _ hS
             have d0 := uS_bd 0 _ hS
             have d1 := uS_bd 1 _ hS
             have d2 := uS_bd 2 _ hS
             refine ⟨?_, ?_, ?_⟩ <;> rw [IntKind.wrap_i64]
             · split at hA0 <;> omega
             · split at hA1 <;> omega
             · split at hA2 <;> omega
           have hkt : IntKind.i64.wrap (x.f1.f2 + x.f1.f3) = tot x.f1 := by
             have hT := HX.out.b
             unfold tot at *
             rw [IntKind.wrap_i64]
             omega
           have HA0 := Aside0.mk hA0
           have HA1 := Aside0.mk hA1
           have HA2 := Aside0.mk hA2
           clear hA0 hA1 hA2
           have hx3 : wr.cell? ⟨gx, 3, none⟩ = some (.int .i64 x.f1.f2) := (blk_cell BX.out 3).trans rfl
           have hx4 : wr.cell? ⟨gx, 4, none⟩ = some (.int .i64 x.f1.f3) := (blk_cell BX.out 4).trans rfl
           have hyP : rd P j = 0 ∨ rd P j = 1 ∨ rd P j = 2 := HPN.out.2.1 _ (by
             unfold rd
             rw [List.getD_eq_getElem?_getD, List.getElem?_eq_getElem (by omega)]
             exact List.getElem_mem _)
           rcases hyP with ha | ha | ha
           · rw [ha] at hy
             have zw : wr.cell? ⟨gw, 0, none⟩ = some (.int .i64 A0) := (blk_cell HW.out 0).trans rfl
             have yw := blk_frozen HW.out 0
             have hwr : IntKind.i64.wrap (A0 + tot x.f1) = A0 + tot x.f1 := HWR.out.1
             have HW2 : Aside0 ((wr.setCell ⟨gw, 0, none⟩ (.int .i64 (A0 + tot x.f1))).drew.heap[gw]? = some (.cells #[.int .i64 (A0 + tot x.f1), .int .i64 A1, .int .i64 A2] 91 (0, 0))) := ⟨blk_put (w := wr) HW.out 0 _ rfl⟩
             have BX2 := Aside0.mk (blk_drew (blk_far (w := wr) BX.out (p := ⟨gw, 0, none⟩) HNE.out (.int .i64 (A0 + tot x.f1))))
             have HR2 := Aside0.mk (Kd.R_drew (Kd.R_set HR.out HW.out (by intro q hq; simp [Kd.int, Kd.scalar] at hq; omega) 0 (.int .i64 (A0 + tot x.f1))))
             have HB2 := Aside0.mk ((HB.out.setCell (p := ⟨gw, 0, none⟩) HG.out (.int .i64 (A0 + tot x.f1))).drew)
             clear HW BX HR HB
             go_wp2
             go_region_with fail
             all_goals (go_wp2_with fail; go_roundg k1)
             all_goals first
               | omega
               | exact ⟨j + 1, rfl, ⟨by have := HJ.out; omega⟩, ⟨by rw [upd HPN.out.1 HJ.out.1 HJL.out ha, upd HPN.out.1 HJ.out.1 HJL.out ha, upd HPN.out.1 HJ.out.1 HJL.out ha, ← HA0.out, ← HA1.out, ← HA2.out]; simpa using HW2.out⟩, BX2, HR2, HB2⟩
           · rw [ha] at hy
             have zw : wr.cell? ⟨gw, 1, none⟩ = some (.int .i64 A1) := (blk_cell HW.out 1).trans rfl
             have yw := blk_frozen HW.out 1
             have hwr : IntKind.i64.wrap (A1 + tot x.f1) = A1 + tot x.f1 := HWR.out.2.1
             have HW2 : Aside0 ((wr.setCell ⟨gw, 1, none⟩ (.int .i64 (A1 + tot x.f1))).drew.heap[gw]? = some (.cells #[.int .i64 A0, .int .i64 (A1 + tot x.f1), .int .i64 A2] 91 (0, 0))) := ⟨blk_put (w := wr) HW.out 1 _ rfl⟩
             have BX2 := Aside0.mk (blk_drew (blk_far (w := wr) BX.out (p := ⟨gw, 1, none⟩) HNE.out (.int .i64 (A1 + tot x.f1))))
             have HR2 := Aside0.mk (Kd.R_drew (Kd.R_set HR.out HW.out (by intro q hq; simp [Kd.int, Kd.scalar] at hq; omega) 1 (.int .i64 (A1 + tot x.f1))))
             have HB2 := Aside0.mk ((HB.out.setCell (p := ⟨gw, 1, none⟩) HG.out (.int .i64 (A1 + tot x.f1))).drew)
             clear HW BX HR HB
             go_wp2
             go_region_with fail
             all_goals (go_wp2_with fail; go_roundg k1)
             all_goals first
               | omega
               | exact ⟨j + 1, rfl, ⟨by have := HJ.out; omega⟩, ⟨by rw [upd HPN.out.1 HJ.out.1 HJL.out ha, upd HPN.out.1 HJ.out.1 HJL.out ha, upd HPN.out.1 HJ.out.1 HJL.out ha, ← HA0.out, ← HA1.out, ← HA2.out]; simpa using HW2.out⟩, BX2, HR2, HB2⟩
           · rw [ha] at hy
             have zw : wr.cell? ⟨gw, 2, none⟩ = some (.int .i64 A2) := (blk_cell HW.out 2).trans rfl
             have yw := blk_frozen HW.out 2
             have hwr : IntKind.i64.wrap (A2 + tot x.f1) = A2 + tot x.f1 := HWR.out.2.2
             have HW2 : Aside0 ((wr.setCell ⟨gw, 2, none⟩ (.int .i64 (A2 + tot x.f1))).drew.heap[gw]? = some (.cells #[.int .i64 A0, .int .i64 A1, .int .i64 (A2 + tot x.f1)] 91 (0, 0))) := ⟨blk_put (w := wr) HW.out 2 _ rfl⟩
             have BX2 := Aside0.mk (blk_drew (blk_far (w := wr) BX.out (p := ⟨gw, 2, none⟩) HNE.out (.int .i64 (A2 + tot x.f1))))
             have HR2 := Aside0.mk (Kd.R_drew (Kd.R_set HR.out HW.out (by intro q hq; simp [Kd.int, Kd.scalar] at hq; omega) 2 (.int .i64 (A2 + tot x.f1))))
             have HB2 := Aside0.mk ((HB.out.setCell (p := ⟨gw, 2, none⟩) HG.out (.int .i64 (A2 + tot x.f1))).drew)
             clear HW BX HR HB
             go_wp2
             go_region_with fail
             all_goals (go_wp2_with fail; go_roundg k1)
             all_goals first
               | omega
               | exact ⟨j + 1, rfl, ⟨by have := HJ.out; omega⟩, ⟨by rw [upd HPN.out.1 HJ.out.1 HJL.out ha, upd HPN.out.1 HJ.out.1 HJL.out ha, upd HPN.out.1 HJ.out.1 HJL.out ha, ← HA0.out, ← HA1.out, ← HA2.out]; simpa using HW2.out⟩, BX2, HR2, HB2⟩
         · have hjb : decide (j < (P.length : Int)) = false := decide_eq_false hj
           go_wp2
           go_roundg k0
           case measure => omega
           case rel =>
             have ht : P.take j.toNat = P := List.take_of_length_le (by omega)
             rw [ht] at HW
             refine ⟨i + 1, rfl, ⟨by have := HI.out; omega⟩, ⟨?_⟩, HB⟩
             have hm0 : (0 : Int) ≤ x.f1.f1 := HX.out.b.2.2.2.2.2.1
             rw [HN.out, uS_app, uS_app, uS_app]
             have eu : ∀ m : Int, uS m [x] = if m ≤ x.f1.f1 then tot x.f1 else 0 := fun m => by simp [uS]
             rw [eu, eu, eu]
             have hw := HW.out
             simp only [HPN.out.2.2.1, HPN.out.2.2.2.1, HPN.out.2.2.2.2.1, if_true] at hw
             rw [if_pos hm0]
             exact hw
    · have hib : decide (i < (s.out.length : Int)) = false := decide_eq_false hi
      have hie : s.out.take i.toNat = s.out := List.take_of_length_le (by omega)
      rw [hie] at HW
      have e1 := (HB.out.cell (World.block_lt_of_cell? _ _ c1)).trans c1
      clear hie
      go_wp2
      go_loopg [77] 3 (fun kq v77 w' => ∃ j : Int, v77 = .int .i64 j ∧ Aside0 (0 ≤ j ∧ j + kq = 3) ∧ Aside0 (w'.heap[gw]? = some (.cells #[.int .i64 (uS 0 s.out), .int .i64 (uS 1 s.out), .int .i64 (uS 2 s.out)] 91 (0, 0))) ∧ Aside0 (Below w.heap.size w w'))
      case atStart => exact ⟨0, rfl, ⟨by omega⟩, HW, HB⟩
      case round =>
        clear HW HB e1
        obtain ⟨j, rfl, HJ, HW, HB⟩ := hrel
        by_cases hj : j < (s.l.length : Int)
        · have hjb : decide (j < (s.l.length : Int)) = true := decide_eq_true hj
          obtain ⟨k1, rfl⟩ : ∃ k1, gk = k1 + 1 := ⟨gk - 1, by have := HJ.out; have := HLL.out; omega⟩
          have hj0 : 0 ≤ j := HJ.out.1
          obtain ⟨ad, ea, x0, x1, x2, x3, x4⟩ := at_T59 hlr j hj0 hj
          subst ea
          replace x0 := (HB.out.cell (World.block_lt_of_cell? w _ x0)).trans x0
          replace x1 := (HB.out.cell (World.block_lt_of_cell? w _ x1)).trans x1
          replace x2 := (HB.out.cell (World.block_lt_of_cell? w _ x2)).trans x2
          replace x3 := (HB.out.cell (World.block_lt_of_cell? w _ x3)).trans x3
          replace x4 := (HB.out.cell (World.block_lt_of_cell? w _ x4)).trans x4
          have hw1 : IntKind.i64.wrap (j + 1) = j + 1 := by
            have := HJ.out
            rw [IntKind.wrap_i64]
            omega
          have hj3 : (j < 3) = True := eq_true (by have := HLL.out; omega)
          have hjt := eq_true hj
          have hj0t := eq_true hj0
          have HZ : Aside0 ((#[Value.int .i64 (uS 0 s.out), .int .i64 (uS 1 s.out), .int .i64 (uS 2 s.out)] : Array Value)[j.toNat]? = some (.int .i64 (rd_T59 s.l j).f1) ∧ ¬ (rd_T59 s.l j).f1 > (rd_T59 s.l j).f4) := by
            have hc : j = 0 ∨ j = 1 ∨ j = 2 := by
              have := HLL.out
              omega
            rw [HL.out]
            have l0 := HOUT.out.1.h0
            have l1 := HOUT.out.1.h1
            have l2 := HOUT.out.1.h2
            rcases hc with rfl | rfl | rfl
            · exact ⟨⟨rfl, by show ¬ uS 0 s.out > 9; omega⟩⟩
            · exact ⟨⟨rfl, by show ¬ uS 1 s.out > 6; omega⟩⟩
            · exact ⟨⟨rfl, by show ¬ uS 2 s.out > 4; omega⟩⟩
          have HJ3 := Aside0.mk hj
          generalize rd_T59 s.l j = x at *
          go_wp2_with (first | ((with_reducible refine gate_dst (N := 9) rfl ?_); refine box_event ?hg (N := 9) ?hd (cs := #[.int .i64 0, .int .i64 0, .int .i64 0, .int .i64 0, .int .i64 0]) (t := 59) ?hr ?_; (case hd => rfl); (case hg => rfl); (case hr => first | (go_simp; done) | (go_simp; rfl)); intro gx hgx w5 hbox hb; have GX := Aside0.mk (And.intro (blk_lt hbox) ((by rw [hgx]; exact HB.out.size) : w.heap.size ≤ gx)); have BX := Aside0.mk hbox; have HB5 := Aside0.mk (below_step HB.out hb); have HW5 := Aside0.mk (blk_below HW.out hb); clear hbox hb HB HW hgx; have HB := HB5; have HW := HW5; clear HB5 HW5; have z0 : w5.cell? ⟨gx, 0, none⟩ = some (.int .i64 0) := (blk_cell BX.out 0).trans rfl; have z1 : w5.cell? ⟨gx, 1, none⟩ = some (.int .i64 0) := (blk_cell BX.out 1).trans rfl; have z2 : w5.cell? ⟨gx, 2, none⟩ = some (.int .i64 0) := (blk_cell BX.out 2).trans rfl; have z3 : w5.cell? ⟨gx, 3, none⟩ = some (.int .i64 0) := (blk_cell BX.out 3).trans rfl; have z4 : w5.cell? ⟨gx, 4, none⟩ = some (.int .i64 0) := (blk_cell BX.out 4).trans rfl; have y0 := blk_frozen BX.out 0; have y1 := blk_frozen BX.out 1; have y2 := blk_frozen BX.out 2; have y3 := blk_frozen BX.out 3; have y4 := blk_frozen BX.out 4))
          obtain ⟨w6, hw6, HB6, BX6, hf6⟩ := store5 (.int .i64 x.f0) (.int .i64 x.f1) (.int .i64 x.f2) (.int .i64 x.f3) (.int .i64 x.f4) HB.out GX.out.2 BX.out
          rw [← hw6]
          have HW6 := Aside0.mk ((hf6 gw (types_ne HW.out BX.out (by decide))).trans HW.out)
          clear hf6 hw6 z0 z1 z2 z3 z4 y0 y1 y2 y3 y4 x0 x1 x2 x3 x4 HW HB BX
          have z1 : w6.cell? ⟨gx, 1, none⟩ = some (.int .i64 x.f1) := (blk_cell BX6 1).trans rfl
          have z4 : w6.cell? ⟨gx, 4, none⟩ = some (.int .i64 x.f4) := (blk_cell BX6 4).trans rfl
          have zj : w6.cell? ⟨gw, j.toNat, none⟩ = some (.int .i64 x.f1) := (blk_cell HW6.out j.toNat).trans HZ.out.1
          have hcmp : decide (x.f1 > x.f4) = false := decide_eq_false (by have := HZ.out.2; omega)
          have hcm2 : decide (x.f4 < x.f1) = false := decide_eq_false (by have := HZ.out.2; omega)
          go_cut [94] (fun v94 wx => v94 = .bool false ∧ wx = w6.drew)
          case first =>
            go_region_with fail
            all_goals (go_wp2_with fail; go_meet; exact ⟨rfl, rfl⟩)
          case rest =>
            obtain ⟨rfl, rfl⟩ := hcut
            have HW7 : Aside0 (w6.drew.heap[gw]? = _) := HW6
            have HB7 := Aside0.mk (below_drew HB6)
            clear HW6 HB6 BX6
            go_wp2
            go_roundg k1
            case measure => omega
            case rel => exact ⟨j + 1, rfl, ⟨by have := HJ.out; omega⟩, HW7, HB7⟩
        · have hjb : decide (j < (s.l.length : Int)) = false := decide_eq_false hj
          go_wp2
          go_ret
          exact ⟨rfl, HB.out⟩
end Go.Proofs.Ytimlodcdfekbhaa.Pure
