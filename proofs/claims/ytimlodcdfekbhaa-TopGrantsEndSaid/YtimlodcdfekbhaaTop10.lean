/- The small example (bServes) answers true. -/
import Derived.Test.YtimlodcdfekbhaaTop9
namespace Go.Proofs.Ytimlodcdfekbhaa.Pure
open Go.RowKit Go.Proofs.Ytimlodcdfekbhaa.PTopGrantsEnd Go.Proofs.YtimlodcdfekbhaaW.PrintWords Go.Proofs.YtimlodcdfekbhaaW.PrintLast Go.Proofs.YtimlodcdfekbhaaW.PrintMore
set_option linter.unusedVariables false
set_option linter.unusedSimpArgs false
theorem St_step {w w' : World} {base g : Nat} {s : BQ} (h : St w base g s) (hb : Below w.heap.size w w') : St w' base g s := by
  obtain ⟨vq, vl, vo, h⟩ := h
  exact ⟨vq, vl, vo, StV_step h hb⟩
theorem St_ne {w : World} {base g : Nat} {s : BQ} (h : St w base g s) {go : Nat} {c : Array Value} (ho : w.heap[go]? = some (.cells c 27 (0, 0))) : go ≠ g := by
  obtain ⟨vq, vl, vo, h⟩ := h
  exact types_ne ho h.2.1 (by decide)
/-- The operations of the example. -/
def opB (i : Int) : Int × Int × Int × Int := if i = 0 then (0, 1, 2, 5) else if i = 1 then (0, 2, 2, 4) else if i = 2 then (0, 3, 0, 1) else (2, 0, 0, 0)
/-- The queue before its operation number i. -/
def sB : Nat → BQ
  | 0 => bq0
  | 1 => st0 bq0 1 ⟨1, 2, 2, 1⟩
  | 2 => st0 (st0 bq0 1 ⟨1, 2, 2, 1⟩) 2 ⟨2, 2, 1, 1⟩
  | 3 => st0 (st0 (st0 bq0 1 ⟨1, 2, 2, 1⟩) 2 ⟨2, 2, 1, 1⟩) 3 ⟨3, 0, 1, 0⟩
  | _ => st2 (st0 (st0 (st0 bq0 1 ⟨1, 2, 2, 1⟩) 2 ⟨2, 2, 1, 1⟩) 3 ⟨3, 0, 1, 0⟩)
theorem ask1 : prO 1 = 1 ∧ askO 1 2 5 = ⟨1, 2, 2, 1⟩ := by
  have e0 : prO 1 = 1 := by
    unfold prO
    rw [w64 (by decide) (by decide)]
    rfl
  have e1 : (wrap64 2).tmod 3 = 2 := by
    rw [w64 (by decide) (by decide)]
    rfl
  have e2 : (wrap64 5).tmod 3 = 2 := by
    rw [w64 (by decide) (by decide)]
    rfl
  have e3 : (wrap64 ((wrap64 5).tdiv 3)).tmod 4 = 1 := by
    rw [w64 (x := 5) (by decide) (by decide), w64 (by decide) (by decide)]
    rfl
  refine ⟨e0, ?_⟩
  unfold askO
  rw [e0, e1, e2, e3]
theorem ask2 : prO 2 = 2 ∧ askO 2 2 4 = ⟨2, 2, 1, 1⟩ := by
  have e0 : prO 2 = 2 := by
    unfold prO
    rw [w64 (by decide) (by decide)]
    rfl
  have e1 : (wrap64 2).tmod 3 = 2 := by
    rw [w64 (by decide) (by decide)]
    rfl
  have e2 : (wrap64 4).tmod 3 = 1 := by
    rw [w64 (by decide) (by decide)]
    rfl
  have e3 : (wrap64 ((wrap64 4).tdiv 3)).tmod 4 = 1 := by
    rw [w64 (x := 4) (by decide) (by decide), w64 (by decide) (by decide)]
    rfl
  refine ⟨e0, ?_⟩
  unfold askO
  rw [e0, e1, e2, e3]
theorem ask3 : prO 3 = 3 ∧ askO 3 0 1 = ⟨3, 0, 1, 0⟩ := by
  have e0 : prO 3 = 3 := by
    unfold prO
    rw [w64 (by decide) (by decide)]
    rfl
  have e1 : (wrap64 0).tmod 3 = 0 := by
    rw [w64 (by decide) (by decide)]
    rfl
  have e2 : (wrap64 1).tmod 3 = 1 := by
    rw [w64 (by decide) (by decide)]
    rfl
  have e3 : (wrap64 ((wrap64 1).tdiv 3)).tmod 4 = 0 := by
    rw [w64 (x := 1) (by decide) (by decide), w64 (by decide) (by decide)]
    rfl
  refine ⟨e0, ?_⟩
  unfold askO
  rw [e0, e1, e2, e3]
theorem sB_step (i : Nat) (hi : i < 4) {s' : BQ} (h : Stp (sB i) (opB i).1 (opB i).2.1 (opB i).2.2.1 (opB i).2.2.2 s') : s' = sB (i + 1) := by
  have hc : i = 0 ∨ i = 1 ∨ i = 2 ∨ i = 3 := by omega
  rcases hc with rfl | rfl | rfl | rfl
  · rcases h with ⟨_, rfl⟩ | ⟨h, _⟩ | ⟨h, _⟩ | ⟨h, _⟩
    · show st0 (sB 0) (prO 1) (askO 1 2 5) = _
      rw [ask1.1, ask1.2]
      rfl
    · exact absurd h (by decide)
    · exact absurd h (by decide)
    · exact absurd h (by decide)
  · rcases h with ⟨_, rfl⟩ | ⟨h, _⟩ | ⟨h, _⟩ | ⟨h, _⟩
    · show st0 (sB 1) (prO 2) (askO 2 2 4) = _
      rw [ask2.1, ask2.2]
      rfl
    · exact absurd h (by decide)
    · exact absurd h (by decide)
    · exact absurd h (by decide)
  · rcases h with ⟨_, rfl⟩ | ⟨h, _⟩ | ⟨h, _⟩ | ⟨h, _⟩
    · show st0 (sB 2) (prO 3) (askO 3 0 1) = _
      rw [ask3.1, ask3.2]
      rfl
    · exact absurd h (by decide)
    · exact absurd h (by decide)
    · exact absurd h (by decide)
  · rcases h with ⟨h, _⟩ | ⟨h, _⟩ | ⟨_, rfl⟩ | ⟨h, _⟩
    · exact absurd h (by decide)
    · exact absurd h (by decide)
    · rfl
    · exact absurd h (by decide)
theorem sB3_q : (sB 3).q = [⟨1, 2, 2, 1⟩, ⟨2, 2, 1, 1⟩, ⟨3, 0, 1, 0⟩] := by rfl
theorem sB4 : (sB 4).q = [⟨2, 2, 1, 1⟩, ⟨3, 0, 1, 0⟩] ∧ (sB 4).out = [⟨1, ⟨1, 2, 2, 1⟩⟩] := by
  have hf1 : fit ⟨1, 2, 2, 1⟩ (lF 0 0 0) 4 10 := by
    refine ⟨fun y hy => ?_, by decide, by decide⟩
    rw [show ((⟨1, 2, 2, 1⟩ : S37).f1).toNat = 2 from rfl, pth_lF2] at hy
    simp only [List.mem_cons, List.not_mem_nil, or_false] at hy
    rcases hy with rfl | rfl | rfl <;> decide
  have hf2 : ¬ fit ⟨2, 2, 1, 1⟩ (lF 3 3 3) 2 7 := by
    rintro ⟨h, _, _⟩
    rw [show ((⟨2, 2, 1, 1⟩ : S37).f1).toNat = 2 from rfl, pth_lF2] at h
    exact absurd (h 2 (by simp)) (by decide)
  have hc : chq (lF 0 0 0) ⟨1, 2, 2, 1⟩ = lF 3 3 3 := by
    unfold chq
    rw [show ((⟨1, 2, 2, 1⟩ : S37).f1).toNat = 2 from rfl, pth_lF2]
    rfl
  have hm : (srv [⟨1, 2, 2, 1⟩, ⟨2, 2, 1, 1⟩, ⟨3, 0, 1, 0⟩] (lF 0 0 0) 4 10).1 = 1 := by
    unfold srv
    rw [if_pos hf1, hc]
    show (srv [⟨2, 2, 1, 1⟩, ⟨3, 0, 1, 0⟩] (lF 3 3 3) 2 7).1 + 1 = 1
    unfold srv
    rw [if_neg hf2]
  have hm2 : mS (sB 3) = 1 := hm
  refine ⟨?_, ?_⟩
  · show (sB 3).q.drop (mS (sB 3)) = _
    rw [hm2, sB3_q]
    rfl
  · show (sB 3).out ++ gr (sB 3).nums ((sB 3).q.take (mS (sB 3))) = _
    rw [hm2, sB3_q]
    rfl
theorem sB_inv (i : Nat) (hi : i < 4) : Inv (sB i) i := by
  have i1 : Inv (sB 1) 1 := inv_st0 (x := ⟨1, 2, 2, 1⟩) inv0 (by refine ⟨⟨?_, ?_, ?_, ?_, ?_⟩, ?_, ?_, ?_⟩ <;> decide)
  have i2 : Inv (sB 2) 2 := inv_st0 (x := ⟨2, 2, 1, 1⟩) i1 (by refine ⟨⟨?_, ?_, ?_, ?_, ?_⟩, ?_, ?_, ?_⟩ <;> decide)
  have i3 : Inv (sB 3) 3 := inv_st0 (x := ⟨3, 0, 1, 0⟩) i2 (by refine ⟨⟨?_, ?_, ?_, ?_, ?_⟩, ?_, ?_, ?_⟩ <;> decide)
  have hc : i = 0 ∨ i = 1 ∨ i = 2 ∨ i = 3 := by omega
  rcases hc with rfl | rfl | rfl | rfl
  · exact inv0
  · exact i1
  · exact i2
  · exact i3
theorem opB_u8 (i : Int) : (0 ≤ (opB i).1 ∧ (opB i).1 ≤ 255) ∧ (0 ≤ (opB i).2.1 ∧ (opB i).2.1 ≤ 255) ∧ (0 ≤ (opB i).2.2.1 ∧ (opB i).2.2.1 ≤ 255) ∧ (0 ≤ (opB i).2.2.2 ∧ (opB i).2.2.2 ≤ 255) := by
  unfold opB
  split
  · decide
  · split
    · decide
    · split <;> decide
set_option maxHeartbeats 8000000 in
set_option maxRecDepth 100000 in
theorem bServes.calls (w : World) : Calls Try.prog 11 #[] w fun e w' => e = .returned (.bool true) ∧ Below w.heap.size w w' := by
  have HB := Aside0.mk (Below.refl w.heap.size w)
  go_enter Try.func11, Try.ntmps11
  go_wp2_with (first | (go_at_call 12; (with_reducible refine (bStart.calls _).mono ?_); rintro e w2 ⟨g, rfl, hs2, hb2⟩; have HS2 := Aside0.mk hs2; have HB2 := Aside0.mk hb2; clear hs2 hb2))
  have HO2 : Aside0 ((w2.alloc (.cells #[.int .u8 0, .int .u8 1, .int .u8 2, .int .u8 5, .int .u8 0, .int .u8 2, .int .u8 2, .int .u8 4, .int .u8 0, .int .u8 3, .int .u8 0, .int .u8 1, .int .u8 2, .int .u8 0, .int .u8 0, .int .u8 0] 27)).heap[w2.heap.size]? = some (.cells #[.int .u8 0, .int .u8 1, .int .u8 2, .int .u8 5, .int .u8 0, .int .u8 2, .int .u8 2, .int .u8 4, .int .u8 0, .int .u8 3, .int .u8 0, .int .u8 1, .int .u8 2, .int .u8 0, .int .u8 0, .int .u8 0] 27 (0, 0))) := ⟨blk_new _ _⟩
  have HB3 := Aside0.mk (below_alloc HB2.out (.cells #[.int .u8 0, .int .u8 1, .int .u8 2, .int .u8 5, .int .u8 0, .int .u8 2, .int .u8 2, .int .u8 4, .int .u8 0, .int .u8 3, .int .u8 0, .int .u8 1, .int .u8 2, .int .u8 0, .int .u8 0, .int .u8 0] 27))
  have HS3 := Aside0.mk (St_step HS2.out (below_alloc (Below.refl _ _) (.cells #[.int .u8 0, .int .u8 1, .int .u8 2, .int .u8 5, .int .u8 0, .int .u8 2, .int .u8 2, .int .u8 4, .int .u8 0, .int .u8 3, .int .u8 0, .int .u8 1, .int .u8 2, .int .u8 0, .int .u8 0, .int .u8 0] 27)))
  generalize w2.heap.size = go at *
  generalize w2.alloc (.cells #[.int .u8 0, .int .u8 1, .int .u8 2, .int .u8 5, .int .u8 0, .int .u8 2, .int .u8 2, .int .u8 4, .int .u8 0, .int .u8 3, .int .u8 0, .int .u8 1, .int .u8 2, .int .u8 0, .int .u8 0, .int .u8 0] 27) = w3 at *
  clear HB HB2 HS2
  go_loopg [11] 4 (fun kq v11 w' => ∃ i : Int, v11 = .int .i64 i ∧ Aside0 (0 ≤ i ∧ i + kq = 4) ∧ Aside0 (St w' w.heap.size g (sB i.toNat)) ∧ Aside0 (w'.heap[go]? = some (.cells #[.int .u8 0, .int .u8 1, .int .u8 2, .int .u8 5, .int .u8 0, .int .u8 2, .int .u8 2, .int .u8 4, .int .u8 0, .int .u8 3, .int .u8 0, .int .u8 1, .int .u8 2, .int .u8 0, .int .u8 0, .int .u8 0] 27 (0, 0))) ∧ Aside0 (Below w.heap.size w w'))
  case atStart => exact ⟨0, rfl, ⟨by omega⟩, HS3, HO2, HB3⟩
  case round =>
    clear HS3 HO2 HB3
    obtain ⟨i, rfl, HI, HSI, HO, HB⟩ := hrel
    by_cases hi : i < 4
    · have hc : i = 0 ∨ i = 1 ∨ i = 2 ∨ i = 3 := by have := HI.out; omega
      clear hi
      rcases hc with rfl | rfl | rfl | rfl
      · obtain ⟨k0, rfl⟩ : ∃ k0, gk = k0 + 1 := ⟨gk - 1, by have := HI.out; omega⟩
        have HS := Aside0.mk (show St wr w.heap.size g (sB 0) from HSI.out)
        have b0 : wr.cell? ⟨go, 0, none⟩ = some (.int .u8 0) := (blk_cell HO.out 0).trans rfl
        have b1 : wr.cell? ⟨go, 1, none⟩ = some (.int .u8 1) := (blk_cell HO.out 1).trans rfl
        have b2 : wr.cell? ⟨go, 2, none⟩ = some (.int .u8 2) := (blk_cell HO.out 2).trans rfl
        have b3 : wr.cell? ⟨go, 3, none⟩ = some (.int .u8 5) := (blk_cell HO.out 3).trans rfl
        go_upto_region 5 with (first | ((with_reducible refine gate_dst (N := 3) rfl ?_); refine box_event ?hg (N := 3) ?hd (cs := #[.int .u8 0, .int .u8 0, .int .u8 0, .int .u8 0]) (t := 27) ?hr ?_; (case hd => rfl); (case hg => rfl); (case hr => first | (go_simp; done) | (go_simp; rfl)); intro gx hg_ w5 hbox hb; have GX := Aside0.mk ((by rw [hg_]; exact Nat.le_refl _) : wr.heap.size ≤ gx); have BX := Aside0.mk hbox; have HB5 := Aside0.mk hb; clear hbox hb hg_; have z0 : w5.cell? ⟨gx, 0, none⟩ = some (.int .u8 0) := (blk_cell BX.out 0).trans rfl; have z1 : w5.cell? ⟨gx, 1, none⟩ = some (.int .u8 0) := (blk_cell BX.out 1).trans rfl; have z2 : w5.cell? ⟨gx, 2, none⟩ = some (.int .u8 0) := (blk_cell BX.out 2).trans rfl; have z3 : w5.cell? ⟨gx, 3, none⟩ = some (.int .u8 0) := (blk_cell BX.out 3).trans rfl; have y0 := blk_frozen BX.out 0; have y1 := blk_frozen BX.out 1; have y2 := blk_frozen BX.out 2; have y3 := blk_frozen BX.out 3))
        obtain ⟨w6, hw6, hb6, bx6, hf6⟩ := store4 (.int .u8 0) (.int .u8 1) (.int .u8 2) (.int .u8 5) HB5.out GX.out BX.out
        rw [← hw6]
        clear hw6 z0 z1 z2 z3 y0 y1 y2 y3 b0 b1 b2 b3
        have x0 : w6.cell? ⟨gx, 0, none⟩ = some (.int .u8 0) := (blk_cell bx6 0).trans rfl
        have x1 : w6.cell? ⟨gx, 1, none⟩ = some (.int .u8 1) := (blk_cell bx6 1).trans rfl
        have x2 : w6.cell? ⟨gx, 2, none⟩ = some (.int .u8 2) := (blk_cell bx6 2).trans rfl
        have x3 : w6.cell? ⟨gx, 3, none⟩ = some (.int .u8 5) := (blk_cell bx6 3).trans rfl
        have HS6 := Aside0.mk (St_step HS.out hb6)
        have HO6 := Aside0.mk (blk_below HO.out hb6)
        have HB6 := Aside0.mk (HB.out.trans (hb6.mono HB.out.size))
        go_wp2_with (first | (go_at_call 13; (with_reducible refine (step_calls (s := sB 0) (N := 0) HS6.out (sB_inv 0 (by decide)) (by decide) HB6.out.size ?u0 ?u1 ?u2 ?u3).mono ?_); (case u0 => decide); (case u1 => decide); (case u2 => decide); (case u3 => decide); rintro e w7 ⟨rfl, s', hs', hst', hfr'⟩))
        go_roundg k0
        case measure => omega
        case rel => exact ⟨1, rfl, ⟨by have := HI.out; omega⟩, ⟨by rw [sB_step 0 (by decide) hs'] at hst'; exact hst'⟩, ⟨(hfr'.2 go _ 27 HO6.out (St_ne HS6.out HO6.out) (by decide)).trans HO6.out⟩, ⟨HB6.out.trans hfr'.1⟩⟩
      · obtain ⟨k0, rfl⟩ : ∃ k0, gk = k0 + 1 := ⟨gk - 1, by have := HI.out; omega⟩
        have HS := Aside0.mk (show St wr w.heap.size g (sB 1) from HSI.out)
        have b0 : wr.cell? ⟨go, 4, none⟩ = some (.int .u8 0) := (blk_cell HO.out 4).trans rfl
        have b1 : wr.cell? ⟨go, 5, none⟩ = some (.int .u8 2) := (blk_cell HO.out 5).trans rfl
        have b2 : wr.cell? ⟨go, 6, none⟩ = some (.int .u8 2) := (blk_cell HO.out 6).trans rfl
        have b3 : wr.cell? ⟨go, 7, none⟩ = some (.int .u8 4) := (blk_cell HO.out 7).trans rfl
        go_upto_region 5 with (first | ((with_reducible refine gate_dst (N := 3) rfl ?_); refine box_event ?hg (N := 3) ?hd (cs := #[.int .u8 0, .int .u8 0, .int .u8 0, .int .u8 0]) (t := 27) ?hr ?_; (case hd => rfl); (case hg => rfl); (case hr => first | (go_simp; done) | (go_simp; rfl)); intro gx hg_ w5 hbox hb; have GX := Aside0.mk ((by rw [hg_]; exact Nat.le_refl _) : wr.heap.size ≤ gx); have BX := Aside0.mk hbox; have HB5 := Aside0.mk hb; clear hbox hb hg_; have z0 : w5.cell? ⟨gx, 0, none⟩ = some (.int .u8 0) := (blk_cell BX.out 0).trans rfl; have z1 : w5.cell? ⟨gx, 1, none⟩ = some (.int .u8 0) := (blk_cell BX.out 1).trans rfl; have z2 : w5.cell? ⟨gx, 2, none⟩ = some (.int .u8 0) := (blk_cell BX.out 2).trans rfl; have z3 : w5.cell? ⟨gx, 3, none⟩ = some (.int .u8 0) := (blk_cell BX.out 3).trans rfl; have y0 := blk_frozen BX.out 0; have y1 := blk_frozen BX.out 1; have y2 := blk_frozen BX.out 2; have y3 := blk_frozen BX.out 3))
        obtain ⟨w6, hw6, hb6, bx6, hf6⟩ := store4 (.int .u8 0) (.int .u8 2) (.int .u8 2) (.int .u8 4) HB5.out GX.out BX.out
        rw [← hw6]
        clear hw6 z0 z1 z2 z3 y0 y1 y2 y3 b0 b1 b2 b3
        have x0 : w6.cell? ⟨gx, 0, none⟩ = some (.int .u8 0) := (blk_cell bx6 0).trans rfl
        have x1 : w6.cell? ⟨gx, 1, none⟩ = some (.int .u8 2) := (blk_cell bx6 1).trans rfl
        have x2 : w6.cell? ⟨gx, 2, none⟩ = some (.int .u8 2) := (blk_cell bx6 2).trans rfl
        have x3 : w6.cell? ⟨gx, 3, none⟩ = some (.int .u8 4) := (blk_cell bx6 3).trans rfl
        have HS6 := Aside0.mk (St_step HS.out hb6)
        have HO6 := Aside0.mk (blk_below HO.out hb6)
        have HB6 := Aside0.mk (HB.out.trans (hb6.mono HB.out.size))
        go_wp2_with (first | (go_at_call 13; (with_reducible refine (step_calls (s := sB 1) (N := 1) HS6.out (sB_inv 1 (by decide)) (by decide) HB6.out.size ?u0 ?u1 ?u2 ?u3).mono ?_); (case u0 => decide); (case u1 => decide); (case u2 => decide); (case u3 => decide); rintro e w7 ⟨rfl, s', hs', hst', hfr'⟩))
        go_roundg k0
        case measure => omega
        case rel => exact ⟨2, rfl, ⟨by have := HI.out; omega⟩, ⟨by rw [sB_step 1 (by decide) hs'] at hst'; exact hst'⟩, ⟨(hfr'.2 go _ 27 HO6.out (St_ne HS6.out HO6.out) (by decide)).trans HO6.out⟩, ⟨HB6.out.trans hfr'.1⟩⟩
      · obtain ⟨k0, rfl⟩ : ∃ k0, gk = k0 + 1 := ⟨gk - 1, by have := HI.out; omega⟩
        have HS := Aside0.mk (show St wr w.heap.size g (sB 2) from HSI.out)
        have b0 : wr.cell? ⟨go, 8, none⟩ = some (.int .u8 0) := (blk_cell HO.out 8).trans rfl
        have b1 : wr.cell? ⟨go, 9, none⟩ = some (.int .u8 3) := (blk_cell HO.out 9).trans rfl
        have b2 : wr.cell? ⟨go, 10, none⟩ = some (.int .u8 0) := (blk_cell HO.out 10).trans rfl
        have b3 : wr.cell? ⟨go, 11, none⟩ = some (.int .u8 1) := (blk_cell HO.out 11).trans rfl
        go_upto_region 5 with (first | ((with_reducible refine gate_dst (N := 3) rfl ?_); refine box_event ?hg (N := 3) ?hd (cs := #[.int .u8 0, .int .u8 0, .int .u8 0, .int .u8 0]) (t := 27) ?hr ?_; (case hd => rfl); (case hg => rfl); (case hr => first | (go_simp; done) | (go_simp; rfl)); intro gx hg_ w5 hbox hb; have GX := Aside0.mk ((by rw [hg_]; exact Nat.le_refl _) : wr.heap.size ≤ gx); have BX := Aside0.mk hbox; have HB5 := Aside0.mk hb; clear hbox hb hg_; have z0 : w5.cell? ⟨gx, 0, none⟩ = some (.int .u8 0) := (blk_cell BX.out 0).trans rfl; have z1 : w5.cell? ⟨gx, 1, none⟩ = some (.int .u8 0) := (blk_cell BX.out 1).trans rfl; have z2 : w5.cell? ⟨gx, 2, none⟩ = some (.int .u8 0) := (blk_cell BX.out 2).trans rfl; have z3 : w5.cell? ⟨gx, 3, none⟩ = some (.int .u8 0) := (blk_cell BX.out 3).trans rfl; have y0 := blk_frozen BX.out 0; have y1 := blk_frozen BX.out 1; have y2 := blk_frozen BX.out 2; have y3 := blk_frozen BX.out 3))
        obtain ⟨w6, hw6, hb6, bx6, hf6⟩ := store4 (.int .u8 0) (.int .u8 3) (.int .u8 0) (.int .u8 1) HB5.out GX.out BX.out
        rw [← hw6]
        clear hw6 z0 z1 z2 z3 y0 y1 y2 y3 b0 b1 b2 b3
        have x0 : w6.cell? ⟨gx, 0, none⟩ = some (.int .u8 0) := (blk_cell bx6 0).trans rfl
        have x1 : w6.cell? ⟨gx, 1, none⟩ = some (.int .u8 3) := (blk_cell bx6 1).trans rfl
        have x2 : w6.cell? ⟨gx, 2, none⟩ = some (.int .u8 0) := (blk_cell bx6 2).trans rfl
        have x3 : w6.cell? ⟨gx, 3, none⟩ = some (.int .u8 1) := (blk_cell bx6 3).trans rfl
        have HS6 := Aside0.mk (St_step HS.out hb6)
        have HO6 := Aside0.mk (blk_below HO.out hb6)
        have HB6 := Aside0.mk (HB.out.trans (hb6.mono HB.out.size))
        go_wp2_with (first | (go_at_call 13; (with_reducible refine (step_calls (s := sB 2) (N := 2) HS6.out (sB_inv 2 (by decide)) (by decide) HB6.out.size ?u0 ?u1 ?u2 ?u3).mono ?_); (case u0 => decide); (case u1 => decide); (case u2 => decide); (case u3 => decide); rintro e w7 ⟨rfl, s', hs', hst', hfr'⟩))
        go_roundg k0
        case measure => omega
        case rel => exact ⟨3, rfl, ⟨by have := HI.out; omega⟩, ⟨by rw [sB_step 2 (by decide) hs'] at hst'; exact hst'⟩, ⟨(hfr'.2 go _ 27 HO6.out (St_ne HS6.out HO6.out) (by decide)).trans HO6.out⟩, ⟨HB6.out.trans hfr'.1⟩⟩
      · obtain ⟨k0, rfl⟩ : ∃ k0, gk = k0 + 1 := ⟨gk - 1, by have := HI.out; omega⟩
        have HS := Aside0.mk (show St wr w.heap.size g (sB 3) from HSI.out)
        have b0 : wr.cell? ⟨go, 12, none⟩ = some (.int .u8 2) := (blk_cell HO.out 12).trans rfl
        have b1 : wr.cell? ⟨go, 13, none⟩ = some (.int .u8 0) := (blk_cell HO.out 13).trans rfl
        have b2 : wr.cell? ⟨go, 14, none⟩ = some (.int .u8 0) := (blk_cell HO.out 14).trans rfl
        have b3 : wr.cell? ⟨go, 15, none⟩ = some (.int .u8 0) := (blk_cell HO.out 15).trans rfl
        go_upto_region 5 with (first | ((with_reducible refine gate_dst (N := 3) rfl ?_); refine box_event ?hg (N := 3) ?hd (cs := #[.int .u8 0, .int .u8 0, .int .u8 0, .int .u8 0]) (t := 27) ?hr ?_; (case hd => rfl); (case hg => rfl); (case hr => first | (go_simp; done) | (go_simp; rfl)); intro gx hg_ w5 hbox hb; have GX := Aside0.mk ((by rw [hg_]; exact Nat.le_refl _) : wr.heap.size ≤ gx); have BX := Aside0.mk hbox; have HB5 := Aside0.mk hb; clear hbox hb hg_; have z0 : w5.cell? ⟨gx, 0, none⟩ = some (.int .u8 0) := (blk_cell BX.out 0).trans rfl; have z1 : w5.cell? ⟨gx, 1, none⟩ = some (.int .u8 0) := (blk_cell BX.out 1).trans rfl; have z2 : w5.cell? ⟨gx, 2, none⟩ = some (.int .u8 0) := (blk_cell BX.out 2).trans rfl; have z3 : w5.cell? ⟨gx, 3, none⟩ = some (.int .u8 0) := (blk_cell BX.out 3).trans rfl; have y0 := blk_frozen BX.out 0; have y1 := blk_frozen BX.out 1; have y2 := blk_frozen BX.out 2; have y3 := blk_frozen BX.out 3))
        obtain ⟨w6, hw6, hb6, bx6, hf6⟩ := store4 (.int .u8 2) (.int .u8 0) (.int .u8 0) (.int .u8 0) HB5.out GX.out BX.out
        rw [← hw6]
        clear hw6 z0 z1 z2 z3 y0 y1 y2 y3 b0 b1 b2 b3
        have x0 : w6.cell? ⟨gx, 0, none⟩ = some (.int .u8 2) := (blk_cell bx6 0).trans rfl
        have x1 : w6.cell? ⟨gx, 1, none⟩ = some (.int .u8 0) := (blk_cell bx6 1).trans rfl
        have x2 : w6.cell? ⟨gx, 2, none⟩ = some (.int .u8 0) := (blk_cell bx6 2).trans rfl
        have x3 : w6.cell? ⟨gx, 3, none⟩ = some (.int .u8 0) := (blk_cell bx6 3).trans rfl
        have HS6 := Aside0.mk (St_step HS.out hb6)
        have HO6 := Aside0.mk (blk_below HO.out hb6)
        have HB6 := Aside0.mk (HB.out.trans (hb6.mono HB.out.size))
        go_wp2_with (first | (go_at_call 13; (with_reducible refine (step_calls (s := sB 3) (N := 3) HS6.out (sB_inv 3 (by decide)) (by decide) HB6.out.size ?u0 ?u1 ?u2 ?u3).mono ?_); (case u0 => decide); (case u1 => decide); (case u2 => decide); (case u3 => decide); rintro e w7 ⟨rfl, s', hs', hst', hfr'⟩))
        go_roundg k0
        case measure => omega
        case rel => exact ⟨4, rfl, ⟨by have := HI.out; omega⟩, ⟨by rw [sB_step 3 (by decide) hs'] at hst'; exact hst'⟩, ⟨(hfr'.2 go _ 27 HO6.out (St_ne HS6.out HO6.out) (by decide)).trans HO6.out⟩, ⟨HB6.out.trans hfr'.1⟩⟩
    · obtain rfl : i = 4 := by have := HI.out; omega
      obtain ⟨t, ht⟩ : ∃ t : BQ, t = sB 4 := ⟨_, rfl⟩
      have hq4 : t.q = [⟨2, 2, 1, 1⟩, ⟨3, 0, 1, 0⟩] := by rw [ht]; exact sB4.1
      have ho4 : t.out = [⟨1, ⟨1, 2, 2, 1⟩⟩] := by rw [ht]; exact sB4.2
      have hs4 : St wr w.heap.size g t := by rw [ht]; exact HSI.out
      obtain ⟨vq, vl, vo, hst⟩ := hs4
      obtain ⟨Aq, cq_, eq_, hqc, hqr⟩ := Kd.Q_reads hst.2.2.1
      obtain ⟨Ao, co, eo, hoc, hor⟩ := Kd.R_reads hst.2.2.2.2
      subst eq_ eo
      have c0 : wr.cell? ⟨g, 0, none⟩ = some (.slice Aq 2 cq_) := (blk_cell hst.2.1 0).trans (by rw [show (2 : Nat) = t.q.length by rw [hq4]; rfl]; rfl)
      have c14 : wr.cell? ⟨g, 14, none⟩ = some (.slice Ao 1 co) := (blk_cell hst.2.1 14).trans (by rw [show (1 : Nat) = t.out.length by rw [ho4]; rfl]; rfl)
      rw [hq4] at hqr
      rw [ho4] at hor
      obtain ⟨ad, ea, a0, a1, a2, a3, a4⟩ := at_T39 hor 0 (by decide) (by decide)
      obtain ⟨bd, eb, b0, b1, b2, b3⟩ := at_T37 hqr 0 (by decide) (by decide)
      subst ea eb
      clear HSI HO HI hi hst hqc hoc hqr hor hq4 ho4 ht a0 a2 a3 a4 b1 b2 b3
      have a1' : wr.cell? ⟨ad.block, ad.off + 1, none⟩ = some (.int .i64 1) := by simpa [rd_T39, Addr.add] using a1
      have b0' : wr.cell? bd = some (.int .i64 2) := by simpa [rd_T37, Addr.add] using b0
      go_wp2
      go_ret
      exact ⟨rfl, HB.out⟩
end Go.Proofs.Ytimlodcdfekbhaa.Pure
