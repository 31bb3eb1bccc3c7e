/- Withdrawing an ask: step answers true and does what is said. -/
import Derived.Test.YtimlodcdfekbhaaTop3
import Derived.StillTailTactics
namespace Go.Proofs.Ytimlodcdfekbhaa.Pure
open Go.RowKit Go.Proofs.Ytimlodcdfekbhaa.PTopGrantsEnd Go.Proofs.YtimlodcdfekbhaaW.PrintWords Go.Proofs.YtimlodcdfekbhaaW.PrintLast Go.Proofs.YtimlodcdfekbhaaW.PrintMore
set_option linter.unusedVariables false
set_option linter.unusedSimpArgs false
def st1 (s : BQ) (p : Int) : BQ := if s.q.any (fun x => x.f0 == p) = true then { s with q := (can s.q p).1 } else s
theorem can_e {q : List S37} (hq : OkQ q) (p : Int) : (can q p).2 = if q.any (fun x => x.f0 == p) = true then 0 else 6 := by
  have hi := fst_some (fun x => x.f0 == p) q 0
  unfold can
  rw [if_pos (cq_ok.2 hq)]
  by_cases h : q.any (fun x => x.f0 == p) = true
  · rw [if_pos h]
    have h2 : pl q p ≥ 0 := hi.2 (by simpa using List.any_eq_true.1 h)
    rw [if_neg (by omega)]
  · rw [if_neg h]
    have h2 : ¬ pl q p ≥ 0 := fun h3 => h (List.any_eq_true.2 (hi.1 h3))
    rw [if_pos (by omega)]
set_option maxHeartbeats 8000000 in
set_option maxRecDepth 100000 in
theorem step1.calls (w : World) (base g : Nat) (s : BQ) (vq vl vo : Value) (o0 o1 o2 o3 p : Int) (hst : StV w base g s vq vl vo) (hrt : Rt s) (hok : OkQ s.q) (hbase : base ≤ w.heap.size) (hql : s.q.length ≤ 999) (hp : (wrap64 o1).tmod 8 = p) (hk : o0.tmod 4 = 1) :
    Calls Try.prog 13 #[.pointer (some ⟨g, 0, none⟩), .agg #[.int .u8 o0, .int .u8 o1, .int .u8 o2, .int .u8 o3]] w fun e w' => e = .returned (.bool true) ∧ St w' base g (st1 s p) ∧ Fr base g w w' := by
  have HST := Aside0.mk hst
  have HRT := Aside0.mk hrt
  have HOK := Aside0.mk hok
  have HBS := Aside0.mk hbase
  clear hrt hok hbase
  obtain ⟨hb, hg, hq, hL, hO⟩ := hst
  obtain ⟨Aq, cq_, eq_, hqc, hqr⟩ := Kd.Q_reads hq
  subst eq_
  have HB := Aside0.mk (Below.refl w.heap.size w)
  have HGB := Aside0.mk hg
  have HQ := Aside0.mk hq
  have HL := Aside0.mk hL
  have HO := Aside0.mk hO
  have HBA := Aside0.mk hb
  have HQL := Aside0.mk hql
  have HQC := Aside0.mk hqc
  have HQR := Aside0.mk hqr
  have c0 : w.cell? ⟨g, 0, none⟩ = some (.slice Aq s.q.length cq_) := (blk_cell hg 0).trans rfl
  clear hb hg hq hL hO hql hqc hqr
  go_enter Try.func13, Try.ntmps13
  go_wp2_with (first | ((with_reducible refine gate_dst (N := 3) rfl ?_); refine box_event ?hg (N := 3) ?hd (cs := #[.int .u8 o0, .int .u8 o1, .int .u8 o2, .int .u8 o3]) (t := 27) ?hr ?_; (case hd => rfl); (case hg => rfl); (case hr => first | (go_simp; done) | (go_simp; rfl)); intro go hg_ w1 hbox hb; have BO := Aside0.mk hbox; have GO := Aside0.mk ((by rw [hg_]; exact Nat.le_refl _) : w.heap.size ≤ go); have HB1 := Aside0.mk hb; have e0 := (hb.cell (World.block_lt_of_cell? _ _ c0)).trans c0; have b1 : w1.cell? ⟨go, 1, none⟩ = some (.int .u8 o1) := (blk_cell BO.out 1).trans rfl; clear hbox hb hg_ HB; have HB := HB1; clear HB1))
  go_loopg [6, 33] s.q.length (fun kq v6 v33 w' => ∃ (b : Bool) (i : Int), v6 = .bool b ∧ v33 = .int .i64 i ∧ Aside0 (0 ≤ i ∧ i + kq = s.q.length) ∧ Aside0 (b = (s.q.take i.toNat).any (fun x => x.f0 == p)) ∧ Aside0 (w'.heap[go]? = some (.cells #[.int .u8 o0, .int .u8 o1, .int .u8 o2, .int .u8 o3] 27 (0, 0))) ∧ Aside0 (Below w.heap.size w w'))
  case atStart => exact ⟨false, 0, rfl, rfl, ⟨by omega⟩, ⟨rfl⟩, BO, HB⟩
  case round =>
    clear BO HB e0 b1
    obtain ⟨b, i, rfl, rfl, HI, HW, BO, HB⟩ := hrel
    by_cases hi : i < (s.q.length : Int)
    · have hib : decide (i < (s.q.length : Int)) = true := decide_eq_true hi
      obtain ⟨k0, rfl⟩ : ∃ k0, gk = k0 + 1 := ⟨gk - 1, by have := HI.out; omega⟩
      have p0 : 0 ≤ i := HI.out.1
      obtain ⟨ad, e0, x0, x1, x2, x3⟩ := at_T37 HQR.out i p0 hi
      cases e0
      replace x0 := (HB.out.cell (World.block_lt_of_cell? w _ x0)).trans x0
      replace x1 := (HB.out.cell (World.block_lt_of_cell? w _ x1)).trans x1
      replace x2 := (HB.out.cell (World.block_lt_of_cell? w _ x2)).trans x2
      replace x3 := (HB.out.cell (World.block_lt_of_cell? w _ x3)).trans x3
      have hnx : s.q.take (i + 1).toNat = s.q.take i.toNat ++ [rd_T37 s.q i] := by
        have hx : rd_T37 s.q i = s.q[i.toNat]'(by omega) := by
          unfold rd_T37
          rw [List.getD_eq_getElem?_getD, List.getElem?_eq_getElem (by omega)]
          rfl
        rw [hx, show (i + 1).toNat = i.toNat + 1 by omega, List.take_succ_eq_append_getElem (by omega)]
      have hw1 : IntKind.i64.wrap (i + 1) = i + 1 := by
        have := HQL.out
        rw [IntKind.wrap_i64]
        omega
      have HI1 := Aside0.mk hi
      replace p0 := eq_true p0
      have hi1 := eq_true hi
      have HN := Aside0.mk hnx
      clear hnx
      generalize rd_T37 s.q i = x at *
      cases b with
      | true =>
        go_wp2_with (first | ((with_reducible refine gate_dst (N := 8) rfl ?_); refine box_event ?hg (N := 8) ?hd (cs := #[.int .i64 0, .int .i64 0, .int .i64 0, .int .i64 0]) (t := 37) ?hr ?_; (case hd => rfl); (case hg => rfl); (case hr => first | (go_simp; done) | (go_simp; rfl)); intro gx hg_ w5 hbox hb; have GX := Aside0.mk (And.intro (blk_lt hbox) ((by rw [hg_]; exact HB.out.size) : w.heap.size ≤ gx)); have BX := Aside0.mk hbox; have HB5 := Aside0.mk (below_step HB.out hb); have BO5 := Aside0.mk (blk_below BO.out hb); clear hbox hb HB BO hg_; have HB := HB5; have BO := BO5; clear HB5 BO5; have z0 : w5.cell? ⟨gx, 0, none⟩ = some (.int .i64 0) := (blk_cell BX.out 0).trans rfl; have z1 : w5.cell? ⟨gx, 1, none⟩ = some (.int .i64 0) := (blk_cell BX.out 1).trans rfl; have z2 : w5.cell? ⟨gx, 2, none⟩ = some (.int .i64 0) := (blk_cell BX.out 2).trans rfl; have z3 : w5.cell? ⟨gx, 3, none⟩ = some (.int .i64 0) := (blk_cell BX.out 3).trans rfl; have y0 := blk_frozen BX.out 0; have y1 := blk_frozen BX.out 1; have y2 := blk_frozen BX.out 2; have y3 := blk_frozen BX.out 3))
        obtain ⟨w6, hw6, HB6, BX6, hf6⟩ := store4 (.int .i64 x.f0) (.int .i64 x.f1) (.int .i64 x.f2) (.int .i64 x.f3) HB.out GX.out.2 BX.out
        rw [← hw6]
        have BO6 := Aside0.mk ((hf6 go (types_ne BO.out BX.out (by decide))).trans BO.out)
        clear hf6 hw6 z0 z1 z2 z3 y0 y1 y2 y3 x0 x1 x2 x3 BO HB BX
        go_roundg k0
        case measure => omega
        case rel => exact ⟨true, i + 1, rfl, rfl, ⟨by have := HI.out; omega⟩, ⟨by rw [HN.out, List.any_append, ← HW.out]; rfl⟩, BO6, ⟨HB6⟩⟩
      | false =>
        go_wp2_with (first | ((with_reducible refine gate_dst (N := 8) rfl ?_); refine box_event ?hg (N := 8) ?hd (cs := #[.int .i64 0, .int .i64 0, .int .i64 0, .int .i64 0]) (t := 37) ?hr ?_; (case hd => rfl); (case hg => rfl); (case hr => first | (go_simp; done) | (go_simp; rfl)); intro gx hg_ w5 hbox hb; have GX := Aside0.mk (And.intro (blk_lt hbox) ((by rw [hg_]; exact HB.out.size) : w.heap.size ≤ gx)); have BX := Aside0.mk hbox; have HB5 := Aside0.mk (below_step HB.out hb); have BO5 := Aside0.mk (blk_below BO.out hb); clear hbox hb HB BO hg_; have HB := HB5; have BO := BO5; clear HB5 BO5; have z0 : w5.cell? ⟨gx, 0, none⟩ = some (.int .i64 0) := (blk_cell BX.out 0).trans rfl; have z1 : w5.cell? ⟨gx, 1, none⟩ = some (.int .i64 0) := (blk_cell BX.out 1).trans rfl; have z2 : w5.cell? ⟨gx, 2, none⟩ = some (.int .i64 0) := (blk_cell BX.out 2).trans rfl; have z3 : w5.cell? ⟨gx, 3, none⟩ = some (.int .i64 0) := (blk_cell BX.out 3).trans rfl; have y0 := blk_frozen BX.out 0; have y1 := blk_frozen BX.out 1; have y2 := blk_frozen BX.out 2; have y3 := blk_frozen BX.out 3))
        obtain ⟨w6, hw6, HB6, BX6, hf6⟩ := store4 (.int .i64 x.f0) (.int .i64 x.f1) (.int .i64 x.f2) (.int .i64 x.f3) HB.out GX.out.2 BX.out
        rw [← hw6]
        have BO6 := Aside0.mk ((hf6 go (types_ne BO.out BX.out (by decide))).trans BO.out)
        clear hf6 hw6 z0 z1 z2 z3 y0 y1 y2 y3 x0 x1 x2 x3 BO HB BX
        go_roundg k0
        case measure => omega
        case rel => exact ⟨x.f0 == p, i + 1, rfl, rfl, ⟨by have := HI.out; omega⟩, ⟨by rw [HN.out, List.any_append, ← HW.out]; simp⟩, BO6, ⟨HB6⟩⟩
    · have hib : decide (i < (s.q.length : Int)) = false := decide_eq_false hi
      have hie : s.q.take i.toNat = s.q := List.take_of_length_le (by omega)
      rw [hie] at HW
      have HWW := HW.out
      clear HW hie hi HI
      have b0 : wr.cell? ⟨go, 0, none⟩ = some (.int .u8 o0) := (blk_cell BO.out 0).trans rfl
      have b1 : wr.cell? ⟨go, 1, none⟩ = some (.int .u8 o1) := (blk_cell BO.out 1).trans rfl
      have b2 : wr.cell? ⟨go, 2, none⟩ = some (.int .u8 o2) := (blk_cell BO.out 2).trans rfl
      have b3 : wr.cell? ⟨go, 3, none⟩ = some (.int .u8 o3) := (blk_cell BO.out 3).trans rfl
      have e0 := (HB.out.cell (World.block_lt_of_cell? _ _ c0)).trans c0
      obtain ⟨kc, hkc⟩ := Ev.rounds (prog_cancel HQL.out p)
      have HC := Aside0.mk (show grant_Cancel.f kc s.q p = some ((can s.q p).1, (can s.q p).2) from hkc)
      have hce := can_e HOK.out p
      clear hkc
      cases b with
      | true =>
        have HWB := Aside0.mk HWW.symm
        rw [if_pos HWB.out] at hce
        have hst1 : st1 s p = { s with q := (can s.q p).1 } := if_pos HWB.out
        have HS1 := Aside0.mk hst1
        rw [hce] at HC
        clear HWW hst1 hce
        generalize (can s.q p).1 = r at *
        have HR2 : Aside0 (Rt { s with q := r }) := ⟨⟨HRT.out.hl, HRT.out.lim, HRT.out.n0, HRT.out.a0, HRT.out.ol⟩⟩
        go_wp2_with (first | (go_at_call 31; (with_reducible refine (grant_Cancel.calls kc _ _ s.q p r 0 _ ?side1 ?side2 HC.out).mono ?_); (case side1 => exact (Kd.C_below HQR.out HB.out)); (case side2 => exact HQC.out); rintro e w12 ⟨v12, rfl, ho12, hb12⟩; obtain ⟨A12, c12, e12⟩ := Kd.R_slice ho12; subst e12; have HB2 := Aside0.mk (below_step HB.out hb12); have HST2 := Aside0.mk (StV_step HST.out HB2.out); have HO12 := Aside0.mk (StV_q HST2.out (Kd.Q_of_R (Kd.R_lower ho12 (Nat.le_trans HBS.out (below_size HB.out))))); have f0 : w12.cell? ⟨g, 0, none⟩ = some (.slice Aq s.q.length cq_) := (blk_cell HST2.out.2.1 0).trans rfl; have y0 := blk_frozen HST2.out.2.1 0; clear HB; have HB := HB2; clear HB2 hb12 ho12) | (go_at_call 35; (with_reducible refine (right_calls HO12.out HR2.out).mono ?_); rintro e w21 ⟨rfl, hb21⟩))
        go_ret
        exact ⟨rfl, ⟨_, _, _, by rw [HS1.out]; exact StV_step HO12.out hb21⟩, below_base ((Fr.of HB.out HBS.out).setCell (p := ⟨g, 0, none⟩) HBA.out _) HBS.out hb21⟩
      | false =>
        have HWB := Aside0.mk HWW.symm
        rw [if_neg (by rw [HWB.out]; decide)] at hce
        have HS1 := Aside0.mk (show st1 s p = s from if_neg (by rw [HWB.out]; decide))
        rw [hce] at HC
        clear HWW hce
        generalize (can s.q p).1 = r at *
        go_wp2_with (first | (go_at_call 31; (with_reducible refine (grant_Cancel.calls kc _ _ s.q p r 6 _ ?side1 ?side2 HC.out).mono ?_); (case side1 => exact (Kd.C_below HQR.out HB.out)); (case side2 => exact HQC.out); rintro e w12 ⟨v12, rfl, ho12, hb12⟩; obtain ⟨A12, c12, e12⟩ := Kd.R_slice ho12; subst e12; have HB2 := Aside0.mk (below_step HB.out hb12); have HST2 := Aside0.mk (StV_step HST.out HB2.out); clear HB; have HB := HB2; clear HB2 hb12 ho12) | (go_at_call 35; (with_reducible refine (right_calls HST2.out HRT.out).mono ?_); rintro e w21 ⟨rfl, hb21⟩))
        go_ret
        exact ⟨rfl, ⟨_, _, _, by rw [HS1.out]; exact StV_step HST2.out hb21⟩, below_base (Fr.of HB.out HBS.out) HBS.out hb21⟩
end Go.Proofs.Ytimlodcdfekbhaa.Pure
