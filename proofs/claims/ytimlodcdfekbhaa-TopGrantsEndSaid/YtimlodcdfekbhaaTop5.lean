/- A new ask: step answers true and does what is said. -/
import Derived.Test.YtimlodcdfekbhaaTop4
import Derived.StillTailTactics
namespace Go.Proofs.Ytimlodcdfekbhaa.Pure
open Go.RowKit Go.Proofs.Ytimlodcdfekbhaa.PTopGrantsEnd Go.Proofs.YtimlodcdfekbhaaW.PrintWords Go.Proofs.YtimlodcdfekbhaaW.PrintLast Go.Proofs.YtimlodcdfekbhaaW.PrintMore
set_option linter.unusedVariables false
set_option linter.unusedSimpArgs false
theorem drew_cell (w : World) (a : Addr) : w.drew.cell? a = w.cell? a := rfl
def st0 (s : BQ) (p : Int) (x : S37) : BQ := if s.q.any (fun y => y.f0 == p) = true then s else { s with q := s.q ++ [x], nums := fun j => if j = p then s.nx else s.nums j, nx := s.nx + 1 }
theorem psh_e {q : List S37} (hq : OkQ q) {x : S37} (hx : vA x) : psh q x = if q.any (fun y => y.f0 == x.f0) = true then ([], 7) else (q ++ [x], 0) := by
  have hi := fst_some (fun y => y.f0 == x.f0) q 0
  unfold psh
  rw [if_pos (cq_ok.2 hq), if_pos hx]
  by_cases h : q.any (fun y => y.f0 == x.f0) = true
  · rw [if_pos h]
    have h2 : pl q x.f0 ≥ 0 := hi.2 (by simpa using List.any_eq_true.1 h)
    rw [if_pos h2]
  · rw [if_neg h]
    have h2 : ¬ pl q x.f0 ≥ 0 := fun h3 => h (List.any_eq_true.2 (hi.1 h3))
    rw [if_neg h2]
set_option maxHeartbeats 8000000 in
set_option maxRecDepth 100000 in
theorem step0.calls (w : World) (base g : Nat) (s : BQ) (vq vl vo : Value) (o0 o1 o2 o3 p a1 a2 a3 : Int) (hst : StV w base g s vq vl vo) (hrt : Rt s) (hok : OkQ s.q) (hbase : base ≤ w.heap.size) (hql : s.q.length ≤ 999) (hp : (wrap64 o1).tmod 8 = p) (hp0 : 0 ≤ p) (hp8 : p < 8) (h2 : (wrap64 o2).tmod 3 = a1) (h3 : (wrap64 o3).tmod 3 = a2) (h4 : (wrap64 ((wrap64 o3).tdiv 3)).tmod 4 = a3) (hx : vA ⟨p, a1, a2, a3⟩) (hnx : 0 ≤ s.nx ∧ s.nx ≤ 1000000) (hk : o0.tmod 4 = 0) :
    Calls Try.prog 13 #[.pointer (some ⟨g, 0, none⟩), .agg #[.int .u8 o0, .int .u8 o1, .int .u8 o2, .int .u8 o3]] w fun e w' => e = .returned (.bool true) ∧ St w' base g (st0 s p ⟨p, a1, a2, a3⟩) ∧ Fr base g w w' := by
  have HST := Aside0.mk hst
  have HRT := Aside0.mk hrt
  have HOK := Aside0.mk hok
  have HBS := Aside0.mk hbase
  have HP := Aside0.mk (And.intro hp0 hp8)
  have HX := Aside0.mk hx
  have HNX := Aside0.mk hnx
  clear hrt hok hbase hp0 hp8 hx hnx
  obtain ⟨hb, hg, hq, hL, hO⟩ := hst
  obtain ⟨Aq, cq_, eq_, hqc, hqr⟩ := Kd.Q_reads hq
  subst eq_
  have HB := Aside0.mk (Below.refl w.heap.size w)
  have HGB := Aside0.mk hg
  have HQ := Aside0.mk hq
  have HL := Aside0.mk hL
  have HO := Aside0.mk hO
  have HBA := Aside0.mk hb
  have HQL := Aside0.mk hql
  have HQC := Aside0.mk hqc
  have HQR := Aside0.mk hqr
  have c0 : w.cell? ⟨g, 0, none⟩ = some (.slice Aq s.q.length cq_) := (blk_cell hg 0).trans rfl
  clear hb hg hq hL hO hql hqc hqr
  go_enter Try.func13, Try.ntmps13
  go_wp2_with (first | ((with_reducible refine gate_dst (N := 3) rfl ?_); refine box_event ?hg (N := 3) ?hd (cs := #[.int .u8 o0, .int .u8 o1, .int .u8 o2, .int .u8 o3]) (t := 27) ?hr ?_; (case hd => rfl); (case hg => rfl); (case hr => first | (go_simp; done) | (go_simp; rfl)); intro go hg_ w1 hbox hb; have BO := Aside0.mk hbox; have GO := Aside0.mk ((by rw [hg_]; exact Nat.le_refl _) : w.heap.size ≤ go); have HB1 := Aside0.mk hb; have e0 := (hb.cell (World.block_lt_of_cell? _ _ c0)).trans c0; have b1 : w1.cell? ⟨go, 1, none⟩ = some (.int .u8 o1) := (blk_cell BO.out 1).trans rfl; clear hbox hb hg_ HB; have HB := HB1; clear HB1))
  go_loopg [6, 33] s.q.length (fun kq v6 v33 w' => ∃ (b : Bool) (i : Int), v6 = .bool b ∧ v33 = .int .i64 i ∧ Aside0 (0 ≤ i ∧ i + kq = s.q.length) ∧ Aside0 (b = (s.q.take i.toNat).any (fun x => x.f0 == p)) ∧ Aside0 (w'.heap[go]? = some (.cells #[.int .u8 o0, .int .u8 o1, .int .u8 o2, .int .u8 o3] 27 (0, 0))) ∧ Aside0 (Below w.heap.size w w'))
  case atStart => exact ⟨false, 0, rfl, rfl, ⟨by omega⟩, ⟨rfl⟩, BO, HB⟩
  case round =>
    clear BO HB e0 b1
    obtain ⟨b, i, rfl, rfl, HI, HW, BO, HB⟩ := hrel
    by_cases hi : i < (s.q.length : Int)
    · have hib : decide (i < (s.q.length : Int)) = true := decide_eq_true hi
      obtain ⟨k0, rfl⟩ : ∃ k0, gk = k0 + 1 := ⟨gk - 1, by have := HI.out; omega⟩
      have p0 : 0 ≤ i := HI.out.1
      obtain ⟨ad, e0, x0, x1, x2, x3⟩ := at_T37 HQR.out i p0 hi
      cases e0
      replace x0 := (HB.out.cell (World.block_lt_of_cell? w _ x0)).trans x0
      replace x1 := (HB.out.cell (World.block_lt_of_cell? w _ x1)).trans x1
      replace x2 := (HB.out.cell (World.block_lt_of_cell? w _ x2)).trans x2
      replace x3 := (HB.out.cell (World.block_lt_of_cell? w _ x3)).trans x3
      have hnx : s.q.take (i + 1).toNat = s.q.take i.toNat ++ [rd_T37 s.q i] := by
        have hx : rd_T37 s.q i = s.q[i.toNat]'(by omega) := by
          unfold rd_T37
          rw [List.getD_eq_getElem?_getD, List.getElem?_eq_getElem (by omega)]
          rfl
        rw [hx, show (i + 1).toNat = i.toNat + 1 by omega, List.take_succ_eq_append_getElem (by omega)]
      have hw1 : IntKind.i64.wrap (i + 1) = i + 1 := by
        have := HQL.out
        rw [IntKind.wrap_i64]
        omega
      have HI1 := Aside0.mk hi
      replace p0 := eq_true p0
      have hi1 := eq_true hi
      have HN := Aside0.mk hnx
      clear hnx
      generalize rd_T37 s.q i = x at *
      cases b with
      | true =>
        go_wp2_with (first | ((with_reducible refine gate_dst (N := 8) rfl ?_); refine box_event ?hg (N := 8) ?hd (cs := #[.int .i64 0, .int .i64 0, .int .i64 0, .int .i64 0]) (t := 37) ?hr ?_; (case hd => rfl); (case hg => rfl); (case hr => first | (go_simp; done) | (go_simp; rfl)); intro gx hg_ w5 hbox hb; have GX := Aside0.mk (And.intro (blk_lt hbox) ((by rw [hg_]; exact HB.out.size) : w.heap.size ≤ gx)); have BX := Aside0.mk hbox; have HB5 := Aside0.mk (below_step HB.out hb); have BO5 := Aside0.mk (blk_below BO.out hb); clear hbox hb HB BO hg_; have HB := HB5; have BO := BO5; clear HB5 BO5; have z0 : w5.cell? ⟨gx, 0, none⟩ = some (.int .i64 0) := (blk_cell BX.out 0).trans rfl; have z1 : w5.cell? ⟨gx, 1, none⟩ = some (.int .i64 0) := (blk_cell BX.out 1).trans rfl; have z2 : w5.cell? ⟨gx, 2, none⟩ = some (.int .i64 0) := (blk_cell BX.out 2).trans rfl; have z3 : w5.cell? ⟨gx, 3, none⟩ = some (.int .i64 0) := (blk_cell BX.out 3).trans rfl; have y0 := blk_frozen BX.out 0; have y1 := blk_frozen BX.out 1; have y2 := blk_frozen BX.out 2; have y3 := blk_frozen BX.out 3))
        obtain ⟨w6, hw6, HB6, BX6, hf6⟩ := store4 (.int .i64 x.f0) (.int .i64 x.f1) (.int .i64 x.f2) (.int .i64 x.f3) HB.out GX.out.2 BX.out
        rw [← hw6]
        have BO6 := Aside0.mk ((hf6 go (types_ne BO.out BX.out (by decide))).trans BO.out)
        clear hf6 hw6 z0 z1 z2 z3 y0 y1 y2 y3 x0 x1 x2 x3 BO HB BX
        go_roundg k0
        case measure => omega
        case rel => exact ⟨true, i + 1, rfl, rfl, ⟨by have := HI.out; omega⟩, ⟨by rw [HN.out, List.any_append, ← HW.out]; rfl⟩, BO6, ⟨HB6⟩⟩
      | false =>
        go_wp2_with (first | ((with_reducible refine gate_dst (N := 8) rfl ?_); refine box_event ?hg (N := 8) ?hd (cs := #[.int .i64 0, .int .i64 0, .int .i64 0, .int .i64 0]) (t := 37) ?hr ?_; (case hd => rfl); (case hg => rfl); (case hr => first | (go_simp; done) | (go_simp; rfl)); intro gx hg_ w5 hbox hb; have GX := Aside0.mk (And.intro (blk_lt hbox) ((by rw [hg_]; exact HB.out.size) : w.heap.size ≤ gx)); have BX := Aside0.mk hbox; have HB5 := Aside0.mk (below_step HB.out hb); have BO5 := Aside0.mk (blk_below BO.out hb); clear hbox hb HB BO hg_; have HB := HB5; have BO := BO5; clear HB5 BO5; have z0 : w5.cell? ⟨gx, 0, none⟩ = some (.int .i64 0) := (blk_cell BX.out 0).trans rfl; have z1 : w5.cell? ⟨gx, 1, none⟩ = some (.int .i64 0) := (blk_cell BX.out 1).trans rfl; have z2 : w5.cell? ⟨gx, 2, none⟩ = some (.int .i64 0) := (blk_cell BX.out 2).trans rfl; have z3 : w5.cell? ⟨gx, 3, none⟩ = some (.int .i64 0) := (blk_cell BX.out 3).trans rfl; have y0 := blk_frozen BX.out 0; have y1 := blk_frozen BX.out 1; have y2 := blk_frozen BX.out 2; have y3 := blk_frozen BX.out 3))
        obtain ⟨w6, hw6, HB6, BX6, hf6⟩ := store4 (.int .i64 x.f0) (.int .i64 x.f1) (.int .i64 x.f2) (.int .i64 x.f3) HB.out GX.out.2 BX.out
        rw [← hw6]
        have BO6 := Aside0.mk ((hf6 go (types_ne BO.out BX.out (by decide))).trans BO.out)
        clear hf6 hw6 z0 z1 z2 z3 y0 y1 y2 y3 x0 x1 x2 x3 BO HB BX
        go_roundg k0
        case measure => omega
        case rel => exact ⟨x.f0 == p, i + 1, rfl, rfl, ⟨by have := HI.out; omega⟩, ⟨by rw [HN.out, List.any_append, ← HW.out]; simp⟩, BO6, ⟨HB6⟩⟩
    · have hib : decide (i < (s.q.length : Int)) = false := decide_eq_false hi
      have hie : s.q.take i.toNat = s.q := List.take_of_length_le (by omega)
      rw [hie] at HW
      have HWW := HW.out
      clear HW hie hi HI
      have b0 : wr.cell? ⟨go, 0, none⟩ = some (.int .u8 o0) := (blk_cell BO.out 0).trans rfl
      have b1 : wr.cell? ⟨go, 1, none⟩ = some (.int .u8 o1) := (blk_cell BO.out 1).trans rfl
      have b2 : wr.cell? ⟨go, 2, none⟩ = some (.int .u8 o2) := (blk_cell BO.out 2).trans rfl
      have b3 : wr.cell? ⟨go, 3, none⟩ = some (.int .u8 o3) := (blk_cell BO.out 3).trans rfl
      have e0 := (HB.out.cell (World.block_lt_of_cell? _ _ c0)).trans c0
      obtain ⟨kc, hkc⟩ := Ev.rounds (prog_push HQL.out ⟨p, a1, a2, a3⟩)
      rw [psh_e HOK.out HX.out] at hkc
      cases b with
      | false =>
        have HWB := Aside0.mk HWW.symm
        rw [if_neg (by rw [HWB.out]; decide)] at hkc
        obtain ⟨r, hr⟩ : ∃ r : List S37, r = s.q ++ [⟨p, a1, a2, a3⟩] := ⟨_, rfl⟩
        rw [← hr] at hkc
        have HC := Aside0.mk (show grant_Push.f kc s.q p a1 a2 a3 = some (r, 0) from hkc)
        have HS1 := Aside0.mk (show st0 s p ⟨p, a1, a2, a3⟩ = { s with q := r, nums := fun j => if j = p then s.nx else s.nums j, nx := s.nx + 1 } from by rw [hr]; exact if_neg (by rw [HWB.out]; decide))
        clear HWW hkc hr
        have HR2 : Aside0 (Rt { s with q := r, nums := fun j => if j = p then s.nx else s.nums j, nx := s.nx + 1 }) := ⟨⟨HRT.out.hl, HRT.out.lim, HRT.out.n0, HRT.out.a0, HRT.out.ol⟩⟩
        go_wp2_with (first | ((with_reducible refine gate_dst (N := 9) rfl ?_); refine box_event ?hg (N := 9) ?hd (cs := #[.int .i64 0, .int .i64 0, .int .i64 0, .int .i64 0]) (t := 37) ?hr ?_; (case hd => rfl); (case hg => rfl); (case hr => first | (go_simp; done) | (go_simp; rfl)); intro gx hg_ w5 hbox hb; have GX := Aside0.mk (And.intro (blk_lt hbox) ((by rw [hg_]; exact HB.out.size) : w.heap.size ≤ gx)); have BX := Aside0.mk hbox; have HB5 := Aside0.mk (below_step HB.out hb); have BO5 := Aside0.mk (blk_below BO.out hb); clear hbox hb HB BO hg_; have HB := HB5; have BO := BO5; clear HB5 BO5; have z0 : w5.cell? ⟨gx, 0, none⟩ = some (.int .i64 0) := (blk_cell BX.out 0).trans rfl; have z1 : w5.cell? ⟨gx, 1, none⟩ = some (.int .i64 0) := (blk_cell BX.out 1).trans rfl; have z2 : w5.cell? ⟨gx, 2, none⟩ = some (.int .i64 0) := (blk_cell BX.out 2).trans rfl; have z3 : w5.cell? ⟨gx, 3, none⟩ = some (.int .i64 0) := (blk_cell BX.out 3).trans rfl; have y0 := blk_frozen BX.out 0; have y1 := blk_frozen BX.out 1; have y2 := blk_frozen BX.out 2; have y3 := blk_frozen BX.out 3))
        obtain ⟨w6, hw6, HB6, BX6, hf6⟩ := store4 (.int .i64 p) (.int .i64 a1) (.int .i64 a2) (.int .i64 a3) HB.out GX.out.2 BX.out
        rw [← hw6]
        clear hf6 hw6 z0 z1 z2 z3 y0 y1 y2 y3 HB BX BO b0 b1 b2 b3 e0
        have HB := Aside0.mk HB6
        have e0 := (HB.out.cell (World.block_lt_of_cell? _ _ c0)).trans c0
        have z0 : w6.cell? ⟨gx, 0, none⟩ = some (.int .i64 p) := (blk_cell BX6 0).trans rfl
        have z1 : w6.cell? ⟨gx, 1, none⟩ = some (.int .i64 a1) := (blk_cell BX6 1).trans rfl
        have z2 : w6.cell? ⟨gx, 2, none⟩ = some (.int .i64 a2) := (blk_cell BX6 2).trans rfl
        have z3 : w6.cell? ⟨gx, 3, none⟩ = some (.int .i64 a3) := (blk_cell BX6 3).trans rfl
        go_cut [10, 11] from 148 to 156 (fun v10 v11 wx => v11 = .int .i64 0 ∧ ∃ A12 c12, v10 = .slice A12 r.length c12 ∧ Aside0 (Kd.R k37 37 wx base (fun _ => True) (.slice A12 r.length c12) r) ∧ Aside0 (Below w.heap.size w wx))
        case first =>
          go_region_held3 (fun w' => w'.cell? ⟨g, 0, none⟩ = some (.slice Aq s.q.length cq_) ∧ w'.cell? ⟨gx, 0, none⟩ = some (.int .i64 p) ∧ w'.cell? ⟨gx, 1, none⟩ = some (.int .i64 a1) ∧ w'.cell? ⟨gx, 2, none⟩ = some (.int .i64 a2) ∧ w'.cell? ⟨gx, 3, none⟩ = some (.int .i64 a3)) (first | exact ⟨(hb7.cell (World.block_lt_of_cell? _ _ e0)).trans e0, (hb7.cell (World.block_lt_of_cell? _ _ z0)).trans z0, (hb7.cell (World.block_lt_of_cell? _ _ z1)).trans z1, (hb7.cell (World.block_lt_of_cell? _ _ z2)).trans z2, (hb7.cell (World.block_lt_of_cell? _ _ z3)).trans z3⟩ | go_keep) (first | (go_at_call 29; with_reducible refine (grant_Push.calls kc _ _ s.q p a1 a2 a3 r 0 _ ?side1 ?side2 HC.out).mono ?_; (case side1 => exact Kd.C_drew (Kd.C_below HQR.out HB.out)); (case side2 => exact HQC.out); rintro e w7 ⟨v7, rfl, ho7, hb7⟩; obtain ⟨A12, c12, e12⟩ := Kd.R_slice ho7; subst e12))
          all_goals (go_wp2_with fail; go_meet; exact ⟨rfl, A12, c12, rfl, ⟨Kd.R_lower ho7 (Nat.le_trans HBS.out (below_size (below_drew HB.out)))⟩, ⟨below_step (below_drew HB.out) hb7⟩⟩)
        case rest =>
         obtain ⟨rfl, A12, c12, rfl, HO12, HB7⟩ := hcut
         clear HB HB6 BX6 z0 z1 z2 z3 e0
         have HS7 := Aside0.mk (StV_step HST.out HB7.out)
         have f0 : wc.cell? ⟨g, 0, none⟩ = some (.slice Aq s.q.length cq_) := (blk_cell HS7.out.2.1 0).trans rfl
         have f12 : wc.cell? ⟨g, 12, none⟩ = some (.int .i64 s.nx) := (blk_cell HS7.out.2.1 12).trans rfl
         have fn := num_cell HS7.out HP.out.1 HP.out.2
         have y0 := blk_frozen HS7.out.2.1 0
         have yn := blk_frozen HS7.out.2.1 (4 + p.toNat)
         have hp0t : (0 ≤ p) = True := eq_true HP.out.1
         have hp8t : (p < 8) = True := eq_true HP.out.2
         have HSA : Aside0 (StV ((wc.setCell ⟨g, 0, none⟩ (.slice A12 r.length c12)).setCell ⟨g, 4 + p.toNat, none⟩ (.int .i64 s.nx)).drew base g { s with q := r, nums := fun j => if j = p then s.nx else s.nums j } (.slice A12 r.length c12) vl vo) := ⟨StV_step (StV_num (StV_q HS7.out (Kd.Q_of_R HO12.out)) s.nx HP.out.1 HP.out.2) (below_drew (Below.refl _ _))⟩
         have HBA2 : Aside0 (Fr base g w ((wc.setCell ⟨g, 0, none⟩ (.slice A12 r.length c12)).setCell ⟨g, 4 + p.toNat, none⟩ (.int .i64 s.nx)).drew) := ⟨(((Fr.of HB7.out HBS.out).setCell (p := ⟨g, 0, none⟩) HBA.out _).setCell (p := ⟨g, 4 + p.toNat, none⟩) HBA.out _).drew⟩
         go_wp2
         go_cut [] from 163 to 175 (fun wx => Aside0 (StV wx base g { s with q := r, nums := fun j => if j = p then s.nx else s.nums j } (.slice A12 r.length c12) vl vo) ∧ Aside0 (Fr base g w wx))
         case first =>
           have q0 : (0 : Int) ≤ p := HP.out.1
           have q8 : p < 8 := HP.out.2
           have k1 : ∀ v, (wc.setCell ⟨g, 0, none⟩ v).drew.cell? ⟨g, 12, none⟩ = some (.int .i64 s.nx) := fun v => (drew_cell _ _).trans ((World.cell?_setCell_other wc ⟨g, 0, none⟩ ⟨g, 12, none⟩ v (by simp)).trans f12)
           have k2 : ∀ v u, ((wc.setCell ⟨g, 0, none⟩ v).setCell ⟨g, 4 + p.toNat, none⟩ u).drew.cell? ⟨g, 12, none⟩ = some (.int .i64 s.nx) := fun v u => (drew_cell _ _).trans ((World.cell?_setCell_other (wc.setCell ⟨g, 0, none⟩ v) ⟨g, 4 + p.toNat, none⟩ ⟨g, 12, none⟩ u (by simp)).trans ((drew_cell _ _).symm.trans (k1 v)))
           go_region_held3 (fun w' => w'.cell? ⟨g, 12, none⟩ = some (.int .i64 s.nx)) (first | exact k1 _ | exact k2 _ _ | go_keep) (fail)
           all_goals (go_wp2_with fail; go_meet; exact ⟨HSA, HBA2⟩)
         case rest =>
           clear HSA HBA2 f0 f12 fn y0 yn HS7 HB7
           obtain ⟨HS8, HB8⟩ := hcut
           have f12 : wc.cell? ⟨g, 12, none⟩ = some (.int .i64 s.nx) := (blk_cell HS8.out.2.1 12).trans rfl
           have y12 := blk_frozen HS8.out.2.1 12
           have hwr : IntKind.i64.wrap (s.nx + 1) = s.nx + 1 := by
             have := HNX.out
             rw [IntKind.wrap_i64]
             omega
           have HS9 := Aside0.mk (StV_nx HS8.out (s.nx + 1))
           have HB9 := Aside0.mk (HB8.out.setCell (p := ⟨g, 12, none⟩) HBA.out (.int .i64 (s.nx + 1)))
           go_wp2_with (first | (go_at_call 35; (with_reducible refine (right_calls HS9.out HR2.out).mono ?_); rintro e w21 ⟨rfl, hb21⟩))
           go_ret
           exact ⟨rfl, ⟨_, _, _, by rw [HS1.out]; exact StV_step HS9.out hb21⟩, below_base HB9.out HBS.out hb21⟩
      | true =>
        have HWB := Aside0.mk HWW.symm
        rw [if_pos HWB.out] at hkc
        have HC := Aside0.mk (show grant_Push.f kc s.q p a1 a2 a3 = some ([], 7) from hkc)
        have HS1 := Aside0.mk (show st0 s p ⟨p, a1, a2, a3⟩ = s from if_pos HWB.out)
        clear HWW hkc
        go_wp2_with (first | ((with_reducible refine gate_dst (N := 9) rfl ?_); refine box_event ?hg (N := 9) ?hd (cs := #[.int .i64 0, .int .i64 0, .int .i64 0, .int .i64 0]) (t := 37) ?hr ?_; (case hd => rfl); (case hg => rfl); (case hr => first | (go_simp; done) | (go_simp; rfl)); intro gx hg_ w5 hbox hb; have GX := Aside0.mk (And.intro (blk_lt hbox) ((by rw [hg_]; exact HB.out.size) : w.heap.size ≤ gx)); have BX := Aside0.mk hbox; have HB5 := Aside0.mk (below_step HB.out hb); have BO5 := Aside0.mk (blk_below BO.out hb); clear hbox hb HB BO hg_; have HB := HB5; have BO := BO5; clear HB5 BO5; have z0 : w5.cell? ⟨gx, 0, none⟩ = some (.int .i64 0) := (blk_cell BX.out 0).trans rfl; have z1 : w5.cell? ⟨gx, 1, none⟩ = some (.int .i64 0) := (blk_cell BX.out 1).trans rfl; have z2 : w5.cell? ⟨gx, 2, none⟩ = some (.int .i64 0) := (blk_cell BX.out 2).trans rfl; have z3 : w5.cell? ⟨gx, 3, none⟩ = some (.int .i64 0) := (blk_cell BX.out 3).trans rfl; have y0 := blk_frozen BX.out 0; have y1 := blk_frozen BX.out 1; have y2 := blk_frozen BX.out 2; have y3 := blk_frozen BX.out 3))
        obtain ⟨w6, hw6, HB6, BX6, hf6⟩ := store4 (.int .i64 p) (.int .i64 a1) (.int .i64 a2) (.int .i64 a3) HB.out GX.out.2 BX.out
        rw [← hw6]
        clear hf6 hw6 z0 z1 z2 z3 y0 y1 y2 y3 HB BX BO b0 b1 b2 b3 e0
        have HB := Aside0.mk HB6
        have e0 := (HB.out.cell (World.block_lt_of_cell? _ _ c0)).trans c0
        have z0 : w6.cell? ⟨gx, 0, none⟩ = some (.int .i64 p) := (blk_cell BX6 0).trans rfl
        have z1 : w6.cell? ⟨gx, 1, none⟩ = some (.int .i64 a1) := (blk_cell BX6 1).trans rfl
        have z2 : w6.cell? ⟨gx, 2, none⟩ = some (.int .i64 a2) := (blk_cell BX6 2).trans rfl
        have z3 : w6.cell? ⟨gx, 3, none⟩ = some (.int .i64 a3) := (blk_cell BX6 3).trans rfl
        go_cut [10, 11] from 148 to 156 (fun v10 v11 wx => v11 = .int .i64 7 ∧ Aside0 (Below w.heap.size w wx))
        case first =>
          go_region_held3 (fun w' => w'.cell? ⟨g, 0, none⟩ = some (.slice Aq s.q.length cq_) ∧ w'.cell? ⟨gx, 0, none⟩ = some (.int .i64 p) ∧ w'.cell? ⟨gx, 1, none⟩ = some (.int .i64 a1) ∧ w'.cell? ⟨gx, 2, none⟩ = some (.int .i64 a2) ∧ w'.cell? ⟨gx, 3, none⟩ = some (.int .i64 a3)) (first | exact ⟨(hb7.cell (World.block_lt_of_cell? _ _ e0)).trans e0, (hb7.cell (World.block_lt_of_cell? _ _ z0)).trans z0, (hb7.cell (World.block_lt_of_cell? _ _ z1)).trans z1, (hb7.cell (World.block_lt_of_cell? _ _ z2)).trans z2, (hb7.cell (World.block_lt_of_cell? _ _ z3)).trans z3⟩ | go_keep) (first | (go_at_call 29; with_reducible refine (grant_Push.calls kc _ _ s.q p a1 a2 a3 [] 7 _ ?side1 ?side2 HC.out).mono ?_; (case side1 => exact Kd.C_drew (Kd.C_below HQR.out HB.out)); (case side2 => exact HQC.out); rintro e w7 ⟨v7, rfl, ho7, hb7⟩; obtain ⟨A12, c12, e12⟩ := Kd.R_slice ho7; subst e12))
          all_goals (go_wp2_with fail; go_meet; exact ⟨rfl, ⟨below_step (below_drew HB.out) hb7⟩⟩)
        case rest =>
          obtain ⟨rfl, HB7⟩ := hcut
          have HS7 := Aside0.mk (StV_step HST.out HB7.out)
          go_wp2_with (first | (go_at_call 35; (with_reducible refine (right_calls HS7.out HRT.out).mono ?_); rintro e w21 ⟨rfl, hb21⟩))
          go_ret
          exact ⟨rfl, ⟨_, _, _, by rw [HS1.out]; exact StV_step HS7.out hb21⟩, below_base (Fr.of HB7.out HBS.out) HBS.out hb21⟩
end Go.Proofs.Ytimlodcdfekbhaa.Pure
