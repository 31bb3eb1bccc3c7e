/- Giving back: step answers true and does what is said. -/
import Derived.Test.YtimlodcdfekbhaaTop5
import Derived.StillTailTactics
namespace Go.Proofs.Ytimlodcdfekbhaa.Pure
open Go.RowKit Go.Proofs.Ytimlodcdfekbhaa.PTopGrantsEnd Go.Proofs.YtimlodcdfekbhaaW.PrintWords Go.Proofs.YtimlodcdfekbhaaW.PrintLast Go.Proofs.YtimlodcdfekbhaaW.PrintMore
set_option linter.unusedVariables false
set_option linter.unusedSimpArgs false
theorem info39 : (Try.prog.info? 39).map (fun i => (i.zero, i.size, i.bytes)) = some (some (.agg #[(.int .i64 0), (.int .i64 0), (.int .i64 0), (.int .i64 0), (.int .i64 0)]), 5, 40) := by kernel_rfl
def StW (w : World) (base g : Nat) (s : BQ) (vq vl vo : Value) : Prop := base ≤ g ∧ w.heap[g]? = some (.cells (bCells s vq vl vo) 34 (0, 0)) ∧ Kd.Q k37 37 w base (fun _ => True) vq s.q ∧ Kd.R k59 59 w base (fun _ => True) vl s.l
theorem StV.toW {w : World} {base g : Nat} {s : BQ} {vq vl vo : Value} (h : StV w base g s vq vl vo) : StW w base g s vq vl vo := ⟨h.1, h.2.1, h.2.2.1, h.2.2.2.1⟩
theorem StW.below {w w' : World} {base g : Nat} {s : BQ} {vq vl vo : Value} (h : StW w base g s vq vl vo) (hb : Below w.heap.size w w') : StW w' base g s vq vl vo := ⟨h.1, blk_below h.2.1 hb, Kd.Q_below h.2.2.1 hb, Kd.R_below h.2.2.2 hb⟩
theorem StW.grown {w w' : World} {base b2 g : Nat} {s : BQ} {vq vl vo v : Value} {xs : List S39} {ok : Nat → Prop} (h : StW w base g s vq vl vo) (hv : Kd.R k39 39 w b2 ok v xs) (hg : w.grownBy w' v.ownBlock) : StW w' base g s vq vl vo :=
  ⟨h.1, (hg.block g (blk_lt h.2.1) (Kd.R_ne hv h.2.1 (by decide))).trans h.2.1, Kd.Q_over' h.2.2.1 (Kd.R_typed hv) (by intro q hq; simp [k37, Kd.iso, Kd.pair, Kd.int, Kd.scalar] at hq; omega) hg, Kd.R_over' h.2.2.2 (Kd.R_typed hv) (by intro q hq; simp [k59, Kd.iso, Kd.pair, Kd.int, Kd.scalar] at hq; omega) hg⟩
theorem StW.put {w : World} {base g : Nat} {s : BQ} {vq vl vo v : Value} {o : List S39} (h : StW w base g s vq vl vo) (ho : Kd.R k39 39 w base (fun _ => True) v o) : StV (w.setCell ⟨g, 14, none⟩ v) base g { s with out := o } vq vl v :=
  ⟨h.1, blk_put h.2.1 14 _ rfl, Kd.Q_set h.2.2.1 h.2.1 (by intro q hq; simp [k37, Kd.iso, Kd.pair, Kd.int, Kd.scalar] at hq; omega) 14 _, Kd.R_set h.2.2.2 h.2.1 (by intro q hq; simp [k59, Kd.iso, Kd.pair, Kd.int, Kd.scalar] at hq; omega) 14 _, Kd.R_set ho h.2.1 (by intro q hq; simp [k39, k37, Kd.iso, Kd.pair, Kd.int, Kd.scalar] at hq; omega) 14 _⟩
def gv (s : BQ) (i : Nat) : BQ := match s.out[i]? with
  | some x => { s with l := lO (s.out.take i ++ s.out.drop (i + 1)), n := s.n + x.f1.f2, a := s.a + tot x.f1, out := s.out.take i ++ s.out.drop (i + 1) }
  | none => s
def Gave (s : BQ) (p : Int) (s' : BQ) : Prop := ((∀ x ∈ s.out, x.f1.f0 ≠ p) ∧ s' = s) ∨ ∃ i x, s.out[i]? = some x ∧ x.f1.f0 = p ∧ s' = gv s i
set_option maxHeartbeats 8000000 in
set_option maxRecDepth 100000 in
theorem step3.calls (w : World) (base g : Nat) (s : BQ) (vq vl vo : Value) (o0 o1 o2 o3 p : Int) (hst : StV w base g s vq vl vo) (hrt : Rt s) (hbase : base ≤ w.heap.size) (hql : s.q.length ≤ 999) (hp : (wrap64 o1).tmod 8 = p) (hna : s.n ≤ 1000000 ∧ s.a ≤ 1000000) (hk : o0.tmod 4 = 3) :
    Calls Try.prog 13 #[.pointer (some ⟨g, 0, none⟩), .agg #[.int .u8 o0, .int .u8 o1, .int .u8 o2, .int .u8 o3]] w fun e w' => e = .returned (.bool true) ∧ ∃ s', Gave s p s' ∧ St w' base g s' ∧ Fr base g w w' := by
  obtain ⟨Ao, co, eo, hoc, hor⟩ := Kd.R_reads hst.2.2.2.2
  obtain ⟨Al, cl, el, hlc, hlr⟩ := Kd.R_reads hst.2.2.2.1
  subst eo el
  have HST := Aside0.mk hst
  have HRT := Aside0.mk hrt
  have HBS := Aside0.mk hbase
  have HNA := Aside0.mk hna
  have HOR := Aside0.mk hor
  have HLR := Aside0.mk hlr
  have HOC := Aside0.mk hoc
  have HLC := Aside0.mk hlc
  clear hrt hbase hna hor hlr hoc hlc
  obtain ⟨hb, hg, hq, hL, hO⟩ := hst
  obtain ⟨Aq, cq_, eq_, hqc, hqr⟩ := Kd.Q_reads hq
  subst eq_
  have HB := Aside0.mk (Below.refl w.heap.size w)
  have HGB := Aside0.mk hg
  have HQ := Aside0.mk hq
  have HL := Aside0.mk hL
  have HO := Aside0.mk hO
  have HBA := Aside0.mk hb
  have HQL := Aside0.mk hql
  have HQC := Aside0.mk hqc
  have HQR := Aside0.mk hqr
  have c0 : w.cell? ⟨g, 0, none⟩ = some (.slice Aq s.q.length cq_) := (blk_cell hg 0).trans rfl
  clear hb hg hq hL hO hql hqc hqr
  go_enter Try.func13, Try.ntmps13
  go_wp2_with (first | ((with_reducible refine gate_dst (N := 3) rfl ?_); refine box_event ?hg (N := 3) ?hd (cs := #[.int .u8 o0, .int .u8 o1, .int .u8 o2, .int .u8 o3]) (t := 27) ?hr ?_; (case hd => rfl); (case hg => rfl); (case hr => first | (go_simp; done) | (go_simp; rfl)); intro go hg_ w1 hbox hb; have BO := Aside0.mk hbox; have GO := Aside0.mk ((by rw [hg_]; exact Nat.le_refl _) : w.heap.size ≤ go); have HB1 := Aside0.mk hb; have e0 := (hb.cell (World.block_lt_of_cell? _ _ c0)).trans c0; have b1 : w1.cell? ⟨go, 1, none⟩ = some (.int .u8 o1) := (blk_cell BO.out 1).trans rfl; clear hbox hb hg_ HB; have HB := HB1; clear HB1))
  go_loopg [6, 33] s.q.length (fun kq v6 v33 w' => ∃ (b : Bool) (i : Int), v6 = .bool b ∧ v33 = .int .i64 i ∧ Aside0 (0 ≤ i ∧ i + kq = s.q.length) ∧ Aside0 (b = (s.q.take i.toNat).any (fun x => x.f0 == p)) ∧ Aside0 (w'.heap[go]? = some (.cells #[.int .u8 o0, .int .u8 o1, .int .u8 o2, .int .u8 o3] 27 (0, 0))) ∧ Aside0 (Below w.heap.size w w'))
  case atStart => exact ⟨false, 0, rfl, rfl, ⟨by omega⟩, ⟨rfl⟩, BO, HB⟩
  case round =>
    clear BO HB e0 b1
    obtain ⟨b, i, rfl, rfl, HI, HW, BO, HB⟩ := hrel
    by_cases hi : i < (s.q.length : Int)
    · have hib : decide (i < (s.q.length : Int)) = true := decide_eq_true hi
      obtain ⟨k0, rfl⟩ : ∃ k0, gk = k0 + 1 := ⟨gk - 1, by have := HI.out; omega⟩
      have p0 : 0 ≤ i := HI.out.1
      obtain ⟨ad, e0, x0, x1, x2, x3⟩ := at_T37 HQR.out i p0 hi
      cases e0
      replace x0 := (HB.out.cell (World.block_lt_of_cell? w _ x0)).trans x0
      replace x1 := (HB.out.cell (World.block_lt_of_cell? w _ x1)).trans x1
      replace x2 := (HB.out.cell (World.block_lt_of_cell? w _ x2)).trans x2
      replace x3 := (HB.out.cell (World.block_lt_of_cell? w _ x3)).trans x3
      have hnx : s.q.take (i + 1).toNat = s.q.take i.toNat ++ [rd_T37 s.q i] := by
        have hx : rd_T37 s.q i = s.q[i.toNat]'(by omega) := by
          unfold rd_T37
          rw [List.getD_eq_getElem?_getD, List.getElem?_eq_getElem (by omega)]
          rfl
        rw [hx, show (i + 1).toNat = i.toNat + 1 by omega, List.take_succ_eq_append_getElem (by omega)]
      have hw1 : IntKind.i64.wrap (i + 1) = i + 1 := by
        have := HQL.out
        rw [IntKind.wrap_i64]
        omega
      have HI1 := Aside0.mk hi
      replace p0 := eq_true p0
      have hi1 := eq_true hi
      have HN := Aside0.mk hnx
      clear hnx
      generalize rd_T37 s.q i = x at *
      cases b with
      | true =>
        go_wp2_with (first | ((with_reducible refine gate_dst (N := 8) rfl ?_); refine box_event ?hg (N := 8) ?hd (cs := #[.int .i64 0, .int .i64 0, .int .i64 0, .int .i64 0]) (t := 37) ?hr ?_; (case hd => rfl); (case hg => rfl); (case hr => first | (go_simp; done) | (go_simp; rfl)); intro gx hg_ w5 hbox hb; have GX := Aside0.mk (And.intro (blk_lt hbox) ((by rw [hg_]; exact HB.out.size) : w.heap.size ≤ gx)); have BX := Aside0.mk hbox; have HB5 := Aside0.mk (below_step HB.out hb); have BO5 := Aside0.mk (blk_below BO.out hb); clear hbox hb HB BO hg_; have HB := HB5; have BO := BO5; clear HB5 BO5; have z0 : w5.cell? ⟨gx, 0, none⟩ = some (.int .i64 0) := (blk_cell BX.out 0).trans rfl; have z1 : w5.cell? ⟨gx, 1, none⟩ = some (.int .i64 0) := (blk_cell BX.out 1).trans rfl; have z2 : w5.cell? ⟨gx, 2, none⟩ = some (.int .i64 0) := (blk_cell BX.out 2).trans rfl; have z3 : w5.cell? ⟨gx, 3, none⟩ = some (.int .i64 0) := (blk_cell BX.out 3).trans rfl; have y0 := blk_frozen BX.out 0; have y1 := blk_frozen BX.out 1; have y2 := blk_frozen BX.out 2; have y3 := blk_frozen BX.out 3))
        obtain ⟨w6, hw6, HB6, BX6, hf6⟩ := store4 (.int .i64 x.f0) (.int .i64 x.f1) (.int .i64 x.f2) (.int .i64 x.f3) HB.out GX.out.2 BX.out
        rw [← hw6]
        have BO6 := Aside0.mk ((hf6 go (types_ne BO.out BX.out (by decide))).trans BO.out)
        clear hf6 hw6 z0 z1 z2 z3 y0 y1 y2 y3 x0 x1 x2 x3 BO HB BX
        go_roundg k0
        case measure => omega
        case rel => exact ⟨true, i + 1, rfl, rfl, ⟨by have := HI.out; omega⟩, ⟨by rw [HN.out, List.any_append, ← HW.out]; rfl⟩, BO6, ⟨HB6⟩⟩
      | false =>
        go_wp2_with (first | ((with_reducible refine gate_dst (N := 8) rfl ?_); refine box_event ?hg (N := 8) ?hd (cs := #[.int .i64 0, .int .i64 0, .int .i64 0, .int .i64 0]) (t := 37) ?hr ?_; (case hd => rfl); (case hg => rfl); (case hr => first | (go_simp; done) | (go_simp; rfl)); intro gx hg_ w5 hbox hb; have GX := Aside0.mk (And.intro (blk_lt hbox) ((by rw [hg_]; exact HB.out.size) : w.heap.size ≤ gx)); have BX := Aside0.mk hbox; have HB5 := Aside0.mk (below_step HB.out hb); have BO5 := Aside0.mk (blk_below BO.out hb); clear hbox hb HB BO hg_; have HB := HB5; have BO := BO5; clear HB5 BO5; have z0 : w5.cell? ⟨gx, 0, none⟩ = some (.int .i64 0) := (blk_cell BX.out 0).trans rfl; have z1 : w5.cell? ⟨gx, 1, none⟩ = some (.int .i64 0) := (blk_cell BX.out 1).trans rfl; have z2 : w5.cell? ⟨gx, 2, none⟩ = some (.int .i64 0) := (blk_cell BX.out 2).trans rfl; have z3 : w5.cell? ⟨gx, 3, none⟩ = some (.int .i64 0) := (blk_cell BX.out 3).trans rfl; have y0 := blk_frozen BX.out 0; have y1 := blk_frozen BX.out 1; have y2 := blk_frozen BX.out 2; have y3 := blk_frozen BX.out 3))
        obtain ⟨w6, hw6, HB6, BX6, hf6⟩ := store4 (.int .i64 x.f0) (.int .i64 x.f1) (.int .i64 x.f2) (.int .i64 x.f3) HB.out GX.out.2 BX.out
        rw [← hw6]
        have BO6 := Aside0.mk ((hf6 go (types_ne BO.out BX.out (by decide))).trans BO.out)
        clear hf6 hw6 z0 z1 z2 z3 y0 y1 y2 y3 x0 x1 x2 x3 BO HB BX
        go_roundg k0
        case measure => omega
        case rel => exact ⟨x.f0 == p, i + 1, rfl, rfl, ⟨by have := HI.out; omega⟩, ⟨by rw [HN.out, List.any_append, ← HW.out]; simp⟩, BO6, ⟨HB6⟩⟩
    · have hib : decide (i < (s.q.length : Int)) = false := decide_eq_false hi
      have hie : s.q.take i.toNat = s.q := List.take_of_length_le (by omega)
      rw [hie] at HW
      have HWW := HW.out
      clear HW hie hi HI
      have b0 : wr.cell? ⟨go, 0, none⟩ = some (.int .u8 o0) := (blk_cell BO.out 0).trans rfl
      have b1 : wr.cell? ⟨go, 1, none⟩ = some (.int .u8 o1) := (blk_cell BO.out 1).trans rfl
      have b2 : wr.cell? ⟨go, 2, none⟩ = some (.int .u8 o2) := (blk_cell BO.out 2).trans rfl
      have b3 : wr.cell? ⟨go, 3, none⟩ = some (.int .u8 o3) := (blk_cell BO.out 3).trans rfl
      have e0 := (HB.out.cell (World.block_lt_of_cell? _ _ c0)).trans c0
      clear HWW HGB HQ HL HO b1 b2 b3 e0
      have e14 : wr.cell? ⟨g, 14, none⟩ = some (.slice Ao s.out.length co) := (blk_cell (StV_step HST.out HB.out).2.1 14).trans rfl
      go_wp2
      go_loopg [53] s.out.length (fun kq v53 w' => ∃ i : Int, v53 = .int .i64 i ∧ Aside0 (0 ≤ i ∧ i + kq = s.out.length) ∧ Aside0 (∀ x ∈ s.out.take i.toNat, x.f1.f0 ≠ p) ∧ Aside0 (Below w.heap.size w w'))
      case atStart => exact ⟨0, rfl, ⟨by omega⟩, ⟨by simp⟩, HB⟩
      case round =>
        clear BO HB e14 b0
        obtain ⟨i, rfl, HI, HW, HB⟩ := hrel
        by_cases hi : i < (s.out.length : Int)
        · have hib2 : decide (i < (s.out.length : Int)) = true := decide_eq_true hi
          obtain ⟨k0, rfl⟩ : ∃ k0, gk = k0 + 1 := ⟨gk - 1, by have := HI.out; omega⟩
          have p0 : 0 ≤ i := HI.out.1
          obtain ⟨ad, e0, x0, x1, x2, x3, x4⟩ := at_T39 HOR.out i p0 hi
          cases e0
          replace x0 := (HB.out.cell (World.block_lt_of_cell? w _ x0)).trans x0
          replace x1 := (HB.out.cell (World.block_lt_of_cell? w _ x1)).trans x1
          replace x2 := (HB.out.cell (World.block_lt_of_cell? w _ x2)).trans x2
          replace x3 := (HB.out.cell (World.block_lt_of_cell? w _ x3)).trans x3
          replace x4 := (HB.out.cell (World.block_lt_of_cell? w _ x4)).trans x4
          have hx : s.out[i.toNat]? = some (rd_T39 s.out i) := by
            unfold rd_T39
            rw [List.getD_eq_getElem?_getD, List.getElem?_eq_getElem (by omega)]
            rfl
          have hnx : s.out.take (i + 1).toNat = s.out.take i.toNat ++ [rd_T39 s.out i] := by
            have hx2 := hx
            rw [List.getElem?_eq_getElem (by omega)] at hx2
            rw [show (i + 1).toNat = i.toNat + 1 by omega, List.take_succ_eq_append_getElem (by omega), Option.some.inj hx2]
          have hw1 : IntKind.i64.wrap (i + 1) = i + 1 := by
            have := HRT.out.ol
            rw [IntKind.wrap_i64]
            omega
          have HI1 := Aside0.mk hi
          have p0t := eq_true p0
          have hi1 := eq_true hi
          have HN := Aside0.mk hnx
          have HX := Aside0.mk hx
          have hsm := Aside0.mk (HRT.out.lim.sm _ (List.mem_of_getElem? hx))
          clear hnx hx
          generalize rd_T39 s.out i = x at *
          by_cases hxp : x.f1.f0 = p
          · have hxb : (x.f1.f0 != p) = false := bne_eq_false_iff_eq.mpr hxp
            have HXP := Aside0.mk hxp
            clear hxp
            go_wp2_with (first | ((with_reducible refine gate_dst (N := 21) rfl ?_); refine box_event ?hg (N := 21) ?hd (cs := #[.int .i64 0, .int .i64 0, .int .i64 0, .int .i64 0, .int .i64 0]) (t := 39) ?hr ?_; (case hd => rfl); (case hg => rfl); (case hr => first | (go_simp; done) | (go_simp; rfl)); intro gx hg_ w5 hbox hb; have GX := Aside0.mk (And.intro (blk_lt hbox) ((by rw [hg_]; exact HB.out.size) : w.heap.size ≤ gx)); have BX := Aside0.mk hbox; have HB5 := Aside0.mk (below_step HB.out hb); clear hbox hb HB hg_; have HB := HB5; clear HB5; have z0 : w5.cell? ⟨gx, 0, none⟩ = some (.int .i64 0) := (blk_cell BX.out 0).trans rfl; have z1 : w5.cell? ⟨gx, 1, none⟩ = some (.int .i64 0) := (blk_cell BX.out 1).trans rfl; have z2 : w5.cell? ⟨gx, 2, none⟩ = some (.int .i64 0) := (blk_cell BX.out 2).trans rfl; have z3 : w5.cell? ⟨gx, 3, none⟩ = some (.int .i64 0) := (blk_cell BX.out 3).trans rfl; have z4 : w5.cell? ⟨gx, 4, none⟩ = some (.int .i64 0) := (blk_cell BX.out 4).trans rfl; have y0 := blk_frozen BX.out 0; have y1 := blk_frozen BX.out 1; have y2 := blk_frozen BX.out 2; have y3 := blk_frozen BX.out 3; have y4 := blk_frozen BX.out 4))
            obtain ⟨w6, hw6, HB6, BX6, hf6⟩ := store5 (.int .i64 x.f0) (.int .i64 x.f1.f0) (.int .i64 x.f1.f1) (.int .i64 x.f1.f2) (.int .i64 x.f1.f3) HB.out GX.out.2 BX.out
            rw [← hw6]
            have HB := Aside0.mk HB6
            have BX2 := Aside0.mk BX6
            clear hf6 hw6 z0 z1 z2 z3 z4 y0 y1 y2 y3 y4 x0 x1 x2 x3 x4 BX BX6 HB6
            have hil : i.toNat < s.out.length := by have := HI1.out; omega
            have hxi : s.out[i.toNat] = x := Option.some.inj ((List.getElem?_eq_getElem hil).symm.trans HX.out)
            obtain ⟨o2, ho2⟩ : ∃ o : List S39, o = s.out.take i.toNat ++ s.out.drop (i.toNat + 1) := ⟨_, rfl⟩
            obtain ⟨ku, hku⟩ := Ev.rounds (prog_uncharge s.l x.f1.f1 (tot x.f1))
            have hun := give_unc HRT.out.lim hil
            rw [hxi, ← ho2] at hun
            obtain ⟨L2, hL2⟩ : ∃ L : List S59, L = lO o2 := ⟨_, rfl⟩
            rw [HRT.out.hl, hun, ← hL2, ← HRT.out.hl] at hku
            have HU := Aside0.mk (show accounts_Uncharge.f ku s.l x.f1.f1 (tot x.f1) = some (L2, 0) from hku)
            have HR3 : Aside0 (Rt { s with l := L2, n := s.n + x.f1.f2, a := s.a + tot x.f1, out := o2 }) := by
              have hb := hsm.out.b
              have := HRT.out.n0
              have := HRT.out.a0
              have := HRT.out.ol
              refine ⟨⟨hL2, by show Lim o2; rw [ho2]; exact give_lim HRT.out.lim hil, by show 0 ≤ s.n + x.f1.f2; omega, by show 0 ≤ s.a + tot x.f1; omega, ?_⟩⟩
              show o2.length ≤ 1000
              rw [ho2, List.length_append, List.length_take, List.length_drop]
              omega
            have HGV : Aside0 (gv s i.toNat = { s with l := L2, n := s.n + x.f1.f2, a := s.a + tot x.f1, out := o2 }) := ⟨by unfold gv; rw [HX.out, hL2, ho2]⟩
            have HO2 := Aside0.mk ho2
            have hkt : IntKind.i64.wrap (x.f1.f2 + x.f1.f3) = tot x.f1 := by
              have hT := hsm.out.b
              unfold tot at *
              rw [IntKind.wrap_i64]
              omega
            have hwn : IntKind.i64.wrap (s.n + x.f1.f2) = s.n + x.f1.f2 := by
              have hT := hsm.out.b
              have := HNA.out
              have := HRT.out.n0
              rw [IntKind.wrap_i64]
              omega
            have hwa : IntKind.i64.wrap (s.a + tot x.f1) = s.a + tot x.f1 := by
              have hT := hsm.out.b
              have := HNA.out
              have := HRT.out.a0
              rw [IntKind.wrap_i64]
              omega
            clear hku hun hL2 ho2 hxi hil
            have HS6 := Aside0.mk (StV_step HST.out HB.out)
            have e1 : w6.cell? ⟨g, 1, none⟩ = some (.slice Al s.l.length cl) := (blk_cell HS6.out.2.1 1).trans rfl
            have z2 : w6.cell? ⟨gx, 2, none⟩ = some (.int .i64 x.f1.f1) := (blk_cell BX2.out 2).trans rfl
            have z3 : w6.cell? ⟨gx, 3, none⟩ = some (.int .i64 x.f1.f2) := (blk_cell BX2.out 3).trans rfl
            have z4 : w6.cell? ⟨gx, 4, none⟩ = some (.int .i64 x.f1.f3) := (blk_cell BX2.out 4).trans rfl
            go_cut [22, 23] (fun v22 v23 wx => v23 = .int .i64 0 ∧ (∃ A22 c22, v22 = .slice A22 L2.length c22 ∧ Aside0 (Kd.R k59 59 wx base (fun _ => True) (.slice A22 L2.length c22) L2)) ∧ Aside0 (Below w.heap.size w wx) ∧ Aside0 (wx.heap[gx]? = some (.cells #[.int .i64 x.f0, .int .i64 x.f1.f0, .int .i64 x.f1.f1, .int .i64 x.f1.f2, .int .i64 x.f1.f3] 39 (0, 0))))
            case first =>
              go_region_held3 (fun w' => w'.cell? ⟨g, 1, none⟩ = some (.slice Al s.l.length cl) ∧ w'.cell? ⟨gx, 2, none⟩ = some (.int .i64 x.f1.f1) ∧ w'.cell? ⟨gx, 3, none⟩ = some (.int .i64 x.f1.f2) ∧ w'.cell? ⟨gx, 4, none⟩ = some (.int .i64 x.f1.f3)) (first | exact ⟨(hb7.cell (World.block_lt_of_cell? _ _ e1)).trans e1, (hb7.cell (World.block_lt_of_cell? _ _ z2)).trans z2, (hb7.cell (World.block_lt_of_cell? _ _ z3)).trans z3, (hb7.cell (World.block_lt_of_cell? _ _ z4)).trans z4⟩ | go_keep) (first | (go_at_call 34; with_reducible refine (accounts_Uncharge.calls ku _ _ s.l x.f1.f1 (tot x.f1) L2 0 _ ?side1 ?side2 HU.out).mono ?_; (case side1 => exact Kd.C_drew (Kd.C_below HLR.out HB.out)); (case side2 => exact HLC.out); rintro e w7 ⟨v7, rfl, ho7, hb7⟩; obtain ⟨A22, c22, e22⟩ := Kd.R_slice ho7; subst e22))
              all_goals (go_wp2_with fail; go_meet; exact ⟨rfl, ⟨A22, c22, rfl, ⟨Kd.R_lower ho7 (Nat.le_trans HBS.out (below_size (below_drew HB.out)))⟩⟩, ⟨below_step (below_drew HB.out) hb7⟩, ⟨blk_below (w := w6.drew) BX2.out hb7⟩⟩)
            case rest =>
              obtain ⟨rfl, ⟨A22, c22, rfl, HO22⟩, HB7, BX7⟩ := hcut
              clear HB HS6 e1 z2 z3 z4 BX2
              have HS7 := Aside0.mk (StV_step HST.out HB7.out)
              have f1 : wc.cell? ⟨g, 1, none⟩ = some (.slice Al s.l.length cl) := (blk_cell HS7.out.2.1 1).trans rfl
              have y1 := blk_frozen HS7.out.2.1 1
              go_wp2
              have HS17 := Aside0.mk (StV_l HS7.out HO22.out)
              have HB17 := Aside0.mk ((Fr.of HB7.out HBS.out).setCell (p := ⟨g, 1, none⟩) HBA.out (.slice A22 L2.length c22))
              have BX17 := Aside0.mk (blk_far (w := wc) BX7.out (p := ⟨g, 1, none⟩) (types_ne BX7.out HS7.out.2.1 (by decide)) (.slice A22 L2.length c22))
              generalize wc.setCell ⟨g, 1, none⟩ (.slice A22 L2.length c22) = w17 at *
              clear HS7 HB7 BX7 HO22 f1 y1
              have f2 : w17.cell? ⟨g, 2, none⟩ = some (.int .i64 s.n) := (blk_cell HS17.out.2.1 2).trans rfl
              have y2 := blk_frozen HS17.out.2.1 2
              have z3 : w17.cell? ⟨gx, 3, none⟩ = some (.int .i64 x.f1.f2) := (blk_cell BX17.out 3).trans rfl
              go_cut [] (fun wx => wx = (w17.setCell ⟨g, 2, none⟩ (.int .i64 (s.n + x.f1.f2))).drew)
              case first =>
                go_still_tail 10, (by kernel_rfl)
                change wpList _ _ _ _ _ w17.drew
                have g2 : w17.drew.cell? ⟨g, 2, none⟩ = some (.int .i64 s.n) := f2
                have t2 : w17.drew.frozen? ⟨g, 2, none⟩ = false := y2
                go_wp2_with fail
                go_meet
                exact rfl
              case rest =>
                have HS18 : Aside0 (StV wc base g { s with l := L2, n := s.n + x.f1.f2 } _ _ _) := ⟨by rw [hcut]; exact StV_step (StV_n HS17.out (s.n + x.f1.f2)) (below_drew (Below.refl _ _))⟩
                have HB18 : Aside0 (Fr base g w wc) := ⟨by rw [hcut]; exact (HB17.out.setCell (p := ⟨g, 2, none⟩) HBA.out _).drew⟩
                have BX18 : Aside0 (wc.heap[gx]? = some (.cells #[.int .i64 x.f0, .int .i64 x.f1.f0, .int .i64 x.f1.f1, .int .i64 x.f1.f2, .int .i64 x.f1.f3] 39 (0, 0))) := ⟨by rw [hcut]; exact blk_drew (blk_far BX17.out (p := ⟨g, 2, none⟩) (types_ne BX17.out HS17.out.2.1 (by decide)) (.int .i64 (s.n + x.f1.f2)))⟩
                clear hcut HS17 HB17 BX17 f2 y2 z3
                generalize wc = w18 at *
                have g3 : w18.drew.cell? ⟨g, 3, none⟩ = some (.int .i64 s.a) := (blk_cell HS18.out.2.1 3).trans rfl
                have t3 : w18.drew.frozen? ⟨g, 3, none⟩ = false := blk_frozen HS18.out.2.1 3
                have f3 : w18.cell? ⟨g, 3, none⟩ = some (.int .i64 s.a) := g3
                have z3 : w18.cell? ⟨gx, 3, none⟩ = some (.int .i64 x.f1.f2) := (blk_cell BX18.out 3).trans rfl
                have z4 : w18.cell? ⟨gx, 4, none⟩ = some (.int .i64 x.f1.f3) := (blk_cell BX18.out 4).trans rfl
                go_wp2
                go_cut [] (fun wx => wx = (w18.setCell ⟨g, 3, none⟩ (.int .i64 (s.a + tot x.f1))).drew)
                case first =>
                  go_still_tail 14, (by kernel_rfl)
                  change wpList _ _ _ _ _ w18.drew
                  go_wp2_with fail
                  go_meet
                  exact rfl
                case rest =>
                  have HS19 : Aside0 (StV wc base g { s with l := L2, n := s.n + x.f1.f2, a := s.a + tot x.f1 } _ _ _) := ⟨by rw [hcut]; exact StV_step (StV_a HS18.out (s.a + tot x.f1)) (below_drew (Below.refl _ _))⟩
                  have HB19 : Aside0 (Fr base g w wc) := ⟨by rw [hcut]; exact (HB18.out.setCell (p := ⟨g, 3, none⟩) HBA.out _).drew⟩
                  clear hcut HS18 HB18 BX18 g3 t3 f3 z3 z4
                  generalize wc = w19 at *
                  have f14 : w19.cell? ⟨g, 14, none⟩ = some (.slice (some ad) s.out.length co) := (blk_cell HS19.out.2.1 14).trans rfl
                  have y14 := blk_frozen HS19.out.2.1 14
                  have HP0 := Aside0.mk p0
                  have q1 : i ≤ (s.out.length : Int) := Int.le_of_lt HI1.out
                  have q2 : i + 1 ≤ (s.out.length : Int) := HI1.out
                  have q3 : (0 : Int) ≤ i + 1 := by omega
                  have q4 : i ≤ (co : Int) := by have := HOC.out; omega
                  have q5 : i + 1 ≤ (co : Int) := by have := HOC.out; omega
                  go_wp2
                  go_cut [] from 111 to 129 (fun wx => Aside0 (∃ A c, StV wx base g { s with l := L2, n := s.n + x.f1.f2, a := s.a + tot x.f1, out := o2 } (.slice Aq s.q.length cq_) (.slice A22 L2.length c22) (.slice A o2.length c)) ∧ Aside0 (Fr base g w wx))
                  case first =>
                    refine start_ (n := 20) (S := fun w' => w'.cell? ⟨g, 14, none⟩ = some (.slice (some ad) s.out.length co)) (ds := [19]) #[false, false, false, false, false, false, false, false, false, false, false, false, false, false, false, false, false, false, false, false] (by kernel_rfl) rfl rfl f14 (fun hHeld => ?_)
                    refine pure_ (i := 0) (N := some 111) (v := ?_) (a' := ?_) #[true, false, false, false, false, false, false, false, false, false, false, false, false, false, false, false, false, false, false, false] rfl rfl (by kernel_rfl) (fun _ _ _ h => h) (Or.inl ⟨by rfl, ?_⟩) ?_ ?_
                    rotate_left
                    · intro w'
                      go_simp
                      with_reducible rfl
                    rotate_left
                    · simp only [Act.put, List.setIfInBounds_toArray, List.set_cons_zero, List.set_cons_succ, i64_w, i32_w]
                      rfl
                    refine pure_ (i := 2) (N := some 113) (v := ?_) (a' := ?_) #[true, false, true, false, false, false, false, false, false, false, false, false, false, false, false, false, false, false, false, false] rfl rfl (by kernel_rfl) (fun _ _ _ h => h) (Or.inl ⟨by rfl, ?_⟩) ?_ ?_
                    rotate_left
                    · intro w'
                      go_simp
                      with_reducible rfl
                    rotate_left
                    · simp only [Act.put, List.setIfInBounds_toArray, List.set_cons_zero, List.set_cons_succ, i64_w, i32_w]
                      rfl
                    refine pure_ (i := 3) (N := some 114) (v := ?_) (a' := ?_) #[true, false, true, true, false, false, false, false, false, false, false, false, false, false, false, false, false, false, false, false] rfl rfl (by kernel_rfl) (fun _ _ _ h => h) (Or.inl ⟨by rfl, ?_⟩) ?_ ?_
                    rotate_left
                    · intro w'
                      go_simp
                      with_reducible rfl
                    rotate_left
                    · simp only [Act.put, List.setIfInBounds_toArray, List.set_cons_zero, List.set_cons_succ, i64_w, i32_w]
                      rfl
                    refine pure_ (i := 4) (N := some 115) (v := ?_) (a' := ?_) #[true, false, true, true, true, false, false, false, false, false, false, false, false, false, false, false, false, false, false, false] rfl rfl (by kernel_rfl) (fun _ _ _ h => h) (Or.inl ⟨by rfl, ?_⟩) ?_ ?_
                    rotate_left
                    · intro w'
                      go_simp
                      with_reducible rfl
                    rotate_left
                    · simp only [Act.put, List.setIfInBounds_toArray, List.set_cons_zero, List.set_cons_succ, i64_w, i32_w]
                      rfl
                    refine take_ (i := 5) (N := some 116) (v := ?_) (a' := ?_) #[true, false, true, true, true, true, false, false, false, false, false, false, false, false, false, false, false, false, false, false] rfl rfl (by kernel_rfl) (fun _ _ _ h => h) (Or.inl ⟨by rfl, ?_⟩) hHeld ?_ ?_
                    rotate_left
                    · intro w' s0
                      go_simp
                      with_reducible rfl
                    rotate_left
                    · simp only [Act.put, List.setIfInBounds_toArray, List.set_cons_zero, List.set_cons_succ, i64_w, i32_w]
                      rfl
                    refine pure_ (i := 6) (N := some 117) (v := ?_) (a' := ?_) #[true, false, true, true, true, true, true, false, false, false, false, false, false, false, false, false, false, false, false, false] rfl rfl (by kernel_rfl) (fun _ _ _ h => h) (Or.inl ⟨by rfl, ?_⟩) ?_ ?_
                    rotate_left
                    · intro w'
                      go_simp
                      with_reducible rfl
                    rotate_left
                    · simp only [Act.put, List.setIfInBounds_toArray, List.set_cons_zero, List.set_cons_succ, i64_w, i32_w]
                      rfl
                    refine pure_ (i := 7) (N := some 118) (v := ?_) (a' := ?_) #[true, false, true, true, true, true, true, true, false, false, false, false, false, false, false, false, false, false, false, false] rfl rfl (by kernel_rfl) (fun _ _ _ h => h) (Or.inl ⟨by rfl, ?_⟩) ?_ ?_
                    rotate_left
                    · intro w'
                      go_simp
                      with_reducible rfl
                    rotate_left
                    · simp only [Act.put, List.setIfInBounds_toArray, List.set_cons_zero, List.set_cons_succ, i64_w, i32_w]
                      rfl
                    refine pure_ (i := 9) (N := some 120) (v := ?_) (a' := ?_) #[true, false, true, true, true, true, true, true, false, true, false, false, false, false, false, false, false, false, false, false] rfl rfl (by kernel_rfl) (fun _ _ _ h => h) (Or.inl ⟨by rfl, ?_⟩) ?_ ?_
                    rotate_left
                    · intro w'
                      go_simp
                      with_reducible rfl
                    rotate_left
                    · simp only [Act.put, List.setIfInBounds_toArray, List.set_cons_zero, List.set_cons_succ, i64_w, i32_w]
                      rfl
                    refine pure_ (i := 10) (N := some 121) (v := ?_) (a' := ?_) #[true, false, true, true, true, true, true, true, false, true, true, false, false, false, false, false, false, false, false, false] rfl rfl (by kernel_rfl) (fun _ _ _ h => h) (Or.inl ⟨by rfl, ?_⟩) ?_ ?_
                    rotate_left
                    · intro w'
                      go_simp
                      with_reducible rfl
                    rotate_left
                    · simp only [Act.put, List.setIfInBounds_toArray, List.set_cons_zero, List.set_cons_succ, i64_w, i32_w]
                      rfl
                    refine pure_ (i := 11) (N := some 122) (v := ?_) (a' := ?_) #[true, false, true, true, true, true, true, true, false, true, true, true, false, false, false, false, false, false, false, false] rfl rfl (by kernel_rfl) (fun _ _ _ h => h) (Or.inl ⟨by rfl, ?_⟩) ?_ ?_
                    rotate_left
                    · intro w'
                      go_simp
                      with_reducible rfl
                    rotate_left
                    · simp only [Act.put, List.setIfInBounds_toArray, List.set_cons_zero, List.set_cons_succ, i64_w, i32_w]
                      rfl
                    refine take_ (i := 12) (N := some 123) (v := ?_) (a' := ?_) #[true, false, true, true, true, true, true, true, false, true, true, true, true, false, false, false, false, false, false, false] rfl rfl (by kernel_rfl) (fun _ _ _ h => h) (Or.inl ⟨by rfl, ?_⟩) hHeld ?_ ?_
                    rotate_left
                    · intro w' s0
                      go_simp
                      with_reducible rfl
                    rotate_left
                    · simp only [Act.put, List.setIfInBounds_toArray, List.set_cons_zero, List.set_cons_succ, i64_w, i32_w]
                      rfl
                    refine pure_ (i := 13) (N := some 124) (v := ?_) (a' := ?_) #[true, false, true, true, true, true, true, true, false, true, true, true, true, true, false, false, false, false, false, false] rfl rfl (by kernel_rfl) (fun _ _ _ h => h) (Or.inl ⟨by rfl, ?_⟩) ?_ ?_
                    rotate_left
                    · intro w'
                      go_simp
                      with_reducible rfl
                    rotate_left
                    · simp only [Act.put, List.setIfInBounds_toArray, List.set_cons_zero, List.set_cons_succ, i64_w, i32_w]
                      rfl
                    refine pure_ (i := 14) (N := some 125) (v := ?_) (a' := ?_) #[true, false, true, true, true, true, true, true, false, true, true, true, true, true, true, false, false, false, false, false] rfl rfl (by kernel_rfl) (fun _ _ _ h => h) (Or.inl ⟨by rfl, ?_⟩) ?_ ?_
                    rotate_left
                    · intro w'
                      go_simp
                      with_reducible rfl
                    rotate_left
                    · simp only [Act.put, List.setIfInBounds_toArray, List.set_cons_zero, List.set_cons_succ, i64_w, i32_w]
                      rfl
                    refine pure_ (i := 15) (N := some 126) (v := ?_) (a' := ?_) #[true, false, true, true, true, true, true, true, false, true, true, true, true, true, true, true, false, false, false, false] rfl rfl (by kernel_rfl) (fun _ _ _ h => h) (Or.inl ⟨by rfl, ?_⟩) ?_ ?_
                    rotate_left
                    · intro w'
                      go_simp
                      with_reducible rfl
                    rotate_left
                    · simp only [Act.put, List.setIfInBounds_toArray, List.set_cons_zero, List.set_cons_succ, i64_w, i32_w]
                      rfl
                    generalize hA126 : (if co = (i + 1).toNat then some ad else some (ad.add ((i + 1).toNat * 5))) = A126
                    have HA126 := Aside0.mk hA126
                    clear hA126
                    refine one_ (i := 1) (N := some 112) #[true, true, true, true, true, true, true, true, false, true, true, true, true, true, true, true, false, false, false, false] rfl rfl (by kernel_rfl) (by decide) (fun K hK => ?_)
                    refine Kd.R_lit_step k39 _ 39 ?hg (N := 112) ?hd (xs := ([] : List S39)) (inner := []) (ok := fun _ => True) (okp := fun _ => True) ?hr ?hp (fun _ hk => hk) trivial (Below.refl _ _) (Nat.le_refl _) (by simp) ?_; (case hd => rfl); (case hg => rfl); (case hr => first | (go_simp; done) | (go_simp; rfl)); (case hp => exact (Reps.none _ _))
                    intro v112 w25 ho25 hb25 hg_ hnew_
                    clear hg_ hnew_
                    have RO19 : Aside0 (Kd.R k39 39 w19.drew base (fun _ => True) (.slice (some ad) s.out.length co) s.out) := ⟨Kd.R_drew HS19.out.2.2.2.2⟩
                    have RO25 := Aside0.mk (Kd.R_elder' RO19.out (Kd.R_base ho25) hb25)
                    have SW25 := Aside0.mk ((HS19.out.toW.below (below_drew (Below.refl _ _))).below hb25)
                    have BB25 := Aside0.mk (below_base (w := w) HB19.out.drew HBS.out hb25)
                    have R112 := Aside0.mk (Kd.R_lower ho25 (show base ≤ w19.drew.heap.size from Nat.le_trans HBS.out HB19.out.1.size))
                    have c25 : w25.cell? ⟨g, 14, none⟩ = some (.slice (some ad) s.out.length co) := (blk_cell SW25.out.2.1 14).trans rfl
                    clear ho25 hb25
                    refine hK.out _ _ c25 (fun hHeld => ?_)
                    clear hK K
                    refine norm_ (a' := ?_) ?_ ?_
                    rotate_left
                    · show Act.put _ (some 112) _ = _
                      simp only [Act.put, List.setIfInBounds_toArray, List.set_cons_zero, List.set_cons_succ, i64_w, i32_w]
                      rfl
                    refine one_ (i := 8) (N := some 119) #[true, true, true, true, true, true, true, true, true, true, true, true, true, true, true, true, false, false, false, false] rfl rfl (by kernel_rfl) (by decide) (fun K hK => ?_)
                    have C25 := (Kd.Q_reads' (Kd.Q_of_R RO25.out)).2.2
                    have CT25 : Aside0 (Kd.C k39 w25 (some ad) i.toNat (s.out.take i.toNat)) := ⟨by have h := Kd.C_take (m := i.toNat) C25 (by omega); rwa [List.length_take, Nat.min_eq_left (by omega)] at h⟩
                    clear C25
                    refine Kd.R_append_rows_step k39 (w0 := w) base (by first | rfl | kernel_rfl) (.tmp 112) (.tmp 118) 32 39 (.agg #[(.int .i64 0), (.int .i64 0), (.int .i64 0), (.int .i64 0), (.int .i64 0)]) 40 rfl Try.underlying32 info39 rfl (by decide) (by omega) v112 ([] : List S39) (s.out.take i.toNat) _ _ _ (fun _ => True) (fun _ => False) rfl rfl ?aO ?aR (fun _ _ h => h) (fun _ h => h.elim) (fun _ _ => trivial) ?aB ?aS ?aL ?_
                    (case aR => exact CT25.out)
                    (case aB => exact BB25.out.1)
                    (case aO => exact R112.out)
                    (case aS => exact Nat.le_trans HBS.out BB25.out.1.size)
                    (case aL => have := HRT.out.ol; simp only [List.length_nil]; omega)
                    intro v119 w26 ho26 hb26 hg26 hat26
                    have RO26 := Aside0.mk (Kd.R_after RO25.out hg26 hat26)
                    have SW26 := Aside0.mk (SW25.out.grown R112.out hg26)
                    have BB26 := Aside0.mk (BB25.out.grown hb26 hg26 (Kd.R_typed R112.out))
                    have R119 := Aside0.mk ho26
                    have c26 : w26.cell? ⟨g, 14, none⟩ = some (.slice (some ad) s.out.length co) := (blk_cell SW26.out.2.1 14).trans rfl
                    clear ho26 hb26 hg26 hat26 RO25 SW25 BB25 R112 CT25 c25
                    refine hK.out _ _ c26 (fun hHeld => ?_)
                    clear hK K
                    refine norm_ (a' := ?_) ?_ ?_
                    rotate_left
                    · show Act.put _ (some 119) _ = _
                      simp only [Act.put, List.setIfInBounds_toArray, List.set_cons_zero, List.set_cons_succ, i64_w, i32_w]
                      rfl
                    refine one_ (i := 16) (N := some 127) #[true, true, true, true, true, true, true, true, true, true, true, true, true, true, true, true, true, false, false, false] rfl rfl (by kernel_rfl) (by decide) (fun K hK => ?_)
                    have C26 := (Kd.Q_reads' (Kd.Q_of_R RO26.out)).2.2
                    have CD26 := Aside0.mk (Kd.C_drop (m := (i + 1).toNat) C26 (by omega) HOC.out)
                    clear C26
                    refine Kd.R_append_rows_step k39 (w0 := w) base (by first | rfl | kernel_rfl) (.tmp 119) (.tmp 126) 32 39 (.agg #[(.int .i64 0), (.int .i64 0), (.int .i64 0), (.int .i64 0), (.int .i64 0)]) 40 rfl Try.underlying32 info39 rfl (by decide) (by omega) v119 ([] ++ s.out.take i.toNat) (s.out.drop (i + 1).toNat) _ _ _ (fun _ => True) (fun _ => False) rfl rfl ?aO ?aR (fun _ _ h => h) (fun _ h => h.elim) (fun _ _ => trivial) ?aB ?aS ?aL ?_
                    (case aR => have h := CD26.out; rw [List.length_drop] at h; rw [← HA126.out]; exact h)
                    (case aB => exact BB26.out.1)
                    (case aO => exact R119.out)
                    (case aS => exact Nat.le_trans HBS.out BB26.out.1.size)
                    (case aL => have := HRT.out.ol; simp only [List.nil_append, List.length_take]; omega)
                    intro v127 w27 ho27 hb27 hg27 hat27
                    have SW27 := Aside0.mk (SW26.out.grown R119.out hg27)
                    have BB27 := Aside0.mk (BB26.out.grown hb27 hg27 (Kd.R_typed R119.out))
                    rw [List.nil_append, show (i + 1).toNat = i.toNat + 1 by omega, ← HO2.out] at ho27
                    obtain ⟨A27, c27_, e27⟩ := Kd.R_slice ho27
                    subst e27
                    have SF := Aside0.mk (SW27.out.put ho27)
                    have c27 : w27.cell? ⟨g, 14, none⟩ = some (.slice (some ad) s.out.length co) := (blk_cell SW27.out.2.1 14).trans rfl
                    have y27 := blk_frozen SW27.out.2.1 14
                    have BF := Aside0.mk (BB27.out.setCell (p := ⟨g, 14, none⟩) HBA.out (.slice A27 o2.length c27_))
                    clear ho27 hb27 hg27 hat27 RO26 SW26 BB26 R119 CD26 c26
                    refine hK.out _ _ c27 (fun hHeld => ?_)
                    clear hK K
                    refine norm_ (a' := ?_) ?_ ?_
                    rotate_left
                    · show Act.put _ (some 127) _ = _
                      simp only [Act.put, List.setIfInBounds_toArray, List.set_cons_zero, List.set_cons_succ, i64_w, i32_w]
                      rfl
                    refine pure_ (i := 17) (N := some 128) (v := ?_) (a' := ?_) #[true, true, true, true, true, true, true, true, true, true, true, true, true, true, true, true, true, true, false, false] rfl rfl (by kernel_rfl) (fun _ _ _ h => h) (Or.inl ⟨by rfl, ?_⟩) ?_ ?_
                    rotate_left
                    · intro w'
                      go_simp
                      with_reducible rfl
                    rotate_left
                    · simp only [Act.put, List.setIfInBounds_toArray, List.set_cons_zero, List.set_cons_succ, i64_w, i32_w]
                      rfl
                    refine pure_ (i := 18) (N := some 129) (v := ?_) (a' := ?_) #[true, true, true, true, true, true, true, true, true, true, true, true, true, true, true, true, true, true, true, false] rfl rfl (by kernel_rfl) (fun _ _ _ h => h) (Or.inl ⟨by rfl, ?_⟩) ?_ ?_
                    rotate_left
                    · intro w'
                      go_simp
                      with_reducible rfl
                    rotate_left
                    · simp only [Act.put, List.setIfInBounds_toArray, List.set_cons_zero, List.set_cons_succ, i64_w, i32_w]
                      rfl
                    refine last_ (i := 19) (N := none) #[true, true, true, true, true, true, true, true, true, true, true, true, true, true, true, true, true, true, true, true] rfl rfl (by kernel_rfl) (by decide) (fun K hK => ?_)
                    refine skip_ (w1 := ?_) (by rfl) rfl ?_ ?_
                    rotate_left
                    · go_simp
                      rfl
                    refine hK.out _ _ ?_
                    clear hK K
                    refine done_ (by kernel_rfl) ?_
                    go_wp2_with fail
                    go_meet
                    exact ⟨⟨A27, c27_, SF.out⟩, BF⟩
                  case rest =>
                    obtain ⟨HE, HBE⟩ := hcut
                    obtain ⟨AE, cE, hse⟩ := HE.out
                    have HSE := Aside0.mk hse
                    clear hse HE HS19 HB19 f14 y14 q1 q2 q3 q4 q5
                    go_wp2_with (first | (go_at_call 35; (with_reducible refine (right_calls HSE.out HR3.out).mono ?_); rintro e w21 ⟨rfl, hb21⟩))
                    go_ret
                    exact ⟨rfl, gv s i.toNat, .inr ⟨i.toNat, x, HX.out, HXP.out, rfl⟩, ⟨_, _, _, by rw [HGV.out]; exact StV_step HSE.out hb21⟩, below_base HBE.out HBS.out hb21⟩
          · have hxb : (x.f1.f0 != p) = true := bne_iff_ne.mpr hxp
            have HXP := Aside0.mk hxp
            clear hxp
            go_wp2_with (first | ((with_reducible refine gate_dst (N := 21) rfl ?_); refine box_event ?hg (N := 21) ?hd (cs := #[.int .i64 0, .int .i64 0, .int .i64 0, .int .i64 0, .int .i64 0]) (t := 39) ?hr ?_; (case hd => rfl); (case hg => rfl); (case hr => first | (go_simp; done) | (go_simp; rfl)); intro gx hg_ w5 hbox hb; have GX := Aside0.mk (And.intro (blk_lt hbox) ((by rw [hg_]; exact HB.out.size) : w.heap.size ≤ gx)); have BX := Aside0.mk hbox; have HB5 := Aside0.mk (below_step HB.out hb); clear hbox hb HB hg_; have HB := HB5; clear HB5; have z0 : w5.cell? ⟨gx, 0, none⟩ = some (.int .i64 0) := (blk_cell BX.out 0).trans rfl; have z1 : w5.cell? ⟨gx, 1, none⟩ = some (.int .i64 0) := (blk_cell BX.out 1).trans rfl; have z2 : w5.cell? ⟨gx, 2, none⟩ = some (.int .i64 0) := (blk_cell BX.out 2).trans rfl; have z3 : w5.cell? ⟨gx, 3, none⟩ = some (.int .i64 0) := (blk_cell BX.out 3).trans rfl; have z4 : w5.cell? ⟨gx, 4, none⟩ = some (.int .i64 0) := (blk_cell BX.out 4).trans rfl; have y0 := blk_frozen BX.out 0; have y1 := blk_frozen BX.out 1; have y2 := blk_frozen BX.out 2; have y3 := blk_frozen BX.out 3; have y4 := blk_frozen BX.out 4))
            obtain ⟨w6, hw6, HB6, BX6, hf6⟩ := store5 (.int .i64 x.f0) (.int .i64 x.f1.f0) (.int .i64 x.f1.f1) (.int .i64 x.f1.f2) (.int .i64 x.f1.f3) HB.out GX.out.2 BX.out
            try rw [← hw6]
            clear hf6 hw6 z0 z1 z2 z3 z4 y0 y1 y2 y3 y4 x0 x1 x2 x3 x4 HB BX BX6
            go_roundg k0
            case measure => omega
            case rel => exact ⟨i + 1, rfl, ⟨by have := HI.out; omega⟩, ⟨by rw [HN.out]; intro y hy; rcases List.mem_append.1 hy with hy | hy; exact HW.out y hy; rw [List.mem_singleton.1 hy]; exact HXP.out⟩, ⟨HB6⟩⟩
        · have hib2 : decide (i < (s.out.length : Int)) = false := decide_eq_false hi
          have hie : s.out.take i.toNat = s.out := List.take_of_length_le (by omega)
          rw [hie] at HW
          have HS2 := Aside0.mk (StV_step HST.out HB.out)
          go_wp2_with (first | (go_at_call 35; (with_reducible refine (right_calls HS2.out HRT.out).mono ?_); rintro e w21 ⟨rfl, hb21⟩))
          go_ret
          exact ⟨rfl, s, .inl ⟨HW.out, rfl⟩, ⟨_, _, _, StV_step HS2.out hb21⟩, below_base (Fr.of HB.out HBS.out) HBS.out hb21⟩
end Go.Proofs.Ytimlodcdfekbhaa.Pure
