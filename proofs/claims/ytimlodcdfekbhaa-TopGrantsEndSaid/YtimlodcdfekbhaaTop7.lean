/- Serving asks: step answers true and does what is said. -/
import Derived.Test.YtimlodcdfekbhaaTop6
import Derived.StillTailTactics
namespace Go.Proofs.Ytimlodcdfekbhaa.Pure
open Go.RowKit Go.Proofs.Ytimlodcdfekbhaa.PTopGrantsEnd Go.Proofs.YtimlodcdfekbhaaW.PrintWords Go.Proofs.YtimlodcdfekbhaaW.PrintLast Go.Proofs.YtimlodcdfekbhaaW.PrintMore
set_option linter.unusedVariables false
set_option linter.unusedSimpArgs false
theorem srv_le2 : ∀ (q : List S37) (l : List S59) (n a : Int), (srv q l n a).1 ≤ q.length
  | [], _, _, _ => Nat.le_refl _
  | x :: q, l, n, a => by
    unfold srv
    split
    · exact Nat.succ_le_succ (srv_le2 q _ _ _)
    · exact Nat.zero_le _
def laJ (s : BQ) : Nat → Int
  | 0 => s.la
  | j + 1 => match s.q[j]? with
    | some x => s.nums x.f0
    | none => s.la
def sv (s : BQ) (j : Nat) : BQ := { s with n := s.n - sumK (s.q.take j), a := s.a - sumT (s.q.take j), la := laJ s j, out := s.out ++ gr s.nums (s.q.take j) }
def mS (s : BQ) : Nat := (srv s.q s.l s.n s.a).1
def st2 (s : BQ) : BQ := { sv s (mS s) with q := s.q.drop (mS s), l := (srv s.q s.l s.n s.a).2 }
theorem sum_bd2 : ∀ q : List S37, (∀ x ∈ q, smA x) → 0 ≤ sumK q ∧ sumK q ≤ 5 * q.length ∧ 0 ≤ sumT q ∧ sumT q ≤ 5 * q.length
  | [], _ => by simp [sumK, sumT]
  | x :: q, h => by
    have := sum_bd2 q (fun y hy => h y (List.mem_cons_of_mem _ hy))
    have := (h x List.mem_cons_self).b
    rw [sumK_cons, sumT_cons, List.length_cons]
    omega
theorem sv_zero (s : BQ) : sv s 0 = s := by simp [sv, laJ, gr, sumK, sumT]
theorem sv_succ {s : BQ} {j : Nat} {x : S37} (h : s.q[j]? = some x) : sv s (j + 1) = { sv s j with n := (sv s j).n - x.f2, a := (sv s j).a - tot x, la := s.nums x.f0, out := (sv s j).out ++ [⟨s.nums x.f0, x⟩] } := by
  have ht : s.q.take (j + 1) = s.q.take j ++ [x] := by
    rw [List.take_add_one, h]
    rfl
  have hl : laJ s (j + 1) = s.nums x.f0 := by
    show (match s.q[j]? with | some x => s.nums x.f0 | none => s.la) = _
    rw [h]
  unfold sv
  rw [ht, hl]
  simp [gr, sumK, sumT, List.sum_append]
  omega
abbrev SL (w : World) (base g : Nat) (s : BQ) (vq vl vo v : Value) (L : List S59) : Prop := StV w base g s vq vl vo ∧ Kd.R k59 59 w base (fun _ => True) v L
theorem SL_la {w : World} {base g : Nat} {s : BQ} {vq vl vo v : Value} {L : List S59} (h : SL w base g s vq vl vo v L) (x : Int) : SL (w.setCell ⟨g, 13, none⟩ (.int .i64 x)) base g { s with la := x } vq vl vo v L := ⟨StV_la h.1 x, Kd.R_set h.2 h.1.2.1 (by intro q hq; simp [k59, Kd.iso, Kd.pair, Kd.int, Kd.scalar] at hq; omega) 13 _⟩
theorem SL_n {w : World} {base g : Nat} {s : BQ} {vq vl vo v : Value} {L : List S59} (h : SL w base g s vq vl vo v L) (x : Int) : SL (w.setCell ⟨g, 2, none⟩ (.int .i64 x)) base g { s with n := x } vq vl vo v L := ⟨StV_n h.1 x, Kd.R_set h.2 h.1.2.1 (by intro q hq; simp [k59, Kd.iso, Kd.pair, Kd.int, Kd.scalar] at hq; omega) 2 _⟩
theorem SL_a {w : World} {base g : Nat} {s : BQ} {vq vl vo v : Value} {L : List S59} (h : SL w base g s vq vl vo v L) (x : Int) : SL (w.setCell ⟨g, 3, none⟩ (.int .i64 x)) base g { s with a := x } vq vl vo v L := ⟨StV_a h.1 x, Kd.R_set h.2 h.1.2.1 (by intro q hq; simp [k59, Kd.iso, Kd.pair, Kd.int, Kd.scalar] at hq; omega) 3 _⟩
theorem SL_step {w w' : World} {base g : Nat} {s : BQ} {vq vl vo v : Value} {L : List S59} (h : SL w base g s vq vl vo v L) (hb : Below w.heap.size w w') : SL w' base g s vq vl vo v L := ⟨StV_step h.1 hb, Kd.R_below h.2 hb⟩
set_option maxHeartbeats 8000000 in
set_option maxRecDepth 100000 in
theorem step2.calls (w : World) (base g : Nat) (s : BQ) (vq vl vo : Value) (o0 o1 o2 o3 p : Int) (hst : StV w base g s vq vl vo) (hrt : Rt s) (hok : OkQ s.q) (hsq : ∀ x ∈ s.q, smA x) (hbase : base ≤ w.heap.size) (hql : s.q.length ≤ 999) (hp : (wrap64 o1).tmod 8 = p) (hna : s.n ≤ 1000000 ∧ s.a ≤ 1000000) (hol : s.out.length + s.q.length ≤ 1000)
    (hasc : ∀ j x, s.q[j]? = some x → laJ s j < s.nums x.f0) (hk : o0.tmod 4 = 2) :
    Calls Try.prog 13 #[.pointer (some ⟨g, 0, none⟩), .agg #[.int .u8 o0, .int .u8 o1, .int .u8 o2, .int .u8 o3]] w fun e w' => e = .returned (.bool true) ∧ St w' base g (st2 s) ∧ Fr base g w w' := by
  obtain ⟨Al, cl, el, hlc, hlr⟩ := Kd.R_reads hst.2.2.2.1
  obtain ⟨Ao, co, eo, hoc, hor⟩ := Kd.R_reads hst.2.2.2.2
  subst el eo
  have HST := Aside0.mk hst
  have HRT := Aside0.mk hrt
  have HOK := Aside0.mk hok
  have HSQ := Aside0.mk hsq
  have HBS := Aside0.mk hbase
  have HNA := Aside0.mk hna
  have HOL := Aside0.mk hol
  have HASC := Aside0.mk hasc
  have HLR := Aside0.mk hlr
  have HLC := Aside0.mk hlc
  clear hrt hok hsq hbase hna hol hasc hlr hlc hoc hor
  obtain ⟨hb, hg, hq, hL, hO⟩ := hst
  obtain ⟨Aq, cq_, eq_, hqc, hqr⟩ := Kd.Q_reads hq
  subst eq_
  have HB := Aside0.mk (Below.refl w.heap.size w)
  have HGB := Aside0.mk hg
  have HQ := Aside0.mk hq
  have HL := Aside0.mk hL
  have HO := Aside0.mk hO
  have HBA := Aside0.mk hb
  have HQL := Aside0.mk hql
  have HQC := Aside0.mk hqc
  have HQR := Aside0.mk hqr
  have c0 : w.cell? ⟨g, 0, none⟩ = some (.slice Aq s.q.length cq_) := (blk_cell hg 0).trans rfl
  clear hb hg hq hL hO hql hqc hqr
  go_enter Try.func13, Try.ntmps13
  go_wp2_with (first | ((with_reducible refine gate_dst (N := 3) rfl ?_); refine box_event ?hg (N := 3) ?hd (cs := #[.int .u8 o0, .int .u8 o1, .int .u8 o2, .int .u8 o3]) (t := 27) ?hr ?_; (case hd => rfl); (case hg => rfl); (case hr => first | (go_simp; done) | (go_simp; rfl)); intro go hg_ w1 hbox hb; have BO := Aside0.mk hbox; have GO := Aside0.mk ((by rw [hg_]; exact Nat.le_refl _) : w.heap.size ≤ go); have HB1 := Aside0.mk hb; have e0 := (hb.cell (World.block_lt_of_cell? _ _ c0)).trans c0; have b1 : w1.cell? ⟨go, 1, none⟩ = some (.int .u8 o1) := (blk_cell BO.out 1).trans rfl; clear hbox hb hg_ HB; have HB := HB1; clear HB1))
  go_loopg [6, 33] s.q.length (fun kq v6 v33 w' => ∃ (b : Bool) (i : Int), v6 = .bool b ∧ v33 = .int .i64 i ∧ Aside0 (0 ≤ i ∧ i + kq = s.q.length) ∧ Aside0 (b = (s.q.take i.toNat).any (fun x => x.f0 == p)) ∧ Aside0 (w'.heap[go]? = some (.cells #[.int .u8 o0, .int .u8 o1, .int .u8 o2, .int .u8 o3] 27 (0, 0))) ∧ Aside0 (Below w.heap.size w w'))
  case atStart => exact ⟨false, 0, rfl, rfl, ⟨by omega⟩, ⟨rfl⟩, BO, HB⟩
  case round =>
    clear BO HB e0 b1
    obtain ⟨b, i, rfl, rfl, HI, HW, BO, HB⟩ := hrel
    by_cases hi : i < (s.q.length : Int)
    · have hib : decide (i < (s.q.length : Int)) = true := decide_eq_true hi
      obtain ⟨k0, rfl⟩ : ∃ k0, gk = k0 + 1 := ⟨gk - 1, by have := HI.out; omega⟩
      have p0 : 0 ≤ i := HI.out.1
      obtain ⟨ad, e0, x0, x1, x2, x3⟩ := at_T37 HQR.out i p0 hi
      cases e0
      replace x0 := (HB.out.cell (World.block_lt_of_cell? w _ x0)).trans x0
      replace x1 := (HB.out.cell (World.block_lt_of_cell? w _ x1)).trans x1
      replace x2 := (HB.out.cell (World.block_lt_of_cell? w _ x2)).trans x2
      replace x3 := (HB.out.cell (World.block_lt_of_cell? w _ x3)).trans x3
      have hnx : s.q.take (i + 1).toNat = s.q.take i.toNat ++ [rd_T37 s.q i] := by
        have hx : rd_T37 s.q i = s.q[i.toNat]'(by omega) := by
          unfold rd_T37
          rw [List.getD_eq_getElem?_getD, List.getElem?_eq_getElem (by omega)]
          rfl
        rw [hx, show (i + 1).toNat = i.toNat + 1 by omega, List.take_succ_eq_append_getElem (by omega)]
      have hw1 : IntKind.i64.wrap (i + 1) = i + 1 := by
        have := HQL.out
        rw [IntKind.wrap_i64]
        omega
      have HI1 := Aside0.mk hi
      replace p0 := eq_true p0
      have hi1 := eq_true hi
      have HN := Aside0.mk hnx
      clear hnx
      generalize rd_T37 s.q i = x at *
      cases b with
      | true =>
        go_wp2_with (first | ((with_reducible refine gate_dst (N := 8) rfl ?_); refine box_event ?hg (N := 8) ?hd (cs := #[.int .i64 0, .int .i64 0, .int .i64 0, .int .i64 0]) (t := 37) ?hr ?_; (case hd => rfl); (case hg => rfl); (case hr => first | (go_simp; done) | (go_simp; rfl)); intro gx hg_ w5 hbox hb; have GX := Aside0.mk (And.intro (blk_lt hbox) ((by rw [hg_]; exact HB.out.size) : w.heap.size ≤ gx)); have BX := Aside0.mk hbox; have HB5 := Aside0.mk (below_step HB.out hb); have BO5 := Aside0.mk (blk_below BO.out hb); clear hbox hb HB BO hg_; have HB := HB5; have BO := BO5; clear HB5 BO5; have z0 : w5.cell? ⟨gx, 0, none⟩ = some (.int .i64 0) := (blk_cell BX.out 0).trans rfl; have z1 : w5.cell? ⟨gx, 1, none⟩ = some (.int .i64 0) := (blk_cell BX.out 1).trans rfl; have z2 : w5.cell? ⟨gx, 2, none⟩ = some (.int .i64 0) := (blk_cell BX.out 2).trans rfl; have z3 : w5.cell? ⟨gx, 3, none⟩ = some (.int .i64 0) := (blk_cell BX.out 3).trans rfl; have y0 := blk_frozen BX.out 0; have y1 := blk_frozen BX.out 1; have y2 := blk_frozen BX.out 2; have y3 := blk_frozen BX.out 3))
        obtain ⟨w6, hw6, HB6, BX6, hf6⟩ := store4 (.int .i64 x.f0) (.int .i64 x.f1) (.int .i64 x.f2) (.int .i64 x.f3) HB.out GX.out.2 BX.out
        rw [← hw6]
        have BO6 := Aside0.mk ((hf6 go (types_ne BO.out BX.out (by decide))).trans BO.out)
        clear hf6 hw6 z0 z1 z2 z3 y0 y1 y2 y3 x0 x1 x2 x3 BO HB BX
        go_roundg k0
        case measure => omega
        case rel => exact ⟨true, i + 1, rfl, rfl, ⟨by have := HI.out; omega⟩, ⟨by rw [HN.out, List.any_append, ← HW.out]; rfl⟩, BO6, ⟨HB6⟩⟩
      | false =>
        go_wp2_with (first | ((with_reducible refine gate_dst (N := 8) rfl ?_); refine box_event ?hg (N := 8) ?hd (cs := #[.int .i64 0, .int .i64 0, .int .i64 0, .int .i64 0]) (t := 37) ?hr ?_; (case hd => rfl); (case hg => rfl); (case hr => first | (go_simp; done) | (go_simp; rfl)); intro gx hg_ w5 hbox hb; have GX := Aside0.mk (And.intro (blk_lt hbox) ((by rw [hg_]; exact HB.out.size) : w.heap.size ≤ gx)); have BX := Aside0.mk hbox; have HB5 := Aside0.mk (below_step HB.out hb); have BO5 := Aside0.mk (blk_below BO.out hb); clear hbox hb HB BO hg_; have HB := HB5; have BO := BO5; clear HB5 BO5; have z0 : w5.cell? ⟨gx, 0, none⟩ = some (.int .i64 0) := (blk_cell BX.out 0).trans rfl; have z1 : w5.cell? ⟨gx, 1, none⟩ = some (.int .i64 0) := (blk_cell BX.out 1).trans rfl; have z2 : w5.cell? ⟨gx, 2, none⟩ = some (.int .i64 0) := (blk_cell BX.out 2).trans rfl; have z3 : w5.cell? ⟨gx, 3, none⟩ = some (.int .i64 0) := (blk_cell BX.out 3).trans rfl; have y0 := blk_frozen BX.out 0; have y1 := blk_frozen BX.out 1; have y2 := blk_frozen BX.out 2; have y3 := blk_frozen BX.out 3))
        obtain ⟨w6, hw6, HB6, BX6, hf6⟩ := store4 (.int .i64 x.f0) (.int .i64 x.f1) (.int .i64 x.f2) (.int .i64 x.f3) HB.out GX.out.2 BX.out
        rw [← hw6]
        have BO6 := Aside0.mk ((hf6 go (types_ne BO.out BX.out (by decide))).trans BO.out)
        clear hf6 hw6 z0 z1 z2 z3 y0 y1 y2 y3 x0 x1 x2 x3 BO HB BX
        go_roundg k0
        case measure => omega
        case rel => exact ⟨x.f0 == p, i + 1, rfl, rfl, ⟨by have := HI.out; omega⟩, ⟨by rw [HN.out, List.any_append, ← HW.out]; simp⟩, BO6, ⟨HB6⟩⟩
    · have hib : decide (i < (s.q.length : Int)) = false := decide_eq_false hi
      have hie : s.q.take i.toNat = s.q := List.take_of_length_le (by omega)
      rw [hie] at HW
      have HWW := HW.out
      clear HW hie hi HI
      have b0 : wr.cell? ⟨go, 0, none⟩ = some (.int .u8 o0) := (blk_cell BO.out 0).trans rfl
      have b1 : wr.cell? ⟨go, 1, none⟩ = some (.int .u8 o1) := (blk_cell BO.out 1).trans rfl
      have b2 : wr.cell? ⟨go, 2, none⟩ = some (.int .u8 o2) := (blk_cell BO.out 2).trans rfl
      have b3 : wr.cell? ⟨go, 3, none⟩ = some (.int .u8 o3) := (blk_cell BO.out 3).trans rfl
      have e0 := (HB.out.cell (World.block_lt_of_cell? _ _ c0)).trans c0
      clear HWW HGB HQ HL HO b1 b2 b3 e0
      have hlo : s.l.length = 3 := by rw [HRT.out.hl]; rfl
      have hokA : okA s.q s.l.length := fun x hx => ⟨HOK.out.val x hx, by have := (HSQ.out x hx).b; rw [hlo]; omega⟩
      obtain ⟨ks, hks⟩ := Ev.rounds (prog_serve (q := s.q) (by have := HQL.out; omega) s.l (n := s.n) (a := s.a) (by unfold i64; have := HNA.out; have := HRT.out.n0; omega) (by unfold i64; have := HNA.out; have := HRT.out.a0; omega))
      rw [svF_ok HOK.out (by rw [HRT.out.hl]; exact HRT.out.lim.ok) hokA] at hks
      have hml := srv_le2 s.q s.l s.n s.a
      have hsv := srv_lO s.nums s.q s.out s.n s.a HSQ.out HRT.out.lim HRT.out.n0 HRT.out.a0
      rw [← HRT.out.hl] at hsv
      have hst2 : st2 s = { sv s (srv s.q s.l s.n s.a).1 with q := s.q.drop (srv s.q s.l s.n s.a).1, l := (srv s.q s.l s.n s.a).2 } := rfl
      generalize (srv s.q s.l s.n s.a).2 = L2 at *
      generalize (srv s.q s.l s.n s.a).1 = m at *
      have HR3 : Aside0 (Rt { sv s m with q := s.q.drop m, l := L2 }) := ⟨⟨hsv.1, hsv.2.1, hsv.2.2.1, hsv.2.2.2, by
        show (s.out ++ gr s.nums (s.q.take m)).length ≤ 1000
        have := HOL.out
        rw [List.length_append, gr, List.length_map, List.length_take]
        omega⟩⟩
      have HSV := Aside0.mk hks
      have HML := Aside0.mk hml
      have HLIM := Aside0.mk hsv.2.1
      have HST2 := Aside0.mk hst2
      clear hks hml hsv hst2 hokA hlo
      have HS0 := Aside0.mk (StV_step HST.out HB.out)
      have e0 : wr.cell? ⟨g, 0, none⟩ = some (.slice Aq s.q.length cq_) := (blk_cell HS0.out.2.1 0).trans rfl
      have e1 : wr.cell? ⟨g, 1, none⟩ = some (.slice Al s.l.length cl) := (blk_cell HS0.out.2.1 1).trans rfl
      have e2 : wr.cell? ⟨g, 2, none⟩ = some (.int .i64 s.n) := (blk_cell HS0.out.2.1 2).trans rfl
      have e3 : wr.cell? ⟨g, 3, none⟩ = some (.int .i64 s.a) := (blk_cell HS0.out.2.1 3).trans rfl
      go_wp2
      go_cut [14, 15, 16] from 206 to 226 (fun v14 v15 v16 wx => v14 = .int .i64 (m : Int) ∧ v16 = .int .i64 0 ∧ (∃ A15 c15, v15 = .slice A15 L2.length c15 ∧ Aside0 (Kd.R k59 59 wx base (fun _ => True) (.slice A15 L2.length c15) L2)) ∧ Aside0 (Below w.heap.size w wx))
      case first =>
        go_region_held3 (fun w' => w'.cell? ⟨g, 0, none⟩ = some (.slice Aq s.q.length cq_) ∧ w'.cell? ⟨g, 1, none⟩ = some (.slice Al s.l.length cl) ∧ w'.cell? ⟨g, 2, none⟩ = some (.int .i64 s.n) ∧ w'.cell? ⟨g, 3, none⟩ = some (.int .i64 s.a)) (first | exact ⟨(hb7.cell (World.block_lt_of_cell? _ _ e0)).trans e0, (hb7.cell (World.block_lt_of_cell? _ _ e1)).trans e1, (hb7.cell (World.block_lt_of_cell? _ _ e2)).trans e2, (hb7.cell (World.block_lt_of_cell? _ _ e3)).trans e3⟩ | go_keep) (first | (go_at_call 20; with_reducible refine (grant_Serve.calls ks _ _ s.q _ _ s.l s.n s.a (m : Int) L2 0 _ ?side1 ?side2 ?side3 ?side4 HSV.out).mono ?_; (case side1 => exact Kd.C_drew (Kd.C_below HQR.out HB.out)); (case side2 => exact HQC.out); (case side3 => exact Kd.C_drew (Kd.C_below HLR.out HB.out)); (case side4 => exact HLC.out); rintro e w7 ⟨v7, rfl, ho7, hb7⟩; obtain ⟨A15, c15, e15⟩ := Kd.R_slice ho7; subst e15))
        all_goals (go_wp2_with fail; go_meet; exact ⟨rfl, rfl, ⟨A15, c15, rfl, ⟨Kd.R_lower ho7 (Nat.le_trans HBS.out (below_size (below_drew HB.out)))⟩⟩, ⟨below_step (below_drew HB.out) hb7⟩⟩)
      case rest =>
       obtain ⟨rfl, rfl, ⟨A15, c15, rfl, HO15⟩, HB7⟩ := hcut
       clear HB HS0 e0 e1 e2 e3
       have HS7 := Aside0.mk (StV_step HST.out HB7.out)
       have e0 : wc.cell? ⟨g, 0, none⟩ = some (.slice Aq s.q.length cq_) := (blk_cell HS7.out.2.1 0).trans rfl
       have m0 : decide ((m : Int) < 0) = false := decide_eq_false (by omega)
       have m1 : decide ((m : Int) > (s.q.length : Int)) = false := decide_eq_false (by have := HML.out; omega)
       have m2 : decide ((s.q.length : Int) < (m : Int)) = false := decide_eq_false (by have := HML.out; omega)
       have m3 : (0 : Int) ≤ (m : Int) := by omega
       have m4 : (m : Int) ≤ (cq_ : Int) := by have := HML.out; have := HQC.out; omega
       have m5 : (s.q.length < m) = False := eq_false (by have := HML.out; omega)
       go_wp2
       have HSL0 := Aside0.mk (show SL wc base g (sv s 0) (.slice Aq s.q.length cq_) (.slice Al s.l.length cl) (.slice Ao s.out.length co) (.slice A15 L2.length c15) L2 from by rw [sv_zero]; exact ⟨HS7.out, HO15.out⟩)
       go_loopg [249] m (fun kq v249 w' => ∃ j : Int, v249 = .int .i64 j ∧ Aside0 (0 ≤ j ∧ j + kq = m) ∧ Aside0 (∃ A c, SL w' base g (sv s j.toNat) (.slice Aq s.q.length cq_) (.slice Al s.l.length cl) (.slice A (sv s j.toNat).out.length c) (.slice A15 L2.length c15) L2) ∧ Aside0 (Fr base g w w'))
       case atStart => exact ⟨0, rfl, ⟨by omega⟩, ⟨Ao, co, by have h := HSL0.out; rw [show (0 : Int).toNat = 0 from rfl, show (sv s 0).out.length = s.out.length by rw [sv_zero]]; exact h⟩, ⟨Fr.of HB7.out HBS.out⟩⟩
       case round =>
         clear HB7 HS7 e0 HSL0 HO15 BO b0 m0 m1 m2
         obtain ⟨j, rfl, HJ, HSJ, HB⟩ := hrel
         by_cases hj : j < (m : Int)
         · have hjb : decide (j < (m : Int)) = true := decide_eq_true hj
           obtain ⟨k0, rfl⟩ : ∃ k0, gk = k0 + 1 := ⟨gk - 1, by have := HJ.out; omega⟩
           have p0 : 0 ≤ j := HJ.out.1
           obtain ⟨AJ, cJ, hSJ⟩ := HSJ.out
           have HS := Aside0.mk hSJ
           clear hSJ HSJ
           have hjq : j < (s.q.length : Int) := by have := HML.out; omega
           have hqc : Kd.C k37 wr Aq s.q.length s.q := (Kd.Q_reads' HS.out.1.2.2.1).2.2
           obtain ⟨ad, e0, x0, x1, x2, x3⟩ := at_T37 hqc j p0 hjq
           subst e0
           have hx : s.q[j.toNat]? = some (rd_T37 s.q j) := by
             unfold rd_T37
             rw [List.getD_eq_getElem?_getD, List.getElem?_eq_getElem (by omega)]
             rfl
           have HX := Aside0.mk hx
           have hsm := Aside0.mk (HSQ.out _ (List.mem_of_getElem? hx))
           have hlt := HASC.out _ _ hx
           have HSU := Aside0.mk (sv_succ hx)
           have HJ1 := Aside0.mk hj
           have hw1 : IntKind.i64.wrap (j + 1) = j + 1 := by
             have := HML.out
             have := HQL.out
             rw [IntKind.wrap_i64]
             omega
           have p0t := eq_true p0
           have hj1 := eq_true hj
           clear hx hqc
           generalize hxx : rd_T37 s.q j = x at *
           clear hxx
           obtain ⟨t, ht⟩ : ∃ t : BQ, t = sv s j.toNat := ⟨_, rfl⟩
           have hla : t.la < s.nums x.f0 := by rw [ht]; exact hlt
           have hnt : t.nums = s.nums := by rw [ht]; rfl
           have htq : t.q = s.q := by rw [ht]; rfl
           rw [← ht] at HS HSU
           have HT := Aside0.mk ht
           have hkb : decide (s.nums x.f0 ≤ t.la) = false := decide_eq_false (by omega)
           have h00 : decide (x.f0 < 0) = false := decide_eq_false (by have := hsm.out.1.1; omega)
           have h08 : decide (x.f0 ≥ 8) = false := decide_eq_false (by have := hsm.out.1.2.1; omega)
           have h09 : decide (8 ≤ x.f0) = false := h08
           have q0 : (0 : Int) ≤ x.f0 := hsm.out.1.1
           have q8 : x.f0 < 8 := hsm.out.1.2.1
           have HWN : Aside0 (IntKind.i64.wrap (t.n - x.f2) = t.n - x.f2 ∧ IntKind.i64.wrap (t.a - tot x) = t.a - tot x ∧ IntKind.i64.wrap (x.f2 + x.f3) = tot x) := by
             have hb := hsm.out.b
             have h1 := HRT.out.n0
             have h2 := HRT.out.a0
             have h3 := HNA.out
             have h4 := HQL.out
             have h5 := sum_bd2 (s.q.take j.toNat) (fun y hy => HSQ.out y (List.mem_of_mem_take hy))
             have h6 : (s.q.take j.toNat).length ≤ 999 := by rw [List.length_take]; omega
             have e1 : t.n = s.n - sumK (s.q.take j.toNat) := by rw [ht]; rfl
             have e2 : t.a = s.a - sumT (s.q.take j.toNat) := by rw [ht]; rfl
             rw [e1, e2]
             unfold tot at *
             refine ⟨⟨?_, ?_, ?_⟩⟩ <;> rw [IntKind.wrap_i64] <;> omega
           clear hlt ht hla
           go_wp2_with (first | ((with_reducible refine gate_dst (N := 18) rfl ?_); refine box_event ?hg (N := 18) ?hd (cs := #[.int .i64 0, .int .i64 0, .int .i64 0, .int .i64 0]) (t := 37) ?hr ?_; (case hd => rfl); (case hg => rfl); (case hr => first | (go_simp; done) | (go_simp; rfl)); intro gx hg_ w5 hbox hb; have GX := Aside0.mk ((by rw [hg_]; exact Nat.le_refl _) : wr.heap.size ≤ gx); have BX := Aside0.mk hbox; have HB5 := Aside0.mk hb; clear hbox hb hg_; have z0 : w5.cell? ⟨gx, 0, none⟩ = some (.int .i64 0) := (blk_cell BX.out 0).trans rfl; have z1 : w5.cell? ⟨gx, 1, none⟩ = some (.int .i64 0) := (blk_cell BX.out 1).trans rfl; have z2 : w5.cell? ⟨gx, 2, none⟩ = some (.int .i64 0) := (blk_cell BX.out 2).trans rfl; have z3 : w5.cell? ⟨gx, 3, none⟩ = some (.int .i64 0) := (blk_cell BX.out 3).trans rfl; have y0 := blk_frozen BX.out 0; have y1 := blk_frozen BX.out 1; have y2 := blk_frozen BX.out 2; have y3 := blk_frozen BX.out 3))
           obtain ⟨w6, hw6, HB6, BX6, hf6⟩ := store4 (.int .i64 x.f0) (.int .i64 x.f1) (.int .i64 x.f2) (.int .i64 x.f3) HB5.out GX.out BX.out
           rw [← hw6]
           clear hf6 hw6 z0 z1 z2 z3 y0 y1 y2 y3 x0 x1 x2 x3 BX HB5 h00 h08 h09
           have HS6 := Aside0.mk (SL_step HS.out HB6)
           have HBB6 := Aside0.mk (below_base (w := w) HB.out HBS.out HB6)
           have BX := Aside0.mk BX6
           clear HS HB HB6 BX6
           have fx0 : w6.cell? ⟨gx, 0, none⟩ = some (.int .i64 x.f0) := (blk_cell BX.out 0).trans rfl
           have fn : w6.cell? ⟨g, 4 + x.f0.toNat, none⟩ = some (.int .i64 (s.nums x.f0)) := by rw [← hnt]; exact num_cell HS6.out.1 q0 q8
           go_cut [19] from 261 to 267 (fun v19 wx => v19 = .int .i64 (s.nums x.f0) ∧ wx = w6.drew)
           case first =>
             go_region_held3 (fun w' => w'.cell? ⟨gx, 0, none⟩ = some (.int .i64 x.f0) ∧ w'.cell? ⟨g, 4 + x.f0.toNat, none⟩ = some (.int .i64 (s.nums x.f0))) (go_keep) (fail)
             all_goals (go_wp2_with fail; go_meet; exact ⟨rfl, rfl⟩)
           case rest =>
             obtain ⟨rfl, hcw⟩ := hcut
             have HS7 : Aside0 (SL wc base g t (.slice (some ad) s.q.length cq_) (.slice Al s.l.length cl) (.slice AJ t.out.length cJ) (.slice A15 L2.length c15) L2) := ⟨by rw [hcw]; exact SL_step HS6.out (below_drew (Below.refl _ _))⟩
             have HB7 : Aside0 (Fr base g w wc) := ⟨by rw [hcw]; exact HBB6.out.drew⟩
             have BX7 : Aside0 (wc.heap[gx]? = some (.cells #[.int .i64 x.f0, .int .i64 x.f1, .int .i64 x.f2, .int .i64 x.f3] 37 (0, 0))) := ⟨by rw [hcw]; exact blk_drew BX.out⟩
             clear hcw HS6 HBB6 BX fx0 fn
             generalize wc = w7 at *
             have f13 : w7.cell? ⟨g, 13, none⟩ = some (.int .i64 t.la) := (blk_cell HS7.out.1.2.1 13).trans rfl
             have y13 := blk_frozen HS7.out.1.2.1 13
             go_wp2
             have HS8 := Aside0.mk (SL_la HS7.out (s.nums x.f0))
             have HB8 := Aside0.mk (HB7.out.setCell (p := ⟨g, 13, none⟩) HBA.out (.int .i64 (s.nums x.f0)))
             have BX8 := Aside0.mk (blk_far BX7.out (p := ⟨g, 13, none⟩) (types_ne BX7.out HS7.out.1.2.1 (by decide)) (.int .i64 (s.nums x.f0)))
             generalize w7.setCell ⟨g, 13, none⟩ (.int .i64 (s.nums x.f0)) = w8 at *
             clear HS7 HB7 BX7 f13 y13 hkb
             have f2 : w8.drew.cell? ⟨g, 2, none⟩ = some (.int .i64 t.n) := (blk_cell HS8.out.1.2.1 2).trans rfl
             have y2 : w8.drew.frozen? ⟨g, 2, none⟩ = false := blk_frozen HS8.out.1.2.1 2
             have f2' : w8.cell? ⟨g, 2, none⟩ = some (.int .i64 t.n) := f2
             have x2 : w8.cell? ⟨gx, 2, none⟩ = some (.int .i64 x.f2) := (blk_cell BX8.out 2).trans rfl
             have hwn : IntKind.i64.wrap (t.n - x.f2) = t.n - x.f2 := HWN.out.1
             have hwa : IntKind.i64.wrap (t.a - tot x) = t.a - tot x := HWN.out.2.1
             have hwt : IntKind.i64.wrap (x.f2 + x.f3) = tot x := HWN.out.2.2
             go_cut [] from 278 to 286 (fun wx => wx = (w8.setCell ⟨g, 2, none⟩ (.int .i64 (t.n - x.f2))).drew)
             case first =>
               go_still_tail 9, (by kernel_rfl)
               change wpList _ _ _ _ _ w8.drew
               go_wp2_with fail
               go_meet
               exact rfl
             case rest =>
               have HS9 : Aside0 (SL wc base g { t with la := s.nums x.f0, n := t.n - x.f2 } (.slice (some ad) s.q.length cq_) (.slice Al s.l.length cl) (.slice AJ t.out.length cJ) (.slice A15 L2.length c15) L2) := ⟨by rw [hcut]; exact SL_step (SL_n HS8.out (t.n - x.f2)) (below_drew (Below.refl _ _))⟩
               have HB9 : Aside0 (Fr base g w wc) := ⟨by rw [hcut]; exact (HB8.out.setCell (p := ⟨g, 2, none⟩) HBA.out _).drew⟩
               have BX9 : Aside0 (wc.heap[gx]? = some (.cells #[.int .i64 x.f0, .int .i64 x.f1, .int .i64 x.f2, .int .i64 x.f3] 37 (0, 0))) := ⟨by rw [hcut]; exact blk_drew (blk_far BX8.out (p := ⟨g, 2, none⟩) (types_ne BX8.out HS8.out.1.2.1 (by decide)) (.int .i64 (t.n - x.f2)))⟩
               clear hcut HS8 HB8 BX8 f2 y2 f2' x2
               generalize wc = w9 at *
               have f3 : w9.drew.cell? ⟨g, 3, none⟩ = some (.int .i64 t.a) := (blk_cell HS9.out.1.2.1 3).trans rfl
               have y3 : w9.drew.frozen? ⟨g, 3, none⟩ = false := blk_frozen HS9.out.1.2.1 3
               have f3' : w9.cell? ⟨g, 3, none⟩ = some (.int .i64 t.a) := f3
               have x2 : w9.cell? ⟨gx, 2, none⟩ = some (.int .i64 x.f2) := (blk_cell BX9.out 2).trans rfl
               have x3 : w9.cell? ⟨gx, 3, none⟩ = some (.int .i64 x.f3) := (blk_cell BX9.out 3).trans rfl
               go_wp2
               go_cut [] from 287 to 298 (fun wx => wx = (w9.setCell ⟨g, 3, none⟩ (.int .i64 (t.a - tot x))).drew)
               case first =>
                 go_still_tail 12, (by kernel_rfl)
                 change wpList _ _ _ _ _ w9.drew
                 go_wp2_with fail
                 go_meet
                 exact rfl
               case rest =>
                 have HS10 : Aside0 (SL wc base g { t with la := s.nums x.f0, n := t.n - x.f2, a := t.a - tot x } (.slice (some ad) s.q.length cq_) (.slice Al s.l.length cl) (.slice AJ t.out.length cJ) (.slice A15 L2.length c15) L2) := ⟨by rw [hcut]; exact SL_step (SL_a HS9.out (t.a - tot x)) (below_drew (Below.refl _ _))⟩
                 have HB10 : Aside0 (Fr base g w wc) := ⟨by rw [hcut]; exact (HB9.out.setCell (p := ⟨g, 3, none⟩) HBA.out _).drew⟩
                 have BX10 : Aside0 (wc.heap[gx]? = some (.cells #[.int .i64 x.f0, .int .i64 x.f1, .int .i64 x.f2, .int .i64 x.f3] 37 (0, 0))) := ⟨by rw [hcut]; exact blk_drew (blk_far BX9.out (p := ⟨g, 3, none⟩) (types_ne BX9.out HS9.out.1.2.1 (by decide)) (.int .i64 (t.a - tot x)))⟩
                 clear hcut HS9 HB9 BX9 f3 y3 f3' x2 x3
                 generalize wc = w10 at *
                 have f14 : w10.cell? ⟨g, 14, none⟩ = some (.slice AJ t.out.length cJ) := (blk_cell HS10.out.1.2.1 14).trans rfl
                 have x0 : w10.cell? ⟨gx, 0, none⟩ = some (.int .i64 x.f0) := (blk_cell BX10.out 0).trans rfl
                 have x1 : w10.cell? ⟨gx, 1, none⟩ = some (.int .i64 x.f1) := (blk_cell BX10.out 1).trans rfl
                 have x2 : w10.cell? ⟨gx, 2, none⟩ = some (.int .i64 x.f2) := (blk_cell BX10.out 2).trans rfl
                 have x3 : w10.cell? ⟨gx, 3, none⟩ = some (.int .i64 x.f3) := (blk_cell BX10.out 3).trans rfl
                 go_wp2
                 obtain ⟨e1, he1⟩ : ∃ e : List S39, e = [⟨s.nums x.f0, x⟩] := ⟨_, rfl⟩
                 obtain ⟨o2, ho2⟩ : ∃ o : List S39, o = t.out ++ e1 := ⟨_, rfl⟩
                 have HE1 := Aside0.mk he1
                 have HO2 := Aside0.mk ho2
                 have htl : t.out.length ≤ 1000 := by
                   have h1 : t.out = s.out ++ gr s.nums (s.q.take j.toNat) := by rw [HT.out]; rfl
                   have := HOL.out
                   rw [h1, List.length_append, gr, List.length_map, List.length_take]
                   omega
                 have HTL := Aside0.mk htl
                 clear he1 ho2 htl
                 refine start_ (n := 13) (S := fun w' => w'.cell? ⟨g, 14, none⟩ = some (.slice AJ t.out.length cJ) ∧ w'.cell? ⟨gx, 0, none⟩ = some (.int .i64 x.f0) ∧ w'.cell? ⟨gx, 1, none⟩ = some (.int .i64 x.f1) ∧ w'.cell? ⟨gx, 2, none⟩ = some (.int .i64 x.f2) ∧ w'.cell? ⟨gx, 3, none⟩ = some (.int .i64 x.f3)) (ds := [12]) #[false, false, false, false, false, false, false, false, false, false, false, false, false] (by kernel_rfl) rfl rfl ⟨f14, x0, x1, x2, x3⟩ (fun hHeld => ?_)
                 refine pure_ (i := 0) (N := some 299) (v := ?_) (a' := ?_) #[true, false, false, false, false, false, false, false, false, false, false, false, false] rfl rfl (by kernel_rfl) (fun _ _ _ h => h) (Or.inl ⟨by rfl, ?_⟩) ?_ ?_
                 rotate_left
                 · intro w'
                   go_simp
                   with_reducible rfl
                 rotate_left
                 · simp only [Act.put, List.setIfInBounds_toArray, List.set_cons_zero, List.set_cons_succ, i64_w, i32_w]
                   rfl
                 refine pure_ (i := 1) (N := some 300) (v := ?_) (a' := ?_) #[true, true, false, false, false, false, false, false, false, false, false, false, false] rfl rfl (by kernel_rfl) (fun _ _ _ h => h) (Or.inl ⟨by rfl, ?_⟩) ?_ ?_
                 rotate_left
                 · intro w'
                   go_simp
                   with_reducible rfl
                 rotate_left
                 · simp only [Act.put, List.setIfInBounds_toArray, List.set_cons_zero, List.set_cons_succ, i64_w, i32_w]
                   rfl
                 refine pure_ (i := 2) (N := some 301) (v := ?_) (a' := ?_) #[true, true, true, false, false, false, false, false, false, false, false, false, false] rfl rfl (by kernel_rfl) (fun _ _ _ h => h) (Or.inl ⟨by rfl, ?_⟩) ?_ ?_
                 rotate_left
                 · intro w'
                   go_simp
                   with_reducible rfl
                 rotate_left
                 · simp only [Act.put, List.setIfInBounds_toArray, List.set_cons_zero, List.set_cons_succ, i64_w, i32_w]
                   rfl
                 refine pure_ (i := 3) (N := some 302) (v := ?_) (a' := ?_) #[true, true, true, true, false, false, false, false, false, false, false, false, false] rfl rfl (by kernel_rfl) (fun _ _ _ h => h) (Or.inl ⟨by rfl, ?_⟩) ?_ ?_
                 rotate_left
                 · intro w'
                   go_simp
                   with_reducible rfl
                 rotate_left
                 · simp only [Act.put, List.setIfInBounds_toArray, List.set_cons_zero, List.set_cons_succ, i64_w, i32_w]
                   rfl
                 refine take_ (i := 4) (N := some 303) (v := ?_) (a' := ?_) #[true, true, true, true, true, false, false, false, false, false, false, false, false] rfl rfl (by kernel_rfl) (fun _ _ _ h => h) (Or.inl ⟨by rfl, ?_⟩) hHeld ?_ ?_
                 rotate_left
                 · rintro w' ⟨s0, s1, s2, s3, s4⟩
                   go_simp
                   with_reducible rfl
                 rotate_left
                 · simp only [Act.put, List.setIfInBounds_toArray, List.set_cons_zero, List.set_cons_succ, i64_w, i32_w]
                   rfl
                 refine pure_ (i := 5) (N := some 304) (v := ?_) (a' := ?_) #[true, true, true, true, true, true, false, false, false, false, false, false, false] rfl rfl (by kernel_rfl) (fun _ _ _ h => h) (Or.inl ⟨by rfl, ?_⟩) ?_ ?_
                 rotate_left
                 · intro w'
                   go_simp
                   with_reducible rfl
                 rotate_left
                 · simp only [Act.put, List.setIfInBounds_toArray, List.set_cons_zero, List.set_cons_succ, i64_w, i32_w]
                   rfl
                 refine take_ (i := 6) (N := some 305) (v := ?_) (a' := ?_) #[true, true, true, true, true, true, true, false, false, false, false, false, false] rfl rfl (by kernel_rfl) (fun _ _ _ h => h) (Or.inl ⟨by rfl, ?_⟩) hHeld ?_ ?_
                 rotate_left
                 · rintro w' ⟨s0, s1, s2, s3, s4⟩
                   go_simp
                   with_reducible rfl
                 rotate_left
                 · simp only [Act.put, List.setIfInBounds_toArray, List.set_cons_zero, List.set_cons_succ, i64_w, i32_w]
                   rfl
                 refine pure_ (i := 7) (N := some 306) (v := ?_) (a' := ?_) #[true, true, true, true, true, true, true, true, false, false, false, false, false] rfl rfl (by kernel_rfl) (fun _ _ _ h => h) (Or.inl ⟨by rfl, ?_⟩) ?_ ?_
                 rotate_left
                 · intro w'
                   go_simp
                   with_reducible rfl
                 rotate_left
                 · simp only [Act.put, List.setIfInBounds_toArray, List.set_cons_zero, List.set_cons_succ, i64_w, i32_w]
                   rfl
                 refine one_ (i := 8) (N := some 307) #[true, true, true, true, true, true, true, true, true, false, false, false, false] rfl rfl (by kernel_rfl) (by decide) (fun K hK => ?_)
                 refine Kd.R_lit_step k39 _ 39 ?hg (N := 307) ?hd (xs := ([⟨s.nums x.f0, x⟩] : List S39)) (inner := [.int .i64 (s.nums x.f0), .int .i64 x.f0, .int .i64 x.f1, .int .i64 x.f2, .int .i64 x.f3]) (ok := fun _ => True) (okp := fun _ => True) ?hr ?hp (fun _ hk => hk) trivial (Below.refl _ _) (Nat.le_refl _) (by simp) ?_; (case hd => rfl); (case hg => rfl); (case hr => first | (go_simp; done) | (go_simp; rfl)); (case hp => exact (Reps.c5 (show Kd.M k39 _ _ _ (⟨s.nums x.f0, x⟩ : S39) [.int .i64 (s.nums x.f0), .int .i64 x.f0, .int .i64 x.f1, .int .i64 x.f2, .int .i64 x.f3] from (k39_mkM _ _ _ (⟨s.nums x.f0, x⟩ : S39))) (Reps.none _ _)))
                 intro v307 w25 ho25 hb25 hg_ hnew_
                 clear hg_ hnew_
                 rw [← HE1.out] at ho25
                 have RO10 : Aside0 (Kd.R k39 39 w10.drew base (fun _ => True) (.slice AJ t.out.length cJ) t.out) := ⟨Kd.R_drew HS10.out.1.2.2.2.2⟩
                 have RO25 := Aside0.mk (Kd.R_mono (Kd.R_elder' RO10.out (Kd.R_base ho25) hb25) (fun _ _ => trivial))
                 have SW25 := Aside0.mk ((HS10.out.1.toW.below (below_drew (Below.refl _ _))).below hb25)
                 have RL25 := Aside0.mk (Kd.R_below (Kd.R_drew HS10.out.2) hb25)
                 have BX25 := Aside0.mk (blk_below (blk_drew BX10.out) hb25)
                 have BB25 := Aside0.mk (below_base (w := w) HB10.out.drew HBS.out hb25)
                 obtain ⟨A7, c7, e7⟩ := Kd.R_slice ho25
                 subst e7
                 have CN25 := Aside0.mk (Kd.Q_reads' (Kd.Q_of_R ho25)).2.2
                 have c25 : w25.cell? ⟨g, 14, none⟩ = some (.slice AJ t.out.length cJ) := (blk_cell SW25.out.2.1 14).trans rfl
                 clear ho25 hb25
                 refine hK.out _ _ ⟨c25, (blk_cell BX25.out 0).trans rfl, (blk_cell BX25.out 1).trans rfl, (blk_cell BX25.out 2).trans rfl, (blk_cell BX25.out 3).trans rfl⟩ (fun hHeld => ?_)
                 clear hK K
                 refine norm_ (a' := ?_) ?_ ?_
                 rotate_left
                 · show Act.put _ (some 307) _ = _
                   simp only [Act.put, List.setIfInBounds_toArray, List.set_cons_zero, List.set_cons_succ, i64_w, i32_w]
                   rfl
                 refine one_ (i := 9) (N := some 308) #[true, true, true, true, true, true, true, true, true, true, false, false, false] rfl rfl (by kernel_rfl) (by decide) (fun K hK => ?_)
                 refine Kd.R_append_rows_step k39 (w0 := w) base (by first | rfl | kernel_rfl) (.tmp 303) (.tmp 307) 32 39 (.agg #[(.int .i64 0), (.int .i64 0), (.int .i64 0), (.int .i64 0), (.int .i64 0)]) 40 rfl Try.underlying32 info39 rfl (by decide) (by omega) (.slice AJ t.out.length cJ) t.out e1 _ _ _ (fun _ => True) (fun _ => False) rfl rfl ?aO ?aR (fun _ _ h => h) (fun _ h => h.elim) (fun _ _ => trivial) ?aB ?aS ?aL ?_
                 (case aR => exact CN25.out)
                 (case aB => exact BB25.out.1)
                 (case aO => exact RO25.out)
                 (case aS => exact Nat.le_trans HBS.out BB25.out.1.size)
                 (case aL => have := HTL.out; have h := HE1.out; rw [h]; simp only [List.length_cons, List.length_nil]; omega)
                 intro v308 w26 ho26 hb26 hg26 hat26
                 rw [← HO2.out] at ho26
                 obtain ⟨A26, c26_, e26⟩ := Kd.R_slice ho26
                 subst e26
                 have SW26 := Aside0.mk (SW25.out.grown RO25.out hg26)
                 have RL26 := Aside0.mk (Kd.R_over' RL25.out (Kd.R_typed RO25.out) (by intro q hq; simp [k59, Kd.iso, Kd.pair, Kd.int, Kd.scalar] at hq; omega) hg26)
                 have BX26 := Aside0.mk ((hg26.block gx (blk_lt BX25.out) (Kd.R_ne RO25.out BX25.out (by decide))).trans BX25.out)
                 have BB26 := Aside0.mk (BB25.out.grown hb26 hg26 (Kd.R_typed RO25.out))
                 have SF := Aside0.mk (show SL (w26.setCell ⟨g, 14, none⟩ (.slice A26 o2.length c26_)) base g { t with la := s.nums x.f0, n := t.n - x.f2, a := t.a - tot x, out := o2 } (.slice (some ad) s.q.length cq_) (.slice Al s.l.length cl) (.slice A26 o2.length c26_) (.slice A15 L2.length c15) L2 from ⟨SW26.out.put ho26, Kd.R_set RL26.out SW26.out.2.1 (by intro q hq; simp [k59, Kd.iso, Kd.pair, Kd.int, Kd.scalar] at hq; omega) 14 _⟩)
                 have c26 : w26.cell? ⟨g, 14, none⟩ = some (.slice AJ t.out.length cJ) := (blk_cell SW26.out.2.1 14).trans rfl
                 have y26 := blk_frozen SW26.out.2.1 14
                 have BF := Aside0.mk (BB26.out.setCell (p := ⟨g, 14, none⟩) HBA.out (.slice A26 o2.length c26_))
                 clear ho26 hb26 hg26 hat26 RO25 SW25 RL25 BX25 BB25 CN25 c25
                 refine hK.out _ _ ⟨c26, (blk_cell BX26.out 0).trans rfl, (blk_cell BX26.out 1).trans rfl, (blk_cell BX26.out 2).trans rfl, (blk_cell BX26.out 3).trans rfl⟩ (fun hHeld => ?_)
                 clear hK K
                 refine norm_ (a' := ?_) ?_ ?_
                 rotate_left
                 · show Act.put _ (some 308) _ = _
                   simp only [Act.put, List.setIfInBounds_toArray, List.set_cons_zero, List.set_cons_succ, i64_w, i32_w]
                   rfl
                 refine pure_ (i := 10) (N := some 309) (v := ?_) (a' := ?_) #[true, true, true, true, true, true, true, true, true, true, true, false, false] rfl rfl (by kernel_rfl) (fun _ _ _ h => h) (Or.inl ⟨by rfl, ?_⟩) ?_ ?_
                 rotate_left
                 · intro w'
                   go_simp
                   with_reducible rfl
                 rotate_left
                 · simp only [Act.put, List.setIfInBounds_toArray, List.set_cons_zero, List.set_cons_succ, i64_w, i32_w]
                   rfl
                 refine pure_ (i := 11) (N := some 310) (v := ?_) (a' := ?_) #[true, true, true, true, true, true, true, true, true, true, true, true, false] rfl rfl (by kernel_rfl) (fun _ _ _ h => h) (Or.inl ⟨by rfl, ?_⟩) ?_ ?_
                 rotate_left
                 · intro w'
                   go_simp
                   with_reducible rfl
                 rotate_left
                 · simp only [Act.put, List.setIfInBounds_toArray, List.set_cons_zero, List.set_cons_succ, i64_w, i32_w]
                   rfl
                 refine last_ (i := 12) (N := none) #[true, true, true, true, true, true, true, true, true, true, true, true, true] rfl rfl (by kernel_rfl) (by decide) (fun K hK => ?_)
                 refine skip_ (w1 := ?_) (by rfl) rfl ?_ ?_
                 rotate_left
                 · go_simp
                   rfl
                 refine hK.out _ _ ?_
                 clear hK K
                 refine done_ (by kernel_rfl) ?_
                 go_wp2
                 go_roundg k0
                 case measure => omega
                 case rel => exact ⟨j + 1, rfl, ⟨by have := HJ.out; omega⟩, ⟨A26, c26_, by rw [show (j + 1).toNat = j.toNat + 1 by omega, HSU.out, ← HE1.out, ← HO2.out]; exact SF.out⟩, BF⟩
         · have hjb : decide (j < (m : Int)) = false := decide_eq_false hj
           have hjm : j.toNat = m := by have := HJ.out; omega
           rw [hjm] at HSJ
           obtain ⟨AJ, cJ, hSJ⟩ := HSJ.out
           have HS := Aside0.mk hSJ
           clear hSJ HSJ hjm
           have f0 : wr.cell? ⟨g, 0, none⟩ = some (.slice Aq s.q.length cq_) := (blk_cell HS.out.1.2.1 0).trans rfl
           have f1 : wr.cell? ⟨g, 1, none⟩ = some (.slice Al s.l.length cl) := (blk_cell HS.out.1.2.1 1).trans rfl
           have y0 := blk_frozen HS.out.1.2.1 0
           have y1 := blk_frozen HS.out.1.2.1 1
           have m6 : m ≤ s.q.length := HML.out
           have m7 : m ≤ cq_ := Nat.le_trans HML.out HQC.out
           have hqd : Kd.Q k37 37 wr base (fun _ => True) (.slice (if cq_ = m then Aq else Aq.map (·.add (m * 4))) (s.q.length - m) (cq_ - m)) (s.q.drop m) := Kd.Q_drop HS.out.1.2.2.1 m6
           by_cases hcm : cq_ = m
           · rw [if_pos hcm] at hqd
             have hz : cq_ - m = 0 := by omega
             rw [hz] at hqd
             have HF := Aside0.mk (StV_l (StV_q HS.out.1 hqd) (Kd.R_set HS.out.2 HS.out.1.2.1 (by intro q hq; simp [k59, Kd.iso, Kd.pair, Kd.int, Kd.scalar] at hq; omega) 0 _))
             clear hqd m7
             go_wp2_with (first | (go_at_call 35; (with_reducible refine (right_calls HF.out HR3.out).mono ?_); rintro e w21 ⟨rfl, hb21⟩))
             go_ret
             exact ⟨rfl, ⟨_, _, _, by rw [HST2.out]; exact StV_step HF.out hb21⟩, below_base ((HB.out.setCell (p := ⟨g, 0, none⟩) HBA.out _).setCell (p := ⟨g, 1, none⟩) HBA.out _) HBS.out hb21⟩
           · rw [if_neg hcm] at hqd
             have HF := Aside0.mk (StV_l (StV_q HS.out.1 hqd) (Kd.R_set HS.out.2 HS.out.1.2.1 (by intro q hq; simp [k59, Kd.iso, Kd.pair, Kd.int, Kd.scalar] at hq; omega) 0 _))
             have hcf := eq_false hcm
             clear hqd m7 hcm
             go_wp2_with (first | (go_at_call 35; (with_reducible refine (right_calls HF.out HR3.out).mono ?_); rintro e w21 ⟨rfl, hb21⟩))
             go_ret
             exact ⟨rfl, ⟨_, _, _, by rw [HST2.out]; exact StV_step HF.out hb21⟩, below_base ((HB.out.setCell (p := ⟨g, 0, none⟩) HBA.out _).setCell (p := ⟨g, 1, none⟩) HBA.out _) HBS.out hb21⟩
end Go.Proofs.Ytimlodcdfekbhaa.Pure
