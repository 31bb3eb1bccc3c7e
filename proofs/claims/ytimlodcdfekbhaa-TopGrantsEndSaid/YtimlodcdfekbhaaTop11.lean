/- If everybody gives back and asks are served again, the queue is empty in the end: the whole function answers true, for every list of operations. -/
import Derived.Test.YtimlodcdfekbhaaTop10
namespace Go.Proofs.Ytimlodcdfekbhaa.Pure
open Go.RowKit Go.Proofs.Ytimlodcdfekbhaa.PTopGrantsEnd Go.Proofs.YtimlodcdfekbhaaW.PrintWords Go.Proofs.YtimlodcdfekbhaaW.PrintLast Go.Proofs.YtimlodcdfekbhaaW.PrintMore
set_option linter.unusedVariables false
set_option linter.unusedSimpArgs false
structure S27 where
  f0 : Int
  f1 : Int
  f2 : Int
  f3 : Int
def z27 : S27 := ⟨0, 0, 0, 0⟩
def k27 : Kd S27 := Kd.iso (Kd.pair (Kd.int .u8) (Kd.pair (Kd.int .u8) (Kd.pair (Kd.int .u8) (Kd.int .u8)))) (fun x : S27 => (x.f0, x.f1, x.f2, x.f3))
theorem k27_open {w : World} {x : S27} {cs : List Value} (h : k27.K w x cs) : cs = [.int .u8 x.f0, .int .u8 x.f1, .int .u8 x.f2, .int .u8 x.f3] := by
  obtain ⟨_, _, rfl, rfl, ⟨_, _, rfl, rfl, ⟨_, _, rfl, rfl, rfl⟩⟩⟩ := h
  exact rfl
theorem k27_mk (w : World) (x : S27) : k27.K w x [.int .u8 x.f0, .int .u8 x.f1, .int .u8 x.f2, .int .u8 x.f3] := ⟨[.int .u8 x.f0], [.int .u8 x.f1, .int .u8 x.f2, .int .u8 x.f3], rfl, rfl, ⟨[.int .u8 x.f1], [.int .u8 x.f2, .int .u8 x.f3], rfl, rfl, ⟨[.int .u8 x.f2], [.int .u8 x.f3], rfl, rfl, rfl⟩⟩⟩
def rd_T27 (xs : List S27) (i : Int) : S27 := xs.getD i.toNat z27
theorem at_T27 {w : World} {A : Option Addr} {n : Nat} {xs : List S27} (h : Kd.C k27 w A n xs) (i : Int) (h0 : 0 ≤ i) (h1 : i < n) : ∃ ad, A = some ad ∧ w.cell? (ad.add (i.toNat * 4)) = some (.int .u8 (rd_T27 xs i).f0) ∧ w.cell? ⟨(ad.add (i.toNat * 4)).block, (ad.add (i.toNat * 4)).off + 1, none⟩ = some (.int .u8 (rd_T27 xs i).f1) ∧ w.cell? ⟨(ad.add (i.toNat * 4)).block, (ad.add (i.toNat * 4)).off + 2, none⟩ = some (.int .u8 (rd_T27 xs i).f2) ∧ w.cell? ⟨(ad.add (i.toNat * 4)).block, (ad.add (i.toNat * 4)).off + 3, none⟩ = some (.int .u8 (rd_T27 xs i).f3) := by
  obtain ⟨ad, c, e, _, hK, hc0⟩ := Kd.C_get h z27 i h0 h1
  have hc : ∀ j u, c[j]? = some u → w.cell? (ad.add (i.toNat * 4 + j)) = some u := hc0
  obtain rfl := k27_open hK
  exact ⟨ad, e, hc 0 _ rfl, by rw [← add_field _ _ 1 (by omega)]; exact hc 1 _ rfl, by rw [← add_field _ _ 2 (by omega)]; exact hc 2 _ rfl, by rw [← add_field _ _ 3 (by omega)]; exact hc 3 _ rfl⟩
def wf27 (x : S27) : Prop := (0 ≤ x.f0 ∧ x.f0 ≤ 255) ∧ (0 ≤ x.f1 ∧ x.f1 ≤ 255) ∧ (0 ≤ x.f2 ∧ x.f2 ≤ 255) ∧ (0 ≤ x.f3 ∧ x.f3 ≤ 255)
def Hd (s s1 : BQ) : Prop := s1.q.length + 1 = s.q.length ∨ ∃ x q, s1.q = x :: q ∧ fit x (lO []) 4 10 ∧ s1.q.length = s.q.length
theorem hd_false {s : BQ} {N : Nat} (h : Inv s N) {x : S37} {q : List S37} (hq : s.q = x :: q) (hh : hop x s.l 4 10 = false) : Hd s s :=
  .inr ⟨x, q, hq, hop_fit2 (h.sm x (by rw [hq]; exact List.mem_cons_self)) h.lim (by rw [← h.hl]; exact hh), rfl⟩
theorem hd_true {s : BQ} {N : Nat} (h : Inv s N) {x : S37} {q : List S37} (hq : s.q = x :: q) : Hd s (st1 s x.f0) :=
  by
    have hw : s.q.any (fun y => y.f0 == x.f0) = true := by rw [hq]; simp
    refine .inl ?_
    unfold st1
    rw [if_pos hw]
    exact (can_sub h.ok hw).2
theorem hd_end {s s1 s2 : BQ} {N : Nat} (h : Hd s s1) (h2 : Inv s2 N) (hq : s2.q = s1.q) (ho : s2.out.length = 0) : (st2 s2).q.length + 1 ≤ s.q.length := by
  rcases h with h | ⟨x, q, hx, hf, hl⟩
  · have := st2_len s2
    rw [hq] at this
    omega
  · have := serve_head h2 (List.length_eq_zero_iff.1 ho) (hq.trans hx) hf
    rw [hq] at this
    omega
theorem prO_id {x : Int} (h0 : 0 ≤ x) (h1 : x < 8) : prO x = x := by
  rw [prO_u8 ⟨h0, by omega⟩]
  omega
theorem stp1 {s s' : BQ} {x : Int} (h0 : 0 ≤ x) (h1 : x < 8) (h : Stp s 1 x 0 0 s') : s' = st1 s x := by
  rcases h with ⟨h, _⟩ | ⟨_, h⟩ | ⟨h, _⟩ | ⟨h, _⟩
  · exact absurd h (by decide)
  · rw [prO_id h0 h1] at h; exact h
  · exact absurd h (by decide)
  · exact absurd h (by decide)
theorem stp2 {s s' : BQ} (h : Stp s 2 0 0 0 s') : s' = st2 s := by
  rcases h with ⟨h, _⟩ | ⟨h, _⟩ | ⟨_, h⟩ | ⟨h, _⟩
  · exact absurd h (by decide)
  · exact absurd h (by decide)
  · exact h
  · exact absurd h (by decide)
theorem stp3 {s s' : BQ} {x : Int} (h0 : 0 ≤ x) (h1 : x < 8) (h : Stp s 3 x 0 0 s') : Gave s x s' := by
  rcases h with ⟨h, _⟩ | ⟨h, _⟩ | ⟨h, _⟩ | ⟨_, h⟩
  · exact absurd h (by decide)
  · exact absurd h (by decide)
  · exact absurd h (by decide)
  · rw [prO_id h0 h1] at h; exact h
theorem get39 {l : List S39} (h : 0 < l.length) : l[0]? = some (rd_T39 l 0) := by
  cases l with
  | nil => exact absurd h (by decide)
  | cons a b => rfl
theorem cv8 {x : Int} (h0 : 0 ≤ x) (h1 : x < 8) : IntKind.u8.wrap x = x := by
  rw [IntKind.wrap_u8]
  omega
set_option maxHeartbeats 8000000 in
set_option maxRecDepth 100000 in
theorem TopGrantsEnd.calls (A0 : Option Addr) (c0 : Nat) (l0 : List S27) (w : World) (hr0 : Kd.C k27 w A0 l0.length l0) (hc0 : l0.length ≤ c0) (hwf : ∀ x ∈ l0, wf27 x) :
    Calls Try.prog 3 #[.slice A0 l0.length c0] w fun e w' => e = .returned (.bool true) ∧ Below w.heap.size w w' := by
  have HR0 := Aside0.mk hr0
  have HWF := Aside0.mk hwf
  clear hr0 hc0 hwf
  have HB := Aside0.mk (Below.refl w.heap.size w)
  by_cases h60 : (l0.length : Int) > 60
  · have h61 : decide ((l0.length : Int) > 60) = true := decide_eq_true h60
    have h62 : decide (60 < (l0.length : Int)) = true := decide_eq_true h60
    clear h60
    go_enter Try.func3, Try.ntmps3
    go_wp2_with (first | (go_at_call 11; (with_reducible refine (bServes.calls _).mono ?_); rintro e w2 ⟨rfl, hb2⟩; have HB2 := Aside0.mk (below_step HB.out hb2); clear hb2))
    go_ret
    exact ⟨rfl, HB2.out⟩
  · have h61 : decide ((l0.length : Int) > 60) = false := decide_eq_false h60
    have h62 : decide (60 < (l0.length : Int)) = false := decide_eq_false h60
    have H60 := Aside0.mk h60
    clear h60
    go_enter Try.func3, Try.ntmps3
    go_wp2_with (first | (go_at_call 12; (with_reducible refine (bStart.calls _).mono ?_); rintro e w2 ⟨g, rfl, hs2, hb2⟩; have HS2 := Aside0.mk hs2; have HB2 := Aside0.mk hb2; clear hs2 hb2))
    clear HB
    go_loopg [13] l0.length (fun kq v13 w' => ∃ i : Int, v13 = .int .i64 i ∧ Aside0 (0 ≤ i ∧ i + kq = l0.length) ∧ Aside0 (∃ s, Inv s i.toNat ∧ St w' w.heap.size g s) ∧ Aside0 (Below w.heap.size w w'))
    case atStart => exact ⟨0, rfl, ⟨by omega⟩, ⟨bq0, inv0, HS2.out⟩, HB2⟩
    case round =>
      clear HS2 HB2
      obtain ⟨i, rfl, HI, HSI, HB⟩ := hrel
      by_cases hi : i < (l0.length : Int)
      · have hib : decide (i < (l0.length : Int)) = true := decide_eq_true hi
        obtain ⟨k0, rfl⟩ : ∃ k0, gk = k0 + 1 := ⟨gk - 1, by have := HI.out; omega⟩
        obtain ⟨s, hinv, hst⟩ := HSI.out
        have HV := Aside0.mk hinv
        have HS := Aside0.mk hst
        clear hinv hst HSI
        have p0 : 0 ≤ i := HI.out.1
        obtain ⟨ad, e0, x0, x1, x2, x3⟩ := at_T27 HR0.out i p0 hi
        cases e0
        replace x0 := (HB.out.cell (World.block_lt_of_cell? w _ x0)).trans x0
        replace x1 := (HB.out.cell (World.block_lt_of_cell? w _ x1)).trans x1
        replace x2 := (HB.out.cell (World.block_lt_of_cell? w _ x2)).trans x2
        replace x3 := (HB.out.cell (World.block_lt_of_cell? w _ x3)).trans x3
        have hwf := HWF.out (rd_T27 l0 i) (by
          unfold rd_T27
          rw [List.getD_eq_getElem?_getD, List.getElem?_eq_getElem (by omega)]
          exact List.getElem_mem _)
        have HW := Aside0.mk hwf
        have hw1 : IntKind.i64.wrap (i + 1) = i + 1 := by
          have := H60.out
          rw [IntKind.wrap_i64]
          omega
        have HI1 := Aside0.mk hi
        have p0t := eq_true p0
        have hi1 := eq_true hi
        clear hwf
        generalize rd_T27 l0 i = x at *
        go_upto_region 7 with (first | ((with_reducible refine gate_dst (N := 5) rfl ?_); refine box_event ?hg (N := 5) ?hd (cs := #[.int .u8 0, .int .u8 0, .int .u8 0, .int .u8 0]) (t := 27) ?hr ?_; (case hd => rfl); (case hg => rfl); (case hr => first | (go_simp; done) | (go_simp; rfl)); intro gx hg_ w5 hbox hb; have GX := Aside0.mk ((by rw [hg_]; exact Nat.le_refl _) : wr.heap.size ≤ gx); have BX := Aside0.mk hbox; have HB5 := Aside0.mk hb; clear hbox hb hg_; have z0 : w5.cell? ⟨gx, 0, none⟩ = some (.int .u8 0) := (blk_cell BX.out 0).trans rfl; have z1 : w5.cell? ⟨gx, 1, none⟩ = some (.int .u8 0) := (blk_cell BX.out 1).trans rfl; have z2 : w5.cell? ⟨gx, 2, none⟩ = some (.int .u8 0) := (blk_cell BX.out 2).trans rfl; have z3 : w5.cell? ⟨gx, 3, none⟩ = some (.int .u8 0) := (blk_cell BX.out 3).trans rfl; have y0 := blk_frozen BX.out 0; have y1 := blk_frozen BX.out 1; have y2 := blk_frozen BX.out 2; have y3 := blk_frozen BX.out 3))
        obtain ⟨w6, hw6, hb6, bx6, hf6⟩ := store4 (.int .u8 x.f0) (.int .u8 x.f1) (.int .u8 x.f2) (.int .u8 x.f3) HB5.out GX.out BX.out
        rw [← hw6]
        clear hw6 z0 z1 z2 z3 y0 y1 y2 y3 x0 x1 x2 x3 hf6
        have x0 : w6.cell? ⟨gx, 0, none⟩ = some (.int .u8 x.f0) := (blk_cell bx6 0).trans rfl
        have x1 : w6.cell? ⟨gx, 1, none⟩ = some (.int .u8 x.f1) := (blk_cell bx6 1).trans rfl
        have x2 : w6.cell? ⟨gx, 2, none⟩ = some (.int .u8 x.f2) := (blk_cell bx6 2).trans rfl
        have x3 : w6.cell? ⟨gx, 3, none⟩ = some (.int .u8 x.f3) := (blk_cell bx6 3).trans rfl
        have HS6 := Aside0.mk (St_step HS.out hb6)
        have HB6 := Aside0.mk (HB.out.trans (hb6.mono HB.out.size))
        have hN : i.toNat ≤ 500 := by have := H60.out; omega
        have HN := Aside0.mk hN
        clear hN
        go_wp2_with (first | (go_at_call 13; (with_reducible refine (step_calls HS6.out HV.out HN.out HB6.out.size ?u0 ?u1 ?u2 ?u3).mono ?_); (case u0 => exact HW.out.1); (case u1 => exact HW.out.2.1); (case u2 => exact HW.out.2.2.1); (case u3 => exact HW.out.2.2.2); rintro e w7 ⟨rfl, s', hs', hst', hfr'⟩))
        go_roundg k0
        case measure => omega
        case rel => exact ⟨i + 1, rfl, ⟨by have := HI.out; omega⟩, ⟨s', by rw [show (i + 1).toNat = i.toNat + 1 by omega]; exact hs'.inv HV.out HW.out.2.1 HW.out.2.2.1 HW.out.2.2.2, hst'⟩, ⟨HB6.out.trans hfr'.1⟩⟩
      · have hib : decide (i < (l0.length : Int)) = false := decide_eq_false hi
        obtain ⟨s, hinv, hst⟩ := HSI.out
        have hN : i.toNat ≤ 60 := by have := H60.out; have := HI.out; omega
        have HF : Aside0 (∃ s, Inv s i.toNat ∧ St wr w.heap.size g s ∧ s.q.length + 0 ≤ 32) := ⟨s, hinv, hst, by have := hinv.few; omega⟩
        have HN := Aside0.mk hN
        clear hinv hst hN HSI
        go_wp2
        generalize i.toNat = N at *
        go_loopg [22] 32 (fun kq v22 w' => ∃ r : Int, v22 = .int .i64 r ∧ Aside0 (0 ≤ r ∧ r + kq = 32) ∧ Aside0 (∃ s, Inv s N ∧ St w' w.heap.size g s ∧ s.q.length + r.toNat ≤ 32) ∧ Aside0 (Below w.heap.size w w'))
        case atStart => exact ⟨0, rfl, ⟨by omega⟩, HF, HB⟩
        case round =>
          clear HF HB HI hib hi s
          obtain ⟨r, rfl, HI, HSI, HB⟩ := hrel
          obtain ⟨s, hinv, hst, hlen⟩ := HSI.out
          have HV := Aside0.mk hinv
          have HLN := Aside0.mk hlen
          obtain ⟨vq, vl, vo, hstv⟩ := hst
          obtain ⟨Aq, cq_, eq_, hqc, hqr⟩ := Kd.Q_reads hstv.2.2.1
          subst eq_
          have HS := Aside0.mk hstv
          have HQR := Aside0.mk hqr
          clear hinv hlen hstv hqc hqr HSI
          by_cases hr : r < 32
          · have hrb : decide (r < 32) = true := decide_eq_true hr
            obtain ⟨k0, rfl⟩ : ∃ k0, gk = k0 + 1 := ⟨gk - 1, by have := HI.out; omega⟩
            have hr1 := eq_true hr
            have c0_ : wr.cell? ⟨g, 0, none⟩ = some (.slice Aq s.q.length cq_) := (blk_cell HS.out.2.1 0).trans rfl
            by_cases hq0 : s.q.length = 0
            · rw [hq0] at c0_
              clear hq0 hr
              go_wp2_with (first | (go_at_call 11; (with_reducible refine (bServes.calls _).mono ?_); rintro e w2 ⟨rfl, hb2⟩))
              go_ret
              exact ⟨rfl, HB.out.trans (hb2.mono HB.out.size)⟩
            · have hqb : (((s.q.length : Nat) : Int) == 0) = false := by
                rw [beq_eq_false_iff_ne]
                omega
              obtain ⟨x, q2, hxq⟩ : ∃ x q2, s.q = x :: q2 := by
                cases h : s.q with
                | nil => rw [h] at hq0; exact absurd rfl hq0
                | cons x q2 => exact ⟨x, q2, rfl⟩
              obtain ⟨Al, cl, el, hlc, hlr⟩ := Kd.R_reads HS.out.2.2.2.1
              subst el
              obtain ⟨bd, eb, b0, b1, b2, b3⟩ := at_T37 HQR.out 0 (by decide) (by omega)
              subst eb
              have hx0 : rd_T37 s.q 0 = x := by rw [hxq]; rfl
              rw [hx0] at b0 b1 b2 b3
              have b0' : wr.cell? bd = some (.int .i64 x.f0) := by simpa [Addr.add] using b0
              have b1' : wr.cell? ⟨bd.block, bd.off + 1, none⟩ = some (.int .i64 x.f1) := by simpa [Addr.add] using b1
              have b2' : wr.cell? ⟨bd.block, bd.off + 2, none⟩ = some (.int .i64 x.f2) := by simpa [Addr.add] using b2
              have b3' : wr.cell? ⟨bd.block, bd.off + 3, none⟩ = some (.int .i64 x.f3) := by simpa [Addr.add] using b3
              have c1_ : wr.cell? ⟨g, 1, none⟩ = some (.slice Al s.l.length cl) := (blk_cell HS.out.2.1 1).trans rfl
              have HXQ := Aside0.mk hxq
              have HLR := Aside0.mk hlr
              have HLC := Aside0.mk hlc
              have hlen1 : (0 : Int) < (s.q.length : Int) := by omega
              have hlen2 : 0 < s.q.length := by omega
              have hsx := Aside0.mk (HV.out.sm x (by rw [hxq]; exact List.mem_cons_self))
              obtain ⟨kh, hkh⟩ := Ev.rounds (prog_hop x s.l 4 10)
              have HH := Aside0.mk hkh
              clear hkh hxq hlr hlc hx0 b0 b1 b2 b3 hq0 hr
              have hx0 : 0 ≤ x.f0 := hsx.out.1.1
              have hx8 : x.f0 < 8 := hsx.out.1.2.1
              have hcv : IntKind.u8.wrap x.f0 = x.f0 := cv8 hx0 hx8
              have HX0 := Aside0.mk (And.intro hx0 hx8)
              have HST : Aside0 (St wr w.heap.size g s) := ⟨_, _, _, HS.out⟩
              clear hx0 hx8
              go_wp2
              go_cut [54] from 30 to 54 (fun v54 wx => v54 = .bool false ∧ Aside0 (∃ s1, Inv s1 N ∧ St wx w.heap.size g s1 ∧ Hd s s1) ∧ Aside0 (Below w.heap.size w wx))
              case first =>
                cases hh : hop x s.l 4 10 with
                | false =>
                  rw [hh] at HH
                  have HD := Aside0.mk (hd_false HV.out HXQ.out hh)
                  refine start_ (n := 25) (S := fun w' => w'.cell? ⟨g, 0, none⟩ = some (.slice (some bd) s.q.length cq_) ∧ w'.cell? bd = some (.int .i64 x.f0) ∧ w'.cell? ⟨bd.block, bd.off + 1, none⟩ = some (.int .i64 x.f1) ∧ w'.cell? ⟨bd.block, bd.off + 2, none⟩ = some (.int .i64 x.f2) ∧ w'.cell? ⟨bd.block, bd.off + 3, none⟩ = some (.int .i64 x.f3) ∧ w'.cell? ⟨g, 1, none⟩ = some (.slice Al s.l.length cl)) (ds := [22]) #[false, false, false, false, false, false, false, false, false, false, false, false, false, false, false, false, false, false, false, false, false, false, false, false, false] (by kernel_rfl) rfl rfl ⟨c0_, b0', b1', b2', b3', c1_⟩ (fun hHeld => ?_)
                  refine pure_ (i := 0) (N := some 30) (v := ?_) (a' := ?_) #[true, false, false, false, false, false, false, false, false, false, false, false, false, false, false, false, false, false, false, false, false, false, false, false, false] rfl rfl (by kernel_rfl) (fun _ _ _ h => h) (Or.inl ⟨by rfl, ?_⟩) ?_ ?_
                  rotate_left
                  · intro w'
                    go_simp
                    with_reducible rfl
                  rotate_left
                  · simp only [Act.put, List.setIfInBounds_toArray, List.set_cons_zero, List.set_cons_succ, i64_w, i32_w]
                    rfl
                  refine pure_ (i := 1) (N := some 31) (v := ?_) (a' := ?_) #[true, true, false, false, false, false, false, false, false, false, false, false, false, false, false, false, false, false, false, false, false, false, false, false, false] rfl rfl (by kernel_rfl) (fun _ _ _ h => h) (Or.inl ⟨by rfl, ?_⟩) ?_ ?_
                  rotate_left
                  · intro w'
                    go_simp
                    with_reducible rfl
                  rotate_left
                  · simp only [Act.put, List.setIfInBounds_toArray, List.set_cons_zero, List.set_cons_succ, i64_w, i32_w]
                    rfl
                  refine pure_ (i := 2) (N := some 32) (v := ?_) (a' := ?_) #[true, true, true, false, false, false, false, false, false, false, false, false, false, false, false, false, false, false, false, false, false, false, false, false, false] rfl rfl (by kernel_rfl) (fun _ _ _ h => h) (Or.inl ⟨by rfl, ?_⟩) ?_ ?_
                  rotate_left
                  · intro w'
                    go_simp
                    with_reducible rfl
                  rotate_left
                  · simp only [Act.put, List.setIfInBounds_toArray, List.set_cons_zero, List.set_cons_succ, i64_w, i32_w]
                    rfl
                  refine take_ (i := 3) (N := some 33) (v := ?_) (a' := ?_) #[true, true, true, true, false, false, false, false, false, false, false, false, false, false, false, false, false, false, false, false, false, false, false, false, false] rfl rfl (by kernel_rfl) (fun _ _ _ h => h) (Or.inl ⟨by rfl, ?_⟩) hHeld ?_ ?_
                  rotate_left
                  · rintro w' ⟨s0, s1, s2, s3, s4, s5⟩
                    go_simp
                    with_reducible rfl
                  rotate_left
                  · simp only [Act.put, List.setIfInBounds_toArray, List.set_cons_zero, List.set_cons_succ, i64_w, i32_w]
                    rfl
                  refine pure_ (i := 4) (N := some 34) (v := ?_) (a' := ?_) #[true, true, true, true, true, false, false, false, false, false, false, false, false, false, false, false, false, false, false, false, false, false, false, false, false] rfl rfl (by kernel_rfl) (fun _ _ _ h => h) (Or.inl ⟨by rfl, ?_⟩) ?_ ?_
                  rotate_left
                  · intro w'
                    go_simp
                    with_reducible rfl
                  rotate_left
                  · simp only [Act.put, List.setIfInBounds_toArray, List.set_cons_zero, List.set_cons_succ, i64_w, i32_w]
                    rfl
                  refine take_ (i := 5) (N := some 35) (v := ?_) (a' := ?_) #[true, true, true, true, true, true, false, false, false, false, false, false, false, false, false, false, false, false, false, false, false, false, false, false, false] rfl rfl (by kernel_rfl) (fun _ _ _ h => h) (Or.inl ⟨by rfl, ?_⟩) hHeld ?_ ?_
                  rotate_left
                  · rintro w' ⟨s0, s1, s2, s3, s4, s5⟩
                    go_simp
                    with_reducible rfl
                  rotate_left
                  · simp only [Act.put, List.setIfInBounds_toArray, List.set_cons_zero, List.set_cons_succ, i64_w, i32_w]
                    rfl
                  refine pure_ (i := 6) (N := some 36) (v := ?_) (a' := ?_) #[true, true, true, true, true, true, true, false, false, false, false, false, false, false, false, false, false, false, false, false, false, false, false, false, false] rfl rfl (by kernel_rfl) (fun _ _ _ h => h) (Or.inl ⟨by rfl, ?_⟩) ?_ ?_
                  rotate_left
                  · intro w'
                    go_simp
                    with_reducible rfl
                  rotate_left
                  · simp only [Act.put, List.setIfInBounds_toArray, List.set_cons_zero, List.set_cons_succ, i64_w, i32_w]
                    rfl
                  refine pure_ (i := 7) (N := some 37) (v := ?_) (a' := ?_) #[true, true, true, true, true, true, true, true, false, false, false, false, false, false, false, false, false, false, false, false, false, false, false, false, false] rfl rfl (by kernel_rfl) (fun _ _ _ h => h) (Or.inl ⟨by rfl, ?_⟩) ?_ ?_
                  rotate_left
                  · intro w'
                    go_simp
                    with_reducible rfl
                  rotate_left
                  · simp only [Act.put, List.setIfInBounds_toArray, List.set_cons_zero, List.set_cons_succ, i64_w, i32_w]
                    rfl
                  refine pure_ (i := 8) (N := some 38) (v := ?_) (a' := ?_) #[true, true, true, true, true, true, true, true, true, false, false, false, false, false, false, false, false, false, false, false, false, false, false, false, false] rfl rfl (by kernel_rfl) (fun _ _ _ h => h) (Or.inl ⟨by rfl, ?_⟩) ?_ ?_
                  rotate_left
                  · intro w'
                    go_simp
                    with_reducible rfl
                  rotate_left
                  · simp only [Act.put, List.setIfInBounds_toArray, List.set_cons_zero, List.set_cons_succ, i64_w, i32_w]
                    rfl
                  refine take_ (i := 9) (N := some 39) (v := ?_) (a' := ?_) #[true, true, true, true, true, true, true, true, true, true, false, false, false, false, false, false, false, false, false, false, false, false, false, false, false] rfl rfl (by kernel_rfl) (fun _ _ _ h => h) (Or.inl ⟨by rfl, ?_⟩) hHeld ?_ ?_
                  rotate_left
                  · rintro w' ⟨s0, s1, s2, s3, s4, s5⟩
                    go_simp
                    with_reducible rfl
                  rotate_left
                  · simp only [Act.put, List.setIfInBounds_toArray, List.set_cons_zero, List.set_cons_succ, i64_w, i32_w]
                    rfl
                  refine one_ (i := 10) (N := some 40) #[true, true, true, true, true, true, true, true, true, true, true, false, false, false, false, false, false, false, false, false, false, false, false, false, false] rfl rfl (by kernel_rfl) (by decide) (fun K hK => ?_)
                  refine goes_ Try.func14 (by kernel_rfl) rfl #[.agg #[.int .i64 x.f0, .int .i64 x.f1, .int .i64 x.f2, .int .i64 x.f3], .slice Al s.l.length cl, .int .i64 4, .int .i64 10] (by rfl) rfl rfl (by (try simp only [List.map_toArray, List.map_cons, List.map_nil]); first | done | rfl) ?_
                  with_reducible refine (grant_Hopeless.calls kh x.f0 x.f1 x.f2 x.f3 _ _ s.l 4 10 false _ ?side1 ?side2 HH.out).mono ?_
                  (case side1 => exact Kd.C_drew HLR.out)
                  (case side2 => exact HLC.out)
                  rintro e w7 ⟨rfl, hb7⟩
                  refine ⟨_, rfl, ?_⟩
                  have HB7 := Aside0.mk (below_step (below_drew (Below.refl wr.heap.size wr)) hb7)
                  clear hb7
                  refine hK.out _ _ ⟨(HB7.out.cell (World.block_lt_of_cell? _ _ c0_)).trans c0_, (HB7.out.cell (World.block_lt_of_cell? _ _ b0')).trans b0', (HB7.out.cell (World.block_lt_of_cell? _ _ b1')).trans b1', (HB7.out.cell (World.block_lt_of_cell? _ _ b2')).trans b2', (HB7.out.cell (World.block_lt_of_cell? _ _ b3')).trans b3', (HB7.out.cell (World.block_lt_of_cell? _ _ c1_)).trans c1_⟩ (fun hHeld => ?_)
                  clear hK K
                  refine norm_ (a' := ?_) ?_ ?_
                  rotate_left
                  · show Act.put _ (some 40) _ = _
                    simp only [Act.put, List.setIfInBounds_toArray, List.set_cons_zero, List.set_cons_succ, i64_w, i32_w]
                    rfl
                  refine pure_ (i := 11) (N := some 41) (v := ?_) (a' := ?_) #[true, true, true, true, true, true, true, true, true, true, true, true, false, false, false, false, false, false, false, false, false, false, false, false, false] rfl rfl (by kernel_rfl) (fun _ _ _ h => h) (Or.inl ⟨by rfl, ?_⟩) ?_ ?_
                  rotate_left
                  · intro w'
                    go_simp
                    with_reducible rfl
                  rotate_left
                  · simp only [Act.put, List.setIfInBounds_toArray, List.set_cons_zero, List.set_cons_succ, i64_w, i32_w]
                    rfl
                  refine pure_ (i := 12) (N := some 42) (v := undef) (a' := ?_) #[true, true, true, true, true, true, true, true, true, true, true, true, true, false, false, false, false, false, false, false, false, false, false, false, false] rfl rfl (by kernel_rfl) (fun _ _ _ h => h) (Or.inr ⟨by rfl, rfl⟩) ?_ ?_
                  rotate_left
                  · simp only [Act.put, List.setIfInBounds_toArray, List.set_cons_zero, List.set_cons_succ, i64_w, i32_w]
                    rfl
                  refine pure_ (i := 13) (N := some 43) (v := undef) (a' := ?_) #[true, true, true, true, true, true, true, true, true, true, true, true, true, true, false, false, false, false, false, false, false, false, false, false, false] rfl rfl (by kernel_rfl) (fun _ _ _ h => h) (Or.inr ⟨by rfl, rfl⟩) ?_ ?_
                  rotate_left
                  · simp only [Act.put, List.setIfInBounds_toArray, List.set_cons_zero, List.set_cons_succ, i64_w, i32_w]
                    rfl
                  refine pure_ (i := 14) (N := some 44) (v := undef) (a' := ?_) #[true, true, true, true, true, true, true, true, true, true, true, true, true, true, true, false, false, false, false, false, false, false, false, false, false] rfl rfl (by kernel_rfl) (fun _ _ _ h => h) (Or.inr ⟨by rfl, rfl⟩) ?_ ?_
                  rotate_left
                  · simp only [Act.put, List.setIfInBounds_toArray, List.set_cons_zero, List.set_cons_succ, i64_w, i32_w]
                    rfl
                  refine pure_ (i := 15) (N := some 45) (v := undef) (a' := ?_) #[true, true, true, true, true, true, true, true, true, true, true, true, true, true, true, true, false, false, false, false, false, false, false, false, false] rfl rfl (by kernel_rfl) (fun _ _ _ h => h) (Or.inr ⟨by rfl, rfl⟩) ?_ ?_
                  rotate_left
                  · simp only [Act.put, List.setIfInBounds_toArray, List.set_cons_zero, List.set_cons_succ, i64_w, i32_w]
                    rfl
                  refine pure_ (i := 16) (N := some 46) (v := undef) (a' := ?_) #[true, true, true, true, true, true, true, true, true, true, true, true, true, true, true, true, true, false, false, false, false, false, false, false, false] rfl rfl (by kernel_rfl) (fun _ _ _ h => h) (Or.inr ⟨by rfl, rfl⟩) ?_ ?_
                  rotate_left
                  · simp only [Act.put, List.setIfInBounds_toArray, List.set_cons_zero, List.set_cons_succ, i64_w, i32_w]
                    rfl
                  refine pure_ (i := 17) (N := some 47) (v := undef) (a' := ?_) #[true, true, true, true, true, true, true, true, true, true, true, true, true, true, true, true, true, true, false, false, false, false, false, false, false] rfl rfl (by kernel_rfl) (fun _ _ _ h => h) (Or.inr ⟨by rfl, rfl⟩) ?_ ?_
                  rotate_left
                  · simp only [Act.put, List.setIfInBounds_toArray, List.set_cons_zero, List.set_cons_succ, i64_w, i32_w]
                    rfl
                  refine pure_ (i := 18) (N := some 48) (v := undef) (a' := ?_) #[true, true, true, true, true, true, true, true, true, true, true, true, true, true, true, true, true, true, true, false, false, false, false, false, false] rfl rfl (by kernel_rfl) (fun _ _ _ h => h) (Or.inr ⟨by rfl, rfl⟩) ?_ ?_
                  rotate_left
                  · simp only [Act.put, List.setIfInBounds_toArray, List.set_cons_zero, List.set_cons_succ, i64_w, i32_w]
                    rfl
                  refine pure_ (i := 19) (N := some 49) (v := undef) (a' := ?_) #[true, true, true, true, true, true, true, true, true, true, true, true, true, true, true, true, true, true, true, true, false, false, false, false, false] rfl rfl (by kernel_rfl) (fun _ _ _ h => h) (Or.inr ⟨by rfl, rfl⟩) ?_ ?_
                  rotate_left
                  · simp only [Act.put, List.setIfInBounds_toArray, List.set_cons_zero, List.set_cons_succ, i64_w, i32_w]
                    rfl
                  refine pure_ (i := 20) (N := some 50) (v := undef) (a' := ?_) #[true, true, true, true, true, true, true, true, true, true, true, true, true, true, true, true, true, true, true, true, true, false, false, false, false] rfl rfl (by kernel_rfl) (fun _ _ _ h => h) (Or.inr ⟨by rfl, rfl⟩) ?_ ?_
                  rotate_left
                  · simp only [Act.put, List.setIfInBounds_toArray, List.set_cons_zero, List.set_cons_succ, i64_w, i32_w]
                    rfl
                  refine pure_ (i := 21) (N := some 51) (v := undef) (a' := ?_) #[true, true, true, true, true, true, true, true, true, true, true, true, true, true, true, true, true, true, true, true, true, true, false, false, false] rfl rfl (by kernel_rfl) (fun _ _ _ h => h) (Or.inr ⟨by rfl, rfl⟩) ?_ ?_
                  rotate_left
                  · simp only [Act.put, List.setIfInBounds_toArray, List.set_cons_zero, List.set_cons_succ, i64_w, i32_w]
                    rfl
                  refine pure_ (i := 22) (N := some 52) (v := undef) (a' := ?_) #[true, true, true, true, true, true, true, true, true, true, true, true, true, true, true, true, true, true, true, true, true, true, true, false, false] rfl rfl (by kernel_rfl) (fun _ _ _ h => h) (Or.inr ⟨by rfl, rfl⟩) ?_ ?_
                  rotate_left
                  · simp only [Act.put, List.setIfInBounds_toArray, List.set_cons_zero, List.set_cons_succ, i64_w, i32_w]
                    rfl
                  refine pure_ (i := 23) (N := some 53) (v := undef) (a' := ?_) #[true, true, true, true, true, true, true, true, true, true, true, true, true, true, true, true, true, true, true, true, true, true, true, true, false] rfl rfl (by kernel_rfl) (fun _ _ _ h => h) (Or.inr ⟨by rfl, rfl⟩) ?_ ?_
                  rotate_left
                  · simp only [Act.put, List.setIfInBounds_toArray, List.set_cons_zero, List.set_cons_succ, i64_w, i32_w]
                    rfl
                  refine pure_ (i := 24) (N := some 54) (v := ?_) (a' := ?_) #[true, true, true, true, true, true, true, true, true, true, true, true, true, true, true, true, true, true, true, true, true, true, true, true, true] rfl rfl (by kernel_rfl) (fun _ _ _ h => h) (Or.inl ⟨by rfl, ?_⟩) ?_ ?_
                  rotate_left
                  · intro w'
                    go_simp
                    with_reducible rfl
                  rotate_left
                  · simp only [Act.put, List.setIfInBounds_toArray, List.set_cons_zero, List.set_cons_succ, i64_w, i32_w]
                    rfl
                  refine done_ (by kernel_rfl) ?_
                  go_wp2_with fail
                  go_meet
                  exact ⟨rfl, ⟨s, HV.out, ⟨_, _, _, StV_step HS.out HB7.out⟩, HD.out⟩, ⟨HB.out.trans (HB7.out.mono HB.out.size)⟩⟩
                | true =>
                  rw [hh] at HH
                  have HD := Aside0.mk (hd_true HV.out HXQ.out)
                  refine start_ (n := 25) (S := fun w' => w'.cell? ⟨g, 0, none⟩ = some (.slice (some bd) s.q.length cq_) ∧ w'.cell? bd = some (.int .i64 x.f0) ∧ w'.cell? ⟨bd.block, bd.off + 1, none⟩ = some (.int .i64 x.f1) ∧ w'.cell? ⟨bd.block, bd.off + 2, none⟩ = some (.int .i64 x.f2) ∧ w'.cell? ⟨bd.block, bd.off + 3, none⟩ = some (.int .i64 x.f3) ∧ w'.cell? ⟨g, 1, none⟩ = some (.slice Al s.l.length cl)) (ds := [22]) #[false, false, false, false, false, false, false, false, false, false, false, false, false, false, false, false, false, false, false, false, false, false, false, false, false] (by kernel_rfl) rfl rfl ⟨c0_, b0', b1', b2', b3', c1_⟩ (fun hHeld => ?_)
                  refine pure_ (i := 0) (N := some 30) (v := ?_) (a' := ?_) #[true, false, false, false, false, false, false, false, false, false, false, false, false, false, false, false, false, false, false, false, false, false, false, false, false] rfl rfl (by kernel_rfl) (fun _ _ _ h => h) (Or.inl ⟨by rfl, ?_⟩) ?_ ?_
                  rotate_left
                  · intro w'
                    go_simp
                    with_reducible rfl
                  rotate_left
                  · simp only [Act.put, List.setIfInBounds_toArray, List.set_cons_zero, List.set_cons_succ, i64_w, i32_w]
                    rfl
                  refine pure_ (i := 1) (N := some 31) (v := ?_) (a' := ?_) #[true, true, false, false, false, false, false, false, false, false, false, false, false, false, false, false, false, false, false, false, false, false, false, false, false] rfl rfl (by kernel_rfl) (fun _ _ _ h => h) (Or.inl ⟨by rfl, ?_⟩) ?_ ?_
                  rotate_left
                  · intro w'
                    go_simp
                    with_reducible rfl
                  rotate_left
                  · simp only [Act.put, List.setIfInBounds_toArray, List.set_cons_zero, List.set_cons_succ, i64_w, i32_w]
                    rfl
                  refine pure_ (i := 2) (N := some 32) (v := ?_) (a' := ?_) #[true, true, true, false, false, false, false, false, false, false, false, false, false, false, false, false, false, false, false, false, false, false, false, false, false] rfl rfl (by kernel_rfl) (fun _ _ _ h => h) (Or.inl ⟨by rfl, ?_⟩) ?_ ?_
                  rotate_left
                  · intro w'
                    go_simp
                    with_reducible rfl
                  rotate_left
                  · simp only [Act.put, List.setIfInBounds_toArray, List.set_cons_zero, List.set_cons_succ, i64_w, i32_w]
                    rfl
                  refine take_ (i := 3) (N := some 33) (v := ?_) (a' := ?_) #[true, true, true, true, false, false, false, false, false, false, false, false, false, false, false, false, false, false, false, false, false, false, false, false, false] rfl rfl (by kernel_rfl) (fun _ _ _ h => h) (Or.inl ⟨by rfl, ?_⟩) hHeld ?_ ?_
                  rotate_left
                  · rintro w' ⟨s0, s1, s2, s3, s4, s5⟩
                    go_simp
                    with_reducible rfl
                  rotate_left
                  · simp only [Act.put, List.setIfInBounds_toArray, List.set_cons_zero, List.set_cons_succ, i64_w, i32_w]
                    rfl
                  refine pure_ (i := 4) (N := some 34) (v := ?_) (a' := ?_) #[true, true, true, true, true, false, false, false, false, false, false, false, false, false, false, false, false, false, false, false, false, false, false, false, false] rfl rfl (by kernel_rfl) (fun _ _ _ h => h) (Or.inl ⟨by rfl, ?_⟩) ?_ ?_
                  rotate_left
                  · intro w'
                    go_simp
                    with_reducible rfl
                  rotate_left
                  · simp only [Act.put, List.setIfInBounds_toArray, List.set_cons_zero, List.set_cons_succ, i64_w, i32_w]
                    rfl
                  refine take_ (i := 5) (N := some 35) (v := ?_) (a' := ?_) #[true, true, true, true, true, true, false, false, false, false, false, false, false, false, false, false, false, false, false, false, false, false, false, false, false] rfl rfl (by kernel_rfl) (fun _ _ _ h => h) (Or.inl ⟨by rfl, ?_⟩) hHeld ?_ ?_
                  rotate_left
                  · rintro w' ⟨s0, s1, s2, s3, s4, s5⟩
                    go_simp
                    with_reducible rfl
                  rotate_left
                  · simp only [Act.put, List.setIfInBounds_toArray, List.set_cons_zero, List.set_cons_succ, i64_w, i32_w]
                    rfl
                  refine pure_ (i := 6) (N := some 36) (v := ?_) (a' := ?_) #[true, true, true, true, true, true, true, false, false, false, false, false, false, false, false, false, false, false, false, false, false, false, false, false, false] rfl rfl (by kernel_rfl) (fun _ _ _ h => h) (Or.inl ⟨by rfl, ?_⟩) ?_ ?_
                  rotate_left
                  · intro w'
                    go_simp
                    with_reducible rfl
                  rotate_left
                  · simp only [Act.put, List.setIfInBounds_toArray, List.set_cons_zero, List.set_cons_succ, i64_w, i32_w]
                    rfl
                  refine pure_ (i := 7) (N := some 37) (v := ?_) (a' := ?_) #[true, true, true, true, true, true, true, true, false, false, false, false, false, false, false, false, false, false, false, false, false, false, false, false, false] rfl rfl (by kernel_rfl) (fun _ _ _ h => h) (Or.inl ⟨by rfl, ?_⟩) ?_ ?_
                  rotate_left
                  · intro w'
                    go_simp
                    with_reducible rfl
                  rotate_left
                  · simp only [Act.put, List.setIfInBounds_toArray, List.set_cons_zero, List.set_cons_succ, i64_w, i32_w]
                    rfl
                  refine pure_ (i := 8) (N := some 38) (v := ?_) (a' := ?_) #[true, true, true, true, true, true, true, true, true, false, false, false, false, false, false, false, false, false, false, false, false, false, false, false, false] rfl rfl (by kernel_rfl) (fun _ _ _ h => h) (Or.inl ⟨by rfl, ?_⟩) ?_ ?_
                  rotate_left
                  · intro w'
                    go_simp
                    with_reducible rfl
                  rotate_left
                  · simp only [Act.put, List.setIfInBounds_toArray, List.set_cons_zero, List.set_cons_succ, i64_w, i32_w]
                    rfl
                  refine take_ (i := 9) (N := some 39) (v := ?_) (a' := ?_) #[true, true, true, true, true, true, true, true, true, true, false, false, false, false, false, false, false, false, false, false, false, false, false, false, false] rfl rfl (by kernel_rfl) (fun _ _ _ h => h) (Or.inl ⟨by rfl, ?_⟩) hHeld ?_ ?_
                  rotate_left
                  · rintro w' ⟨s0, s1, s2, s3, s4, s5⟩
                    go_simp
                    with_reducible rfl
                  rotate_left
                  · simp only [Act.put, List.setIfInBounds_toArray, List.set_cons_zero, List.set_cons_succ, i64_w, i32_w]
                    rfl
                  refine one_ (i := 10) (N := some 40) #[true, true, true, true, true, true, true, true, true, true, true, false, false, false, false, false, false, false, false, false, false, false, false, false, false] rfl rfl (by kernel_rfl) (by decide) (fun K hK => ?_)
                  refine goes_ Try.func14 (by kernel_rfl) rfl #[.agg #[.int .i64 x.f0, .int .i64 x.f1, .int .i64 x.f2, .int .i64 x.f3], .slice Al s.l.length cl, .int .i64 4, .int .i64 10] (by rfl) rfl rfl (by (try simp only [List.map_toArray, List.map_cons, List.map_nil]); first | done | rfl) ?_
                  with_reducible refine (grant_Hopeless.calls kh x.f0 x.f1 x.f2 x.f3 _ _ s.l 4 10 true _ ?side1 ?side2 HH.out).mono ?_
                  (case side1 => exact Kd.C_drew HLR.out)
                  (case side2 => exact HLC.out)
                  rintro e w7 ⟨rfl, hb7⟩
                  refine ⟨_, rfl, ?_⟩
                  have HB7 := Aside0.mk (below_step (below_drew (Below.refl wr.heap.size wr)) hb7)
                  clear hb7
                  refine hK.out _ _ ⟨(HB7.out.cell (World.block_lt_of_cell? _ _ c0_)).trans c0_, (HB7.out.cell (World.block_lt_of_cell? _ _ b0')).trans b0', (HB7.out.cell (World.block_lt_of_cell? _ _ b1')).trans b1', (HB7.out.cell (World.block_lt_of_cell? _ _ b2')).trans b2', (HB7.out.cell (World.block_lt_of_cell? _ _ b3')).trans b3', (HB7.out.cell (World.block_lt_of_cell? _ _ c1_)).trans c1_⟩ (fun hHeld => ?_)
                  clear hK K
                  refine norm_ (a' := ?_) ?_ ?_
                  rotate_left
                  · show Act.put _ (some 40) _ = _
                    simp only [Act.put, List.setIfInBounds_toArray, List.set_cons_zero, List.set_cons_succ, i64_w, i32_w]
                    rfl
                  refine pure_ (i := 11) (N := some 41) (v := ?_) (a' := ?_) #[true, true, true, true, true, true, true, true, true, true, true, true, false, false, false, false, false, false, false, false, false, false, false, false, false] rfl rfl (by kernel_rfl) (fun _ _ _ h => h) (Or.inl ⟨by rfl, ?_⟩) ?_ ?_
                  rotate_left
                  · intro w'
                    go_simp
                    with_reducible rfl
                  rotate_left
                  · simp only [Act.put, List.setIfInBounds_toArray, List.set_cons_zero, List.set_cons_succ, i64_w, i32_w]
                    rfl
                  refine pure_ (i := 12) (N := some 42) (v := ?_) (a' := ?_) #[true, true, true, true, true, true, true, true, true, true, true, true, true, false, false, false, false, false, false, false, false, false, false, false, false] rfl rfl (by kernel_rfl) (fun _ _ _ h => h) (Or.inl ⟨by rfl, ?_⟩) ?_ ?_
                  rotate_left
                  · intro w'
                    go_simp
                    with_reducible rfl
                  rotate_left
                  · simp only [Act.put, List.setIfInBounds_toArray, List.set_cons_zero, List.set_cons_succ, i64_w, i32_w]
                    rfl
                  refine pure_ (i := 13) (N := some 43) (v := ?_) (a' := ?_) #[true, true, true, true, true, true, true, true, true, true, true, true, true, true, false, false, false, false, false, false, false, false, false, false, false] rfl rfl (by kernel_rfl) (fun _ _ _ h => h) (Or.inl ⟨by rfl, ?_⟩) ?_ ?_
                  rotate_left
                  · intro w'
                    go_simp
                    with_reducible rfl
                  rotate_left
                  · simp only [Act.put, List.setIfInBounds_toArray, List.set_cons_zero, List.set_cons_succ, i64_w, i32_w]
                    rfl
                  refine pure_ (i := 14) (N := some 44) (v := ?_) (a' := ?_) #[true, true, true, true, true, true, true, true, true, true, true, true, true, true, true, false, false, false, false, false, false, false, false, false, false] rfl rfl (by kernel_rfl) (fun _ _ _ h => h) (Or.inl ⟨by rfl, ?_⟩) ?_ ?_
                  rotate_left
                  · intro w'
                    go_simp
                    with_reducible rfl
                  rotate_left
                  · simp only [Act.put, List.setIfInBounds_toArray, List.set_cons_zero, List.set_cons_succ, i64_w, i32_w]
                    rfl
                  refine pure_ (i := 15) (N := some 45) (v := ?_) (a' := ?_) #[true, true, true, true, true, true, true, true, true, true, true, true, true, true, true, true, false, false, false, false, false, false, false, false, false] rfl rfl (by kernel_rfl) (fun _ _ _ h => h) (Or.inl ⟨by rfl, ?_⟩) ?_ ?_
                  rotate_left
                  · intro w'
                    go_simp
                    with_reducible rfl
                  rotate_left
                  · simp only [Act.put, List.setIfInBounds_toArray, List.set_cons_zero, List.set_cons_succ, i64_w, i32_w]
                    rfl
                  refine take_ (i := 16) (N := some 46) (v := ?_) (a' := ?_) #[true, true, true, true, true, true, true, true, true, true, true, true, true, true, true, true, true, false, false, false, false, false, false, false, false] rfl rfl (by kernel_rfl) (fun _ _ _ h => h) (Or.inl ⟨by rfl, ?_⟩) hHeld ?_ ?_
                  rotate_left
                  · rintro w' ⟨s0, s1, s2, s3, s4, s5⟩
                    go_simp
                    with_reducible rfl
                  rotate_left
                  · simp only [Act.put, List.setIfInBounds_toArray, List.set_cons_zero, List.set_cons_succ, i64_w, i32_w]
                    rfl
                  refine pure_ (i := 17) (N := some 47) (v := ?_) (a' := ?_) #[true, true, true, true, true, true, true, true, true, true, true, true, true, true, true, true, true, true, false, false, false, false, false, false, false] rfl rfl (by kernel_rfl) (fun _ _ _ h => h) (Or.inl ⟨by rfl, ?_⟩) ?_ ?_
                  rotate_left
                  · intro w'
                    go_simp
                    with_reducible rfl
                  rotate_left
                  · simp only [Act.put, List.setIfInBounds_toArray, List.set_cons_zero, List.set_cons_succ, i64_w, i32_w]
                    rfl
                  refine pure_ (i := 18) (N := some 48) (v := ?_) (a' := ?_) #[true, true, true, true, true, true, true, true, true, true, true, true, true, true, true, true, true, true, true, false, false, false, false, false, false] rfl rfl (by kernel_rfl) (fun _ _ _ h => h) (Or.inl ⟨by rfl, ?_⟩) ?_ ?_
                  rotate_left
                  · intro w'
                    go_simp
                    with_reducible rfl
                  rotate_left
                  · simp only [Act.put, List.setIfInBounds_toArray, List.set_cons_zero, List.set_cons_succ, i64_w, i32_w]
                    rfl
                  refine take_ (i := 19) (N := some 49) (v := ?_) (a' := ?_) #[true, true, true, true, true, true, true, true, true, true, true, true, true, true, true, true, true, true, true, true, false, false, false, false, false] rfl rfl (by kernel_rfl) (fun _ _ _ h => h) (Or.inl ⟨by rfl, ?_⟩) hHeld ?_ ?_
                  rotate_left
                  · rintro w' ⟨s0, s1, s2, s3, s4, s5⟩
                    go_simp
                    with_reducible rfl
                  rotate_left
                  · simp only [Act.put, List.setIfInBounds_toArray, List.set_cons_zero, List.set_cons_succ, i64_w, i32_w]
                    rfl
                  refine pure_ (i := 20) (N := some 50) (v := ?_) (a' := ?_) #[true, true, true, true, true, true, true, true, true, true, true, true, true, true, true, true, true, true, true, true, true, false, false, false, false] rfl rfl (by kernel_rfl) (fun _ _ _ h => h) (Or.inl ⟨by rfl, ?_⟩) ?_ ?_
                  rotate_left
                  · intro w'
                    go_simp
                    with_reducible rfl
                  rotate_left
                  · simp only [Act.put, List.setIfInBounds_toArray, List.set_cons_zero, List.set_cons_succ, i64_w, i32_w]
                    rfl
                  refine pure_ (i := 21) (N := some 51) (v := ?_) (a' := ?_) #[true, true, true, true, true, true, true, true, true, true, true, true, true, true, true, true, true, true, true, true, true, true, false, false, false] rfl rfl (by kernel_rfl) (fun _ _ _ h => h) (Or.inl ⟨by rfl, ?_⟩) ?_ ?_
                  rotate_left
                  · intro w'
                    go_simp
                    with_reducible rfl
                  rotate_left
                  · simp only [Act.put, List.setIfInBounds_toArray, List.set_cons_zero, List.set_cons_succ, i64_w, i32_w]
                    rfl
                  refine last_ (i := 22) (N := some 52) #[true, true, true, true, true, true, true, true, true, true, true, true, true, true, true, true, true, true, true, true, true, true, true, false, false] rfl rfl (by kernel_rfl) (by decide) (fun K hK => ?_)
                  refine goes_ Try.func13 (by kernel_rfl) rfl #[.pointer (some ⟨g, 0, none⟩), .agg #[.int .u8 1, .int .u8 x.f0, .int .u8 0, .int .u8 0]] (by rfl) rfl rfl (by (try simp only [List.map_toArray, List.map_cons, List.map_nil]); first | done | rfl) ?_
                  with_reducible refine (step_calls (St_step HST.out HB7.out) HV.out (by have := HN.out; omega) ?side0 ?side1 ?side2 ?side3 ?side4).mono ?_
                  (case side0 => exact Nat.le_trans HB.out.size HB7.out.size)
                  (case side1 => decide)
                  (case side2 => have := HX0.out; omega)
                  (case side3 => decide)
                  (case side4 => decide)
                  rintro e w8 ⟨rfl, s', hs', hst', hfr'⟩
                  obtain rfl := stp1 HX0.out.1 HX0.out.2 hs'
                  have HS8 := Aside0.mk hst'
                  have HB8 := Aside0.mk ((HB.out.trans (HB7.out.mono HB.out.size)).trans hfr'.1)
                  clear hs' hst' hfr'
                  refine ⟨_, rfl, ?_⟩
                  refine hK.out _ _ ?_
                  clear hK K
                  refine norm_ (a' := ?_) ?_ ?_
                  rotate_left
                  · show Act.put _ (some 52) _ = _
                    simp only [Act.put, List.setIfInBounds_toArray, List.set_cons_zero, List.set_cons_succ, i64_w, i32_w]
                    rfl
                  refine pure_ (i := 23) (N := some 53) (v := ?_) (a' := ?_) #[true, true, true, true, true, true, true, true, true, true, true, true, true, true, true, true, true, true, true, true, true, true, true, true, false] rfl rfl (by kernel_rfl) (fun _ _ _ h => h) (Or.inl ⟨by rfl, ?_⟩) ?_ ?_
                  rotate_left
                  · intro w'
                    go_simp
                    with_reducible rfl
                  rotate_left
                  · simp only [Act.put, List.setIfInBounds_toArray, List.set_cons_zero, List.set_cons_succ, i64_w, i32_w]
                    rfl
                  refine pure_ (i := 24) (N := some 54) (v := ?_) (a' := ?_) #[true, true, true, true, true, true, true, true, true, true, true, true, true, true, true, true, true, true, true, true, true, true, true, true, true] rfl rfl (by kernel_rfl) (fun _ _ _ h => h) (Or.inl ⟨by rfl, ?_⟩) ?_ ?_
                  rotate_left
                  · intro w'
                    go_simp
                    with_reducible rfl
                  rotate_left
                  · simp only [Act.put, List.setIfInBounds_toArray, List.set_cons_zero, List.set_cons_succ, i64_w, i32_w]
                    rfl
                  refine done_ (by kernel_rfl) ?_
                  go_wp2_with fail
                  go_meet
                  exact ⟨rfl, ⟨st1 s x.f0, inv_st1 HV.out _, HS8.out, HD.out⟩, HB8⟩
              case rest =>
                obtain ⟨rfl, HC, HBC⟩ := hcut
                obtain ⟨s1, hinv1, hst1, hhd⟩ := HC.out
                have HD := Aside0.mk hhd
                have HW1 : Aside0 (∃ s2, Inv s2 N ∧ St wc w.heap.size g s2 ∧ s2.q = s1.q ∧ s2.out.length = s1.out.length) := ⟨s1, hinv1, hst1, rfl, rfl⟩
                have hr3 : IntKind.i64.wrap (r + 1) = r + 1 := by
                  have := HI.out
                  rw [IntKind.wrap_i64]
                  omega
                clear hhd hinv1 hst1 HC HST HB HS c0_ b0' b1' b2' b3' c1_ HQR HLR HLC hlen1 hlen2 hcv HX0 hsx HH hqb
                go_wp2
                go_loopg [] s1.out.length (fun kq w' => Aside0 (∃ s2, Inv s2 N ∧ St w' w.heap.size g s2 ∧ s2.q = s1.q ∧ s2.out.length = kq) ∧ Aside0 (Below w.heap.size w w'))
                case atStart => exact ⟨HW1, HBC⟩
                case round =>
                  clear HW1 HBC
                  obtain ⟨HS2, HB⟩ := hrel
                  obtain ⟨s2, hinv2, hst2, hq2, ho2⟩ := HS2.out
                  have HV2 := Aside0.mk hinv2
                  have HQ2 := Aside0.mk hq2
                  have HT2 := Aside0.mk hst2
                  obtain ⟨vq2, vl2, vo2, hstv⟩ := hst2
                  obtain ⟨Ao, co, eo, hoc, hor⟩ := Kd.R_reads hstv.2.2.2.2
                  subst eo
                  subst ho2
                  have e14 : wr.cell? ⟨g, 14, none⟩ = some (.slice Ao s2.out.length co) := (blk_cell hstv.2.1 14).trans rfl
                  have hsm2 := hinv2.lim.sm
                  have HOR := Aside0.mk hor
                  clear hstv hoc hor hinv2 hq2 HS2
                  by_cases ho : s2.out.length = 0
                  · rw [ho] at e14
                    have HO := Aside0.mk ho
                    clear ho hsm2
                    go_wp2_with (first | (go_at_call 13; (with_reducible refine (step_calls HT2.out HV2.out (by have := HN.out; omega) HB.out.size ?side1 ?side2 ?side3 ?side4).mono ?_); (case side1 => decide); (case side2 => decide); (case side3 => decide); (case side4 => decide); rintro e w8 ⟨rfl, s', hs', hst', hfr'⟩; obtain rfl := stp2 hs'))
                    go_roundg k0
                    case measure => omega
                    case rel => exact ⟨r + 1, rfl, ⟨by have := HI.out; omega⟩, ⟨st2 s2, inv_st2 HV2.out, hst', by have := hd_end HD.out HV2.out HQ2.out HO.out; have := HLN.out; have := HI.out; omega⟩, ⟨HB.out.trans hfr'.1⟩⟩
                  · have hx := get39 (l := s2.out) (by omega)
                    have hsm := (hsm2 _ (List.mem_of_getElem? hx)).1
                    have hog : decide ((s2.out.length : Int) > 0) = true := decide_eq_true (by omega)
                    have hog2 : decide (0 < (s2.out.length : Int)) = true := decide_eq_true (by omega)
                    have hol1 : (0 : Int) < (s2.out.length : Int) := by omega
                    have hol2 : 0 < s2.out.length := by omega
                    obtain ⟨bo, eb, z0, z1, z2, z3, z4⟩ := at_T39 HOR.out 0 (by decide) (by omega)
                    subst eb
                    have z1' : wr.cell? ⟨bo.block, bo.off + 1, none⟩ = some (.int .i64 (rd_T39 s2.out 0).f1.f0) := by simpa [Addr.add] using z1
                    have HX := Aside0.mk hx
                    have HX0 : Aside0 (0 ≤ (rd_T39 s2.out 0).f1.f0 ∧ (rd_T39 s2.out 0).f1.f0 < 8) := ⟨hsm.1, hsm.2.1⟩
                    clear hx hsm hsm2 z0 z1 z2 z3 z4 ho
                    generalize rd_T39 s2.out 0 = y at *
                    have hcv : IntKind.u8.wrap y.f1.f0 = y.f1.f0 := cv8 HX0.out.1 HX0.out.2
                    obtain ⟨k1, hk1⟩ : ∃ k1, s2.out.length = k1 + 1 := ⟨s2.out.length - 1, by omega⟩
                    have HK1 := Aside0.mk hk1
                    clear hk1
                    go_wp2_with (first | (go_at_call 13; (with_reducible refine (step_calls HT2.out HV2.out (by have := HN.out; omega) HB.out.size ?side1 ?side2 ?side3 ?side4).mono ?_); (case side1 => decide); (case side2 => have := HX0.out; omega); (case side3 => decide); (case side4 => decide); rintro e w8 ⟨rfl, s', hs', hst', hfr'⟩; have hgv := stp3 HX0.out.1 HX0.out.2 hs'))
                    have hgh := gave_head HX.out hgv
                    go_roundg k1
                    case measure => have := HK1.out; omega
                    case rel => exact ⟨⟨s', inv_gave HV2.out hgv, hst', hgh.1.trans HQ2.out, by have := HK1.out; omega⟩, ⟨HB.out.trans hfr'.1⟩⟩
          · have hrb : decide (r < 32) = false := decide_eq_false hr
            have hr1 := eq_false hr
            have hq0 : s.q.length = 0 := by have := HLN.out; have := HI.out; omega
            have c0_ : wr.cell? ⟨g, 0, none⟩ = some (.slice Aq s.q.length cq_) := (blk_cell HS.out.2.1 0).trans rfl
            rw [hq0] at c0_
            clear hr hq0
            go_wp2_with (first | (go_at_call 11; (with_reducible refine (bServes.calls _).mono ?_); rintro e w2 ⟨rfl, hb2⟩))
            go_ret
            exact ⟨rfl, HB.out.trans (hb2.mono HB.out.size)⟩
end Go.Proofs.Ytimlodcdfekbhaa.Pure
