/- What each operation keeps, and that giving back and serving again makes the queue shorter. -/
import Derived.Test.YtimlodcdfekbhaaTop7
namespace Go.Proofs.Ytimlodcdfekbhaa.Pure
open Go.RowKit Go.Proofs.Ytimlodcdfekbhaa.PTopGrantsEnd Go.Proofs.YtimlodcdfekbhaaW.PrintWords Go.Proofs.YtimlodcdfekbhaaW.PrintLast Go.Proofs.YtimlodcdfekbhaaW.PrintMore
/-- What holds of a queue after N asks at most. -/
structure Inv (s : BQ) (N : Nat) : Prop where
  hl : s.l = lO s.out
  lim : Lim s.out
  hn : s.n = 4 - kS s.out
  n0 : 0 ≤ s.n
  ha : s.a = 10 - uS 0 s.out
  a0 : 0 ≤ s.a
  ok : OkQ s.q
  sm : ∀ x ∈ s.q, smA x
  asc : (s.q.map fun x => s.nums x.f0).Pairwise (· < ·)
  lo : ∀ x ∈ s.q, s.la < s.nums x.f0
  hi : ∀ x ∈ s.q, s.nums x.f0 < s.nx
  la : s.la < s.nx
  nx0 : 0 ≤ s.nx
  nx : s.nx ≤ N + 1
  len : s.out.length + s.q.length ≤ N
theorem Inv.rt {s : BQ} {N : Nat} (h : Inv s N) (hN : N ≤ 1000) : Rt s := ⟨h.hl, h.lim, h.n0, h.a0, by have := h.len; omega⟩
theorem Inv.ascJ {s : BQ} {N : Nat} (h : Inv s N) : ∀ j x, s.q[j]? = some x → laJ s j < s.nums x.f0
  | 0, x, hx => h.lo x (List.mem_of_getElem? hx)
  | j + 1, x, hx => by
    obtain ⟨h1, rfl⟩ := List.getElem?_eq_some_iff.1 hx
    have hj : j < s.q.length := by omega
    have e : laJ s (j + 1) = s.nums (s.q[j]).f0 := by
      show (match s.q[j]? with | some x => s.nums x.f0 | none => s.la) = _
      rw [List.getElem?_eq_getElem hj]
    rw [e]
    have := List.pairwise_iff_getElem.1 h.asc j (j + 1) (by rw [List.length_map]; exact hj) (by rw [List.length_map]; exact h1) (by omega)
    rwa [List.getElem_map, List.getElem_map] at this
theorem Inv.na {s : BQ} {N : Nat} (h : Inv s N) : s.n ≤ 1000000 ∧ s.a ≤ 1000000 := by
  have h1 := kS_le s.out h.lim.sm
  have := h.hn
  have := h.ha
  omega
theorem inv0 : Inv bq0 0 := by
  refine ⟨rfl, ⟨by simp [bq0], by decide, by decide, by decide⟩, rfl, by decide, rfl, by decide, ⟨by simp [bq0], by simp [bq0]⟩, by simp [bq0], by simp [bq0], by simp [bq0], by simp [bq0], by decide, by decide, by decide, by decide⟩
theorem Inv.more {s : BQ} {N : Nat} (h : Inv s N) : Inv s (N + 1) := { h with nx := by have := h.nx; omega, len := by have := h.len; omega }
theorem inv_st0 {s : BQ} {N : Nat} (h : Inv s N) {x : S37} (hx : smA x) : Inv (st0 s x.f0 x) (N + 1) := by
  unfold st0
  by_cases hw : s.q.any (fun y => y.f0 == x.f0) = true
  · rw [if_pos hw]
    exact h.more
  · rw [if_neg hw]
    have hne : ∀ y ∈ s.q, y.f0 ≠ x.f0 := fun y hy he => hw (List.any_eq_true.2 ⟨y, hy, by simp [he]⟩)
    have hnum : ∀ y ∈ s.q, (if y.f0 = x.f0 then s.nx else s.nums y.f0) = s.nums y.f0 := fun y hy => if_neg (hne y hy)
    refine ⟨h.hl, h.lim, h.hn, h.n0, h.ha, h.a0, ⟨?_, ?_⟩, ?_, ?_, ?_, ?_, ?_, ?_, ?_, ?_⟩
    · intro y hy
      rcases List.mem_append.1 hy with hy | hy
      · exact h.ok.val y hy
      · rw [List.mem_singleton.1 hy]
        exact hx.1
    · show ((s.q ++ [x]).map (·.f0)).Nodup
      rw [List.map_append, List.nodup_append]
      refine ⟨h.ok.dist, by simp, ?_⟩
      intro a ha b hb
      obtain ⟨y, hy, rfl⟩ := List.mem_map.1 ha
      simp only [List.map_cons, List.map_nil, List.mem_singleton] at hb
      rw [hb]
      exact hne y hy
    · intro y hy
      rcases List.mem_append.1 hy with hy | hy
      · exact h.sm y hy
      · rw [List.mem_singleton.1 hy]
        exact hx
    · show ((s.q ++ [x]).map fun y => if y.f0 = x.f0 then s.nx else s.nums y.f0).Pairwise (· < ·)
      rw [List.map_append, List.pairwise_append]
      refine ⟨?_, by simp, ?_⟩
      · rw [List.map_congr_left hnum]
        exact h.asc
      · intro a ha b hb
        obtain ⟨y, hy, rfl⟩ := List.mem_map.1 ha
        simp only [List.map_cons, List.map_nil, List.mem_singleton, if_true] at hb
        rw [hb, hnum y hy]
        exact h.hi y hy
    · intro y hy
      show s.la < if y.f0 = x.f0 then s.nx else s.nums y.f0
      rcases List.mem_append.1 hy with hy | hy
      · rw [hnum y hy]
        exact h.lo y hy
      · rw [List.mem_singleton.1 hy, if_pos rfl]
        exact h.la
    · intro y hy
      show (if y.f0 = x.f0 then s.nx else s.nums y.f0) < s.nx + 1
      rcases List.mem_append.1 hy with hy | hy
      · rw [hnum y hy]
        have := h.hi y hy
        omega
      · rw [List.mem_singleton.1 hy, if_pos rfl]
        omega
    · show s.la < s.nx + 1
      have := h.la
      omega
    · show 0 ≤ s.nx + 1
      have := h.nx0
      omega
    · show s.nx + 1 ≤ ((N + 1 : Nat) : Int) + 1
      have := h.nx
      omega
    · show s.out.length + (s.q ++ [x]).length ≤ N + 1
      have := h.len
      rw [List.length_append, List.length_singleton]
      omega
/-- A part of the queue in its order. -/
theorem Inv.sub {s : BQ} {N : Nat} (h : Inv s N) {q : List S37} (hq : q.Sublist s.q) : Inv { s with q := q } N := by
  have hm := hq.subset
  exact ⟨h.hl, h.lim, h.hn, h.n0, h.ha, h.a0, ⟨fun y hy => h.ok.val y (hm hy), h.ok.dist.sublist (hq.map _)⟩, fun y hy => h.sm y (hm hy), h.asc.sublist (hq.map _), fun y hy => h.lo y (hm hy), fun y hy => h.hi y (hm hy), h.la, h.nx0, h.nx, by
    show s.out.length + q.length ≤ N
    have := h.len
    have := hq.length_le
    omega⟩
theorem can_sub {q : List S37} (hq : OkQ q) {p : Int} (hw : q.any (fun x => x.f0 == p) = true) : (can q p).1.Sublist q ∧ (can q p).1.length + 1 = q.length := by
  have h2 : pl q p ≥ 0 := (fst_some (fun x => x.f0 == p) q 0).2 (by simpa using List.any_eq_true.1 hw)
  have hlt : (pl q p).toNat < q.length := by
    obtain ⟨x, hx, hxn⟩ := (fst_some (fun x => x.f0 == p) q 0).1 h2
    obtain ⟨j, hj, rfl⟩ := List.mem_iff_getElem.1 hx
    have := (fst_le (fun x => x.f0 == p) q 0 j hj (by rw [ask_get hj]; exact hxn)).2
    unfold pl at *
    omega
  unfold can
  rw [if_pos (cq_ok.2 hq), if_neg (by omega)]
  refine ⟨?_, ?_⟩
  · have e : q = q.take (pl q p).toNat ++ q.drop (pl q p).toNat := (List.take_append_drop _ _).symm
    conv => rhs; rw [e]
    exact List.Sublist.append (List.Sublist.refl _) (List.drop_sublist_drop_left q (Nat.le_succ _))
  · show (q.take (pl q p).toNat ++ q.drop ((pl q p).toNat + 1)).length + 1 = q.length
    rw [List.length_append, List.length_take, List.length_drop]
    omega
theorem inv_st1 {s : BQ} {N : Nat} (h : Inv s N) (p : Int) : Inv (st1 s p) N := by
  unfold st1
  by_cases hw : s.q.any (fun x => x.f0 == p) = true
  · rw [if_pos hw]
    exact h.sub (can_sub h.ok hw).1
  · rw [if_neg hw]
    exact h
theorem inv_st2 {s : BQ} {N : Nat} (h : Inv s N) : Inv (st2 s) N := by
  have hsv := srv_lO s.nums s.q s.out s.n s.a h.sm h.lim h.n0 h.a0
  rw [← h.hl] at hsv
  have hml := srv_le2 s.q s.l s.n s.a
  have e : st2 s = { sv s (srv s.q s.l s.n s.a).1 with q := s.q.drop (srv s.q s.l s.n s.a).1, l := (srv s.q s.l s.n s.a).2 } := rfl
  rw [e]
  generalize (srv s.q s.l s.n s.a).2 = L2 at *
  generalize (srv s.q s.l s.n s.a).1 = m at *
  obtain ⟨g1, g2⟩ := gr_sums s.nums (s.q.take m)
  have g2' := g2 (fun x hx => h.sm x (List.mem_of_mem_take hx))
  have hd := h.sub (List.drop_sublist m s.q)
  have hla : ∀ x ∈ s.q.drop m, laJ s m < s.nums x.f0 := by
    intro x hx
    cases m with
    | zero => exact h.lo x (List.mem_of_mem_drop hx)
    | succ j =>
      have hj : j < s.q.length := by omega
      have e : laJ s (j + 1) = s.nums (s.q[j]).f0 := by
        show (match s.q[j]? with | some x => s.nums x.f0 | none => s.la) = _
        rw [List.getElem?_eq_getElem hj]
      rw [e]
      obtain ⟨i, hi, rfl⟩ := List.mem_iff_getElem.1 hx
      rw [List.length_drop] at hi
      rw [List.getElem_drop]
      have := List.pairwise_iff_getElem.1 h.asc j (j + 1 + i) (by rw [List.length_map]; exact hj) (by rw [List.length_map]; omega) (by omega)
      rwa [List.getElem_map, List.getElem_map] at this
  have hla2 : laJ s m < s.nx := by
    cases m with
    | zero => exact h.la
    | succ j =>
      have hj : j < s.q.length := by omega
      have e : laJ s (j + 1) = s.nums (s.q[j]).f0 := by
        show (match s.q[j]? with | some x => s.nums x.f0 | none => s.la) = _
        rw [List.getElem?_eq_getElem hj]
      rw [e]
      exact h.hi _ (List.getElem_mem hj)
  refine ⟨hsv.1, hsv.2.1, ?_, hsv.2.2.1, ?_, hsv.2.2.2, hd.ok, hd.sm, hd.asc, hla, hd.hi, hla2, h.nx0, h.nx, ?_⟩
  · show s.n - sumK (s.q.take m) = 4 - kS (s.out ++ gr s.nums (s.q.take m))
    rw [kS_app, g1, h.hn]
    omega
  · show s.a - sumT (s.q.take m) = 10 - uS 0 (s.out ++ gr s.nums (s.q.take m))
    rw [uS_app, g2', h.ha]
    omega
  · show (s.out ++ gr s.nums (s.q.take m)).length + (s.q.drop m).length ≤ N
    have := h.len
    rw [List.length_append, gr, List.length_map, List.length_take, List.length_drop]
    omega
theorem inv_gv {s : BQ} {N : Nat} (h : Inv s N) {i : Nat} {x : S39} (hx : s.out[i]? = some x) : Inv (gv s i) N := by
  obtain ⟨hi, rfl⟩ := List.getElem?_eq_some_iff.1 hx
  unfold gv
  rw [hx]
  have hb := (h.lim.sm _ (List.getElem_mem hi)).b
  refine ⟨rfl, give_lim h.lim hi, ?_, ?_, ?_, ?_, h.ok, h.sm, h.asc, h.lo, h.hi, h.la, h.nx0, h.nx, ?_⟩
  · show s.n + _ = 4 - kS (s.out.take i ++ s.out.drop (i + 1))
    rw [(give hi 0).2, h.hn]
    omega
  · show 0 ≤ s.n + _
    have := h.n0
    omega
  · show s.a + _ = 10 - uS 0 (s.out.take i ++ s.out.drop (i + 1))
    rw [(give hi 0).1, h.ha, if_pos (by omega)]
    omega
  · show 0 ≤ s.a + _
    have := h.a0
    omega
  · show (s.out.take i ++ s.out.drop (i + 1)).length + s.q.length ≤ N
    have := h.len
    rw [List.length_append, List.length_take, List.length_drop]
    omega
theorem inv_gave {s s' : BQ} {N : Nat} {p : Int} (h : Inv s N) (hg : Gave s p s') : Inv s' N := by
  rcases hg with ⟨_, rfl⟩ | ⟨i, x, hx, _, rfl⟩
  · exact h
  · exact inv_gv h hx
/-- Giving back to the process that was granted first takes one away. -/
theorem gave_head {s s' : BQ} {x : S39} (hx : s.out[0]? = some x) (hg : Gave s x.f1.f0 s') : s'.q = s.q ∧ s'.out.length + 1 = s.out.length := by
  rcases hg with ⟨hn, _⟩ | ⟨i, y, hy, _, rfl⟩
  · exact absurd rfl (hn x (List.mem_of_getElem? hx))
  · obtain ⟨hi, _⟩ := List.getElem?_eq_some_iff.1 hy
    unfold gv
    rw [hy]
    refine ⟨rfl, ?_⟩
    show (s.out.take i ++ s.out.drop (i + 1)).length + 1 = s.out.length
    rw [List.length_append, List.length_take, List.length_drop]
    omega
/-- An ask that is not hopeless fits when nothing is granted. -/
theorem hop_fit2 {x : S37} (h : smA x) {o : List S39} (ho : Lim o) (hh : hop x (lO o) 4 10 = false) : fit x (lO []) 4 10 := by
  have hb := h.b
  unfold hop at hh
  rw [if_pos h.1, if_pos (chk_ok.2 ho.ok), if_neg (show ¬ x.f1 ≥ ((lO o).length : Int) from by
    have : ((lO o).length : Int) = 3 := rfl
    omega)] at hh
  unfold hpA at hh
  have hall : ∀ y ∈ pth (lO o) x.f1.toNat, tot x ≤ (acc (lO o) y).f4 := by
    intro y hy
    cases hf : (pth (lO o) x.f1.toNat).find? fun y => decide (tot x > (acc (lO o) y).f4) with
    | some z =>
      rw [hf] at hh
      exact absurd hh (by simp)
    | none =>
      have := List.find?_eq_none.1 hf y hy
      simp only [decide_eq_true_eq] at this
      omega
  refine ⟨fun y hy => ?_, by omega, by omega⟩
  unfold lO at hall hy ⊢
  rcases h.cases with e | e | e <;> rw [e] at hall hy
  · rw [show ((0 : Int)).toNat = 0 from rfl, pth_lF0] at hall hy
    have h0 := hall 0 (by simp)
    rw [List.mem_singleton.1 hy]
    exact (by simpa [acc_lF0, uS] using h0 : (acc (lF (uS 0 []) (uS 1 []) (uS 2 [])) 0).f1 + tot x ≤ _)
  · rw [show ((1 : Int)).toNat = 1 from rfl, pth_lF1] at hall hy
    have h0 := hall 0 (by simp)
    have h1 := hall 1 (by simp)
    simp only [List.mem_cons, List.not_mem_nil, or_false] at hy
    rcases hy with rfl | rfl
    · simpa [acc_lF1, uS] using h1
    · simpa [acc_lF0, uS] using h0
  · rw [show ((2 : Int)).toNat = 2 from rfl, pth_lF2] at hall hy
    have h0 := hall 0 (by simp)
    have h1 := hall 1 (by simp)
    have h2 := hall 2 (by simp)
    simp only [List.mem_cons, List.not_mem_nil, or_false] at hy
    rcases hy with rfl | rfl | rfl
    · simpa [acc_lF2, uS] using h2
    · simpa [acc_lF1, uS] using h1
    · simpa [acc_lF0, uS] using h0
/-- Serving when nothing is granted takes the head of the queue, if it fits. -/
theorem serve_head {s : BQ} {N : Nat} (h : Inv s N) (ho : s.out = []) {x : S37} {q : List S37} (hq : s.q = x :: q) (hf : fit x (lO []) 4 10) : (st2 s).q.length < s.q.length := by
  have hl := h.hl
  have hn := h.hn
  have ha := h.ha
  rw [ho] at hl hn ha
  have hn4 : s.n = 4 := hn
  have ha4 : s.a = 10 := ha
  show (s.q.drop (srv s.q s.l s.n s.a).1).length < s.q.length
  rw [hl, hn4, ha4, hq]
  unfold srv
  rw [if_pos hf, List.length_drop, List.length_cons]
  simp only
  omega
theorem st2_len (s : BQ) : (st2 s).q.length ≤ s.q.length := by
  show (s.q.drop _).length ≤ _
  rw [List.length_drop]
  omega
theorem few_nat : ∀ (n : Nat) (l : List Nat), l.Nodup → (∀ x ∈ l, x < n) → l.length ≤ n
  | 0, l, _, h => by
    cases l with
    | nil => exact Nat.le_refl _
    | cons x l => exact absurd (h x List.mem_cons_self) (Nat.not_lt_zero _)
  | n + 1, l, hd, h => by
    have h1 := few_nat n (l.erase n) (hd.erase n) (fun x hx => by
      have hm := (List.Nodup.mem_erase_iff hd).1 hx
      have := h x hm.2
      omega)
    rw [List.length_erase] at h1
    split at h1 <;> omega
theorem Inv.few {s : BQ} {N : Nat} (h : Inv s N) : s.q.length ≤ 8 := by
  have := few_nat 8 (s.q.map fun x => x.f0.toNat) (by
    rw [List.nodup_iff_pairwise_ne, List.pairwise_map]
    have hd := List.nodup_iff_pairwise_ne.1 h.ok.dist
    rw [List.pairwise_map] at hd
    refine hd.imp_of_mem ?_
    intro a b ha hb hab he
    have := (h.ok.val a ha).1
    have := (h.ok.val b hb).1
    exact hab (by omega)) (by
    intro y hy
    obtain ⟨x, hx, rfl⟩ := List.mem_map.1 hy
    have := (h.ok.val x hx).1
    have := (h.ok.val x hx).2.1
    omega)
  rwa [List.length_map] at this
end Go.Proofs.Ytimlodcdfekbhaa.Pure
