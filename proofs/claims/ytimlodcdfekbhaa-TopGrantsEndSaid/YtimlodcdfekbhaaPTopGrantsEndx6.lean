-- Printed by a copy of the kit's printer that this session has patched (wip/tools/patch_print.py): the session's own text. Lean checks it.
import Derived.Test.YtimlodcdfekbhaaPTopGrantsEndx0
import Derived.Test.YtimlodcdfekbhaaPTopGrantsEndx2
import Derived.Test.YtimlodcdfekbhaaPTopGrantsEndx3
import Derived.Test.YtimlodcdfekbhaaPTopGrantsEndx4
import Derived.Test.YtimlodcdfekbhaaPTopGrantsEndx5
namespace Go.Proofs.Ytimlodcdfekbhaa.PTopGrantsEnd
open Go.RowKit Go.Proofs.YtimlodcdfekbhaaW.PrintWords Go.Proofs.YtimlodcdfekbhaaW.PrintLast Go.Proofs.YtimlodcdfekbhaaW.PrintMore
attribute [local go_sem] max2_int min2_int max_two min_two max_three min_three max_four min_four   -- for this text's walks alone
set_option linter.unusedVariables false
set_option linter.unusedSimpArgs false

/-! ### grant_Cancel: function 31 -/
theorem heap_setCells_same {g : Nat} {e : TypeId} : ∀ (vs : List Value) (o : Nat) (w : World) (cur : Array Value), w.heap[g]? = some (.cells cur e (0, 0)) → o + vs.length ≤ cur.size →
    ∃ cur', (w.setCells g o vs).heap[g]? = some (.cells cur' e (0, 0)) ∧ cur'.toList = cur.toList.take o ++ vs ++ cur.toList.drop (o + vs.length)
  | [], o, w, cur, h, hl => ⟨cur, h, by simp⟩
  | v :: r, o, w, cur, h, hl => by
    have h1 := heap_setCell_same w g o cur e v h
    simp only [List.length_cons] at hl
    obtain ⟨cur', h2, h3⟩ := heap_setCells_same r (o + 1) _ _ h1 (by simp; omega)
    refine ⟨cur', h2, h3.trans ?_⟩
    apply List.ext_getElem?
    intro t
    simp only [Array.toList_setIfInBounds, List.getElem?_append, List.length_append, List.length_take, List.length_set, Array.length_toList, List.getElem?_drop, List.getElem?_take, List.getElem?_set, List.length_cons]
    have e1 : min (o + 1) cur.size = o + 1 := by omega
    have e2 : min o cur.size = o := by omega
    simp only [e1, e2]
    rcases Nat.lt_trichotomy t o with ht | ht | ht
    · simp [ht, show t < o + 1 by omega, show t < o + 1 + r.length by omega, show t < o + (r.length + 1) by omega, show ¬ o = t by omega]
    · subst ht
      simp [show t < t + 1 + r.length by omega, show t < cur.size by omega]
    · by_cases ht2 : t < o + 1 + r.length
      · simp [ht2, show t < o + (r.length + 1) by omega, show ¬ t < o + 1 by omega, show ¬ t < o by omega]
        rw [show t - o = (t - (o + 1)) + 1 by omega, List.getElem?_cons_succ]
      · simp [ht2, show ¬ t < o + (r.length + 1) by omega]
        rw [show o + (r.length + 1) + (t - (o + (r.length + 1))) = t by omega, show o + 1 + r.length + (t - (o + 1 + r.length)) = t by omega]
        simp [show ¬ o = t by omega]

theorem below_setCells' {B b : Nat} {a : World} (hb : B ≤ b) : ∀ (vs : List Value) (o : Nat) (w : World), Below B a w → Below B a (w.setCells b o vs)
  | [], _, _, h => h
  | v :: r, o, w, h => below_setCells' hb r (o + 1) _ (h.setCell (p := ⟨b, o, none⟩) hb v)

theorem run_clear_one {P : Program} (w : World) (t e ty : TypeId) (z : Value) (zs : List Value) (ht : P.underlying t = some (.slice e)) (hv : ∀ w, (zeroValue e).run P w = .ok z w) (hz : z.cells = zs.toArray) (h1 : ∀ u ∈ zs, u.oneCell' = true) (b o c : Nat)
    (hc : ∀ j, j < zs.length → (w.cell? ⟨b, o + j, none⟩).isSome = true) (hf : ∀ j, j < zs.length → w.frozen? ⟨b, o + j, none⟩ = false) :
    (Builtin.clear_ #[t] ty #[.slice (some ⟨b, o, none⟩) 1 c]).run P w = .ok (.tuple #[]) (w.setCells b o zs) := by
  have hzc : (Builtin.zeroCells z.cells 1).toList = zs := by
    rw [hz]
    simp [Builtin.zeroCells]
    apply List.ext_getElem
    · simp
    · intro i h1 h2
      simp only [List.length_map, List.length_range] at h1
      simp [Nat.mod_eq_of_lt h1, List.getElem?_eq_getElem h2]
  have hst := run_storeCells_cells (P := P) b o zs 0 w (by simpa using hc) (by simpa using hf) h1
  simp only [Nat.add_zero] at hst
  simp [Builtin.clear_, run_underlying ht, hv, hzc, hst]

set_option maxHeartbeats 4000000 in
set_option maxRecDepth 1000000 in
theorem askDel.calls {base : Nat} (g cap n i : Nat) (inner : List Value) (w : World) (ho : w.ownsRow base 37 4 (.slice (some ⟨g, 0, none⟩) n cap) n inner) (h1 : ∀ u ∈ inner, u.oneCell' = true) (hi : i < n) :
    Calls Try.prog 57 #[.slice (some ⟨g, 0, none⟩) n cap, .int .i64 i, .int .i64 ((i : Int) + 1)] w fun e w' => e = .returned (.slice (some ⟨g, 0, none⟩) (n - 1) cap) ∧ w'.ownsRow base 37 4 (.slice (some ⟨g, 0, none⟩) (n - 1) cap) (n - 1) (inner.take (i * 4) ++ inner.drop ((i + 1) * 4)) ∧ Below base w w' := by
  obtain ⟨hlen, hno | ⟨g', cap', cur, he, hb, hg, hnc, hcm, hsz, htk⟩⟩ := ho
  · exact absurd hno.2 (by omega)
  simp only [Value.slice.injEq, Option.some.injEq, Addr.mk.injEq, and_true, true_and] at he
  obtain ⟨rfl, rfl⟩ := he
  have hm : cap ≤ 9223372036854775807 := hcm
  obtain ⟨i0, hi0, hz0, hz1, hz2⟩ := info_parts info37
  have hcell : ∀ j, j < n * 4 → w.drew.cell? ⟨g, j, none⟩ = inner[j]? := by
    intro j hj
    have h2 : w.drew.cell? ⟨g, j, none⟩ = cur[j]? := by
      show w.cell? _ = _
      simp [World.cell?, hg]
    rw [h2, ← htk, List.getElem?_take, if_pos hj, Array.getElem?_toList]
  have hfz : ∀ j, w.drew.frozen? ⟨g, j, none⟩ = false := by
    intro j
    show w.frozen? _ = _
    simp [World.frozen?, hg]
  obtain ⟨news, hnews⟩ : ∃ news, news = inner.drop ((i + 1) * 4) := ⟨_, rfl⟩
  have hnl : news.length = (n - (i + 1)) * 4 := by rw [hnews, List.length_drop, hlen]; omega
  obtain ⟨A, hA, hsrc⟩ : ∃ A : Addr, (if cap = i + 1 then some (⟨g, 0, none⟩ : Addr) else some ⟨g, (i + 1) * 4, none⟩) = some A ∧ Hid (∀ t u, news[t]? = some u → w.drew.cell? (A.add t) = some u) := by
    by_cases h : cap = i + 1
    · refine ⟨⟨g, 0, none⟩, by simp [h], fun t u hu => ?_⟩
      have h0 : news.length = 0 := by rw [hnl]; omega
      rw [List.length_eq_zero_iff.1 h0] at hu
      simp at hu
    · refine ⟨⟨g, (i + 1) * 4, none⟩, by simp [h], fun t u hu => ?_⟩
      have ht := (List.getElem?_eq_some_iff.1 hu).1
      rw [hnl] at ht
      rw [Addr.add_lit, hcell _ (by omega)]
      rw [hnews, List.getElem?_drop] at hu
      exact hu
  have s1 : Hid (news.length = (n - (i + 1)) * 4) := hnl
  have s2 : Hid (∀ u ∈ news, u.oneCell' = true) := fun u hu => h1 u (by rw [hnews] at hu; exact List.mem_of_mem_drop hu)
  have s3 : Hid (∀ t, t < news.length → (w.drew.cell? ⟨g, 0 + i * 4 + t, none⟩).isSome = true ∧ w.drew.frozen? ⟨g, 0 + i * 4 + t, none⟩ = false) := by
    intro t ht
    rw [hnl] at ht
    exact ⟨by rw [hcell _ (by omega), List.getElem?_eq_getElem (by rw [hlen]; omega)]; rfl, hfz _⟩
  obtain ⟨W1, hW1⟩ : ∃ W1, W1 = w.drew.setCells g (0 + i * 4) news := ⟨_, rfl⟩
  obtain ⟨cur1, hg1, hc1⟩ := heap_setCells_same (g := g) news (0 + i * 4) w.drew cur hg (by omega)
  have hz1' : cur1.size = cur.size := by
    rw [← Array.length_toList, hc1]
    simp
    omega
  obtain ⟨zs, hzs⟩ : ∃ zs : List Value, zs = [.int .i64 0, .int .i64 0, .int .i64 0, .int .i64 0] := ⟨_, rfl⟩
  obtain ⟨cur2, hg2, hc2⟩ := heap_setCells_same (g := g) zs (0 + (i + (n - (i + 1))) * 4) W1 cur1 (by rw [hW1]; exact hg1) (by rw [hz1', hzs]; simp; omega)
  have hz2' : cur2.size = cur.size := by
    rw [← Array.length_toList, hc2, hzs]
    simp
    omega
  have hcl : ∀ ty, (Builtin.clear_ #[29] ty #[.slice (some ⟨g, (i + (n - (i + 1))) * 4, none⟩) (n - (i + (n - (i + 1)))) (cap - (i + (n - (i + 1))))]).run Try.prog W1 = .ok (.tuple #[]) (W1.setCells g (0 + (i + (n - (i + 1))) * 4) zs) := fun ty => by
    rw [Nat.zero_add, show n - (i + (n - (i + 1))) = 1 by omega]
    refine run_clear_one W1 29 37 ty (.agg #[.int .i64 0, .int .i64 0, .int .i64 0, .int .i64 0]) zs Try.underlying29 (fun w => by go_simp) (by rw [hzs]; rfl) (by rw [hzs]; intro u hu; simp at hu; subst hu; rfl) g _ _ ?_ ?_
    · intro j hj
      rw [hzs] at hj
      simp at hj
      have h2 : ((i + (n - (i + 1))) * 4) + j < cur1.size := by rw [hz1', hsz]; omega
      rw [hW1]
      simp only [World.cell?, hg1, Option.isSome_none, Bool.false_eq_true, if_false]
      rw [Array.getElem?_eq_getElem h2]
      rfl
    · intro j hj
      rw [hW1]
      simp only [World.frozen?, hg1]
      simp
  have hW : Hid (W1 = w.drew.setCells g (0 + i * 4) news) := hW1
  have hfin : Hid ((W1.setCells g (0 + (i + (n - (i + 1))) * 4) zs).ownsRow base 37 4 (.slice (some ⟨g, 0, none⟩) (n - 1) cap) (n - 1) (inner.take (i * 4) ++ inner.drop ((i + 1) * 4)) ∧ Below base w (W1.setCells g (0 + (i + (n - (i + 1))) * 4) zs)) := by
    refine ⟨⟨?_, .inr ⟨g, cap, cur2, rfl, hb, hg2, by omega, hcm, by rw [hz2', hsz], ?_⟩⟩, ?_⟩
    · simp [hlen]
      omega
    · have e0 : i + (n - (i + 1)) = n - 1 := by omega
      have e3 : cur1.toList.length = cur.size := by rw [Array.length_toList, hz1']
      have e1 : (cur.toList.take (0 + i * 4) ++ news).length = (n - 1) * 4 := by
        rw [List.length_append, List.length_take, Array.length_toList, hnl]
        omega
      rw [hc2, e0, List.append_assoc, Nat.zero_add, List.take_append_of_le_length (by rw [List.length_take, e3]; omega), List.take_take, Nat.min_self, hc1, ← e1, List.take_left, ← hnews, ← htk, List.take_take, Nat.zero_add]
      congr 2
      omega
    · exact below_setCells' hb _ _ _ (by rw [hW1]; exact below_setCells' hb _ _ _ (Below.refl _ _).drew)
  have hic : i ≤ cap := by omega
  have hjc : i + 1 ≤ cap := by omega
  have hwr : IntKind.i64.wrap ((i : Int) + 1) = (i : Int) + 1 := by rw [IntKind.wrap_i64]; omega
  have hp0 : (0 : Int) ≤ (i : Int) + 1 := by omega
  have hp1 : (i : Int) + 1 ≤ (n : Int) := by omega
  have hp2 : ((i : Int) + 1).toNat = i + 1 := by omega
  have hp3 : (n : Int).toNat = n := by omega
  have hne : ((i : Int) == (i : Int) + 1) = false := by simp; omega
  have X := Aside0.mk htk
  clear htk hfz hcell hnl hnews hg1 hc1 hg2 hc2 hz1' hz2' hW1 hg hsz h1 hlen hzs
  go_enter Try.func57, Try.ntmps57
  go_wp2_with fail
  go_region_law (refine step_append_room rfl (.tmp 22) (.tmp 25) 29 rfl 37 i0 4 Try.underlying29 hi0 hz1 g 0 i cap (by simp [Act.eval, Act.put]) A (n - (i + 1)) (cap - (i + 1)) news (by simp [Act.eval, Act.put]) s1.out hsrc.out s2.out (by omega) s3.out ?_; rw [← hW.out])
  have hq1 : ¬ (cap = i + (n - (i + 1))) := by omega
  have hq2 : i + (n - (i + 1)) ≤ n := by omega
  go_wp2
  go_ret
  exact ⟨by rw [show i + (n - (i + 1)) = n - 1 by omega]; rfl, by have h := hfin.out; rw [Nat.zero_add] at h; exact h⟩
theorem reps_del {α : Type} {R : α → List Value → Prop} {size i : Nat} {ps : List α} {cs : List Value} (h : Reps R size ps cs) (hi : i < ps.length) : Reps R size (ps.take i ++ ps.drop (i + 1)) (cs.take (i * size) ++ cs.drop ((i + 1) * size)) := by
  have hl := h.1
  have e1 : i * size + (ps.length - (i + 1)) * size = (ps.length - 1) * size := by rw [← Nat.add_mul]; congr 1; omega
  have e2 : ps.length * size = (i + 1) * size + (ps.length - (i + 1)) * size := by rw [← Nat.add_mul]; congr 1; omega
  have e3 : i * size ≤ ps.length * size := Nat.mul_le_mul_right _ (by omega)
  refine ⟨?_, fun j p hp => ?_⟩
  · simp only [List.length_append, List.length_take, List.length_drop, hl]
    rw [Nat.min_eq_left e3, Nat.min_eq_left (by omega : i ≤ ps.length), Nat.add_mul i (ps.length - (i + 1)) size, e2]
    omega
  · have hti : (ps.take i).length = i := by rw [List.length_take]; omega
    have htc : (cs.take (i * size)).length = i * size := by rw [List.length_take, hl]; omega
    by_cases hj : j < i
    · rw [List.getElem?_append_left (by omega), List.getElem?_take, if_pos hj] at hp
      have h2 := h.2 j p hp
      have e4 : j * size + size ≤ i * size := by have := Nat.mul_le_mul_right size (show j + 1 ≤ i by omega); rw [Nat.add_mul, Nat.one_mul] at this; exact this
      have e5 : ((cs.take (i * size) ++ cs.drop ((i + 1) * size)).drop (j * size)).take size = (cs.drop (j * size)).take size := by
        apply List.ext_getElem?
        intro t
        simp only [List.getElem?_take, List.getElem?_drop]
        by_cases ht : t < size
        · rw [if_pos ht, if_pos ht, List.getElem?_append_left (by omega), List.getElem?_take, if_pos (by omega)]
        · rw [if_neg ht, if_neg ht]
      rw [e5]
      exact h2
    · rw [List.getElem?_append_right (by omega), List.getElem?_drop, hti, show i + 1 + (j - i) = j + 1 by omega] at hp
      have h2 := h.2 (j + 1) p hp
      have e4 : i * size ≤ j * size := Nat.mul_le_mul_right _ (by omega)
      have e5 : ((cs.take (i * size) ++ cs.drop ((i + 1) * size)).drop (j * size)).take size = (cs.drop ((j + 1) * size)).take size := by
        apply List.ext_getElem?
        intro t
        simp only [List.getElem?_take, List.getElem?_drop]
        by_cases ht : t < size
        · rw [if_pos ht, if_pos ht, List.getElem?_append_right (by omega), List.getElem?_drop, htc]
          congr 1
          have e6 : (i + 1) * size = i * size + size := by rw [Nat.add_mul, Nat.one_mul]
          have e7 : (j + 1) * size = j * size + size := by rw [Nat.add_mul, Nat.one_mul]
          omega
        · rw [if_neg ht, if_neg ht]
      rw [e5]
      exact h2
theorem reps_one {α : Type} {R : α → List Value → Prop} {size : Nat} {ps : List α} {cs : List Value} (h : Reps R size ps cs) (h1 : ∀ x c, R x c → ∀ u ∈ c, u.oneCell' = true) : ∀ u ∈ cs, u.oneCell' = true := by
  intro u hu
  obtain ⟨t, ht, rfl⟩ := List.mem_iff_getElem.1 hu
  have hs : 0 < size := by
    rcases Nat.eq_zero_or_pos size with h0 | h0
    · have := h.1
      rw [h0, Nat.mul_zero] at this
      omega
    · exact h0
  have hq : t / size < ps.length := by rw [Nat.div_lt_iff_lt_mul hs, ← h.1]; exact ht
  refine h1 _ _ (h.2 (t / size) _ (List.getElem?_eq_getElem hq)) _ ?_
  rw [List.mem_iff_getElem?]
  refine ⟨t % size, ?_⟩
  rw [List.getElem?_take, if_pos (Nat.mod_lt _ hs), List.getElem?_drop, Nat.mul_comm, Nat.div_add_mod, List.getElem?_eq_getElem ht]
theorem askDelR.calls {base : Nat} {ok : Nat → Prop} {A : Option Addr} {n cap : Nat} (i : Nat) (xs : List S37) (w : World) (ho : Kd.R k37 37 w base ok (.slice A n cap) xs) (hi : i < xs.length) :
    Calls Try.prog 57 #[.slice A n cap, .int .i64 i, .int .i64 ((i : Int) + 1)] w fun e w' => ∃ v0_ : Value, e = .returned v0_ ∧ Kd.R k37 37 w' base ok v0_ (xs.take i ++ xs.drop (i + 1)) ∧ Below base w w' := by
  obtain ⟨h0, inner, hw, hr⟩ := ho
  have hn : n = xs.length := by
    obtain ⟨A', c', he⟩ := own_slice hw
    injection he
  subst hn
  obtain ⟨g, rfl⟩ : ∃ g, A = some ⟨g, 0, none⟩ := by
    obtain ⟨_, he | ⟨g, c', cur, he, _⟩⟩ := hw
    · omega
    · injection he with he
      exact ⟨g, he⟩
  have hr1 : Reps (k37.M w base (fun k => ok k ∧ some k ≠ (Value.slice (some ⟨g, 0, none⟩) xs.length cap).ownBlock)) 4 xs inner := hr
  refine (askDel.calls g cap xs.length i inner w hw (reps_one hr1 (fun x c hp => k37.K_one (k37.K_of_M hp))) hi).mono ?_
  rintro e w' ⟨rfl, h1, h2⟩
  have hl : (xs.take i ++ xs.drop (i + 1)).length = xs.length - 1 := by
    rw [List.length_append, List.length_take, List.length_drop]
    omega
  refine ⟨_, rfl, ⟨fun k hk => h0 k hk, _, ?_, reps_del hr1 hi⟩, h2⟩
  rw [hl]
  exact h1
def grant_Cancel.f (k : Nat) (l0 : List (S37)) (a1 : Int) : Option ((List (S37)) × Int) := (grant_Check.f k l0).bind fun t => if t = 0 then ((grant_of.f k l0 a1).bind fun i => if i < 0 then some (([] : List S37), 6) else (api_Ask_56.f l0).bind fun y => if i.toNat < y.length ∧ y.length < 4398046511104 then some (y.take i.toNat ++ y.drop (i.toNat + 1), 0) else none) else some (([] : List S37), t)
theorem grant_Cancel.mono : ∀ a0 a1 k, LeO (grant_Cancel.f k a0 a1) (grant_Cancel.f (k + 1) a0 a1) := by
  intro a0 a1 k
  unfold grant_Cancel.f
  repeat' first
      | (with_reducible exact grant_Check.mono _ _)
      | (with_reducible exact grant_of.mono _ _ _)
      | (with_reducible exact LeO.refl _)
      | (with_reducible exact LeO.none _)
      | (with_reducible refine LeO.ite ?_ ?_)
      | (with_reducible refine LeO.bind ?_ (fun _ => ?_))
set_option maxHeartbeats 8000000 in
set_option maxRecDepth 100000 in
theorem grant_Cancel.calls (k : Nat) (A0 : Option Addr) (c0 : Nat) (l0 : List (S37)) (a1 : Int) (r1 : List (S37)) (r2 : Int) (w : World) (hr0 : Kd.C k37 w A0 l0.length l0) (hc0 : l0.length ≤ c0) (h : grant_Cancel.f k l0 a1 = some (r1, r2)) :
    Calls Try.prog 31 #[.slice A0 l0.length c0, .int .i64 a1] w fun e w' => ∃ v0_ : Value, e = .returned (.tuple #[v0_, .int .i64 r2]) ∧ Kd.R k37 37 w' w.heap.size (fun _ => True) v0_ r1 ∧ Below w.heap.size w w' := by
  have HR0 := Aside0.mk hr0
  have HC0 := Aside0.mk hc0
  clear hr0 hc0
  have HB := Aside0.mk (Below.refl w.heap.size w)
  have H := h
  clear h
  unfold grant_Cancel.f at H
  obtain ⟨t, A30, H⟩ := Option.bind_eq_some_iff.mp H
  have A3 := Aside0.mk A30
  clear A30
  by_cases c4 : t = 0
  · rw [if_pos c4] at H
    have c4b0 : (t == 0) = true := beq_iff_eq.mpr c4
    have c4b1 : (t != 0) = false := bne_eq_false_iff_eq.mpr c4
    clear c4
    obtain ⟨i, A70, H⟩ := Option.bind_eq_some_iff.mp H
    have A7 := Aside0.mk A70
    clear A70
    by_cases c8 : i < 0
    · rw [if_pos c8] at H
      have c8b0 : decide (i < 0) = true := decide_eq_true c8
      clear c8
      simp only [Option.some.injEq, Prod.mk.injEq] at H
      obtain ⟨rfl, rfl⟩ := H
      go_enter Try.func31, Try.ntmps31
      go_wp2_with (first | (go_at_call 27; (with_reducible refine (grant_Check.calls k _ _ l0 t _ ?side1 ?side2 A3.out).mono ?_); (case side1 => repeat (first | exact (Kd.C_below HR0.out HB.out) | (with_reducible refine Kd.C_alloc ?_ _) | (with_reducible refine Kd.C_drewN ?_ _) | (with_reducible refine Kd.C_drew ?_))); (case side2 => exact HC0.out); rintro e w10 ⟨rfl, hb⟩; have n1_ := Aside0.mk (below_step (by repeat (first | (with_reducible first | exact HB.out | apply below_alloc | apply pw_below_drewN | apply below_drew1) | exact HB.out)) hb); clear HB; have HB := n1_; clear n1_ hb) | (go_at_call 54; (with_reducible refine (grant_of.calls k _ _ l0 a1 i _ ?side1 ?side2 A7.out).mono ?_); (case side1 => repeat (first | exact (Kd.C_below HR0.out HB.out) | (with_reducible refine Kd.C_alloc ?_ _) | (with_reducible refine Kd.C_drewN ?_ _) | (with_reducible refine Kd.C_drew ?_))); (case side2 => exact HC0.out); rintro e w11 ⟨rfl, hb⟩; have n1_ := Aside0.mk (below_step (by repeat (first | (with_reducible first | exact HB.out | apply below_alloc | apply pw_below_drewN | apply below_drew1) | exact HB.out)) hb); clear HB; have HB := n1_; clear n1_ hb))
      go_ret2
      exact ⟨_, rfl, Kd.R_nil _ _ _ _ _, by repeat (first | (with_reducible first | exact HB.out | apply below_alloc | apply pw_below_drewN | apply below_drew1) | exact HB.out)⟩
    · rw [if_neg c8] at H
      have c8b0 : decide (i < 0) = false := decide_eq_false c8
      obtain ⟨m, rfl⟩ := Int.eq_ofNat_of_zero_le (show 0 ≤ i by omega)
      clear c8
      obtain ⟨y, A90, H⟩ := Option.bind_eq_some_iff.mp H
      have A9 := Aside0.mk A90
      clear A90
      simp only [Int.toNat_natCast] at H
      by_cases c9 : m < y.length ∧ y.length < 4398046511104
      · rw [if_pos c9] at H
        simp only [Option.some.injEq, Prod.mk.injEq] at H
        obtain ⟨rfl, rfl⟩ := H
        have hwr : IntKind.i64.wrap ((m : Int) + 1) = (m : Int) + 1 := by rw [IntKind.wrap_i64]; omega
        have C9 := Aside0.mk c9
        clear c9
        go_enter Try.func31, Try.ntmps31
        go_wp2_with (first | (go_at_call 27; (with_reducible refine (grant_Check.calls k _ _ l0 t _ ?side1 ?side2 A3.out).mono ?_); (case side1 => repeat (first | exact (Kd.C_below HR0.out HB.out) | (with_reducible refine Kd.C_alloc ?_ _) | (with_reducible refine Kd.C_drewN ?_ _) | (with_reducible refine Kd.C_drew ?_))); (case side2 => exact HC0.out); rintro e w10 ⟨rfl, hb⟩; have n1_ := Aside0.mk (below_step (by repeat (first | (with_reducible first | exact HB.out | apply below_alloc | apply pw_below_drewN | apply below_drew1) | exact HB.out)) hb); clear HB; have HB := n1_; clear n1_ hb) | (go_at_call 54; (with_reducible refine (grant_of.calls k _ _ l0 a1 (m : Int) _ ?side1 ?side2 A7.out).mono ?_); (case side1 => repeat (first | exact (Kd.C_below HR0.out HB.out) | (with_reducible refine Kd.C_alloc ?_ _) | (with_reducible refine Kd.C_drewN ?_ _) | (with_reducible refine Kd.C_drew ?_))); (case side2 => exact HC0.out); rintro e w11 ⟨rfl, hb⟩; have n1_ := Aside0.mk (below_step (by repeat (first | (with_reducible first | exact HB.out | apply below_alloc | apply pw_below_drewN | apply below_drew1) | exact HB.out)) hb); clear HB; have HB := n1_; clear n1_ hb) | (go_at_call 56; (with_reducible refine (api_Ask_56.calls _ _ l0 y _ ?side1 ?side2 A9.out).mono ?_); (case side1 => repeat (first | exact (Kd.C_below HR0.out HB.out) | (with_reducible refine Kd.C_alloc ?_ _) | (with_reducible refine Kd.C_drewN ?_ _) | (with_reducible refine Kd.C_drew ?_))); (case side2 => exact HC0.out); rintro e w12 ⟨v9, rfl, ho0, hb⟩; have n0_ := Aside0.mk (Kd.R_lower ho0 (below_size (by repeat (first | (with_reducible first | exact HB.out | apply below_alloc | apply pw_below_drewN | apply below_drew1) | exact HB.out)))); have n1_ := Aside0.mk (below_step (by repeat (first | (with_reducible first | exact HB.out | apply below_alloc | apply pw_below_drewN | apply below_drew1) | exact HB.out)) hb); clear HB; have HO9 := n0_; have HB := n1_; clear n0_ n1_ hb ho0; obtain ⟨Ao9, co9, eo9⟩ := Kd.R_slice HO9.out; subst eo9) | (go_at_call 57; (with_reducible refine (askDelR.calls (base := w.heap.size) (ok := fun _ => True) m y _ ?side1 C9.out.1).mono ?_); (case side1 => exact HO9.out); rintro e w13 ⟨v13, rfl, ho0, hb⟩; have n0_ := Aside0.mk ho0; have n1_ := Aside0.mk (HB.out.trans hb); clear HB HO9; have HO13 := n0_; have HB := n1_; clear n0_ n1_ hb ho0))
        go_ret2
        exact ⟨_, rfl, HO13.out, by repeat (first | (with_reducible first | exact HB.out | apply below_alloc | apply pw_below_drewN | apply below_drew1) | exact HB.out)⟩
      · rw [if_neg c9] at H
        exact absurd H (by simp)
  · rw [if_neg c4] at H
    have c4b0 : (t == 0) = false := beq_eq_false_iff_ne.mpr c4
    have c4b1 : (t != 0) = true := bne_iff_ne.mpr c4
    clear c4
    simp only [Option.some.injEq, Prod.mk.injEq] at H
    obtain ⟨rfl, rfl⟩ := H
    go_enter Try.func31, Try.ntmps31
    go_wp2_with (first | (go_at_call 27; (with_reducible refine (grant_Check.calls k _ _ l0 t _ ?side1 ?side2 A3.out).mono ?_); (case side1 => repeat (first | exact (Kd.C_below HR0.out HB.out) | (with_reducible refine Kd.C_alloc ?_ _) | (with_reducible refine Kd.C_drewN ?_ _) | (with_reducible refine Kd.C_drew ?_))); (case side2 => exact HC0.out); rintro e w10 ⟨rfl, hb⟩; have n1_ := Aside0.mk (below_step (by repeat (first | (with_reducible first | exact HB.out | apply below_alloc | apply pw_below_drewN | apply below_drew1) | exact HB.out)) hb); clear HB; have HB := n1_; clear n1_ hb))
    go_ret2
    exact ⟨_, rfl, Kd.R_nil _ _ _ _ _, by repeat (first | (with_reducible first | exact HB.out | apply below_alloc | apply pw_below_drewN | apply below_drew1) | exact HB.out)⟩

/-! ### accounts_Own: function 59 -/
def accounts_Own.f (k : Nat) (l0 : List (S59)) (a1 : Int) : Option (Int) := (accounts_is.f k l0 a1).bind fun t228 => (if t228 = true then ((accounts_own.f k l0).bind fun t229 => (if 0 ≤ a1 then (if a1 < (t229.length : Int) then (some (rd t229 a1)) else (none)) else (none))) else (some (-1)))
theorem accounts_Own.mono : ∀ a0 a1 k, LeO (accounts_Own.f k a0 a1) (accounts_Own.f (k + 1) a0 a1) := by
  intro a0 a1 k
  unfold accounts_Own.f
  repeat' first
      | (with_reducible exact accounts_is.mono _ _ _)
      | (with_reducible exact accounts_own.mono _ _)
      | (with_reducible exact LeO.refl _)
      | (with_reducible exact LeO.none _)
      | (with_reducible refine LeO.ite ?_ ?_)
      | (with_reducible refine LeO.bind ?_ (fun _ => ?_))
      | exact accounts_is.mono _ _ _
      | exact accounts_own.mono _ _
      | exact LeO.none _
      | refine LeO.ite ?_ ?_
      | refine LeO.bind ?_ (fun _ => ?_)
set_option maxHeartbeats 8000000 in
set_option maxRecDepth 100000 in
theorem accounts_Own.calls (k : Nat) (A0 : Option Addr) (c0 : Nat) (l0 : List (S59)) (a1 : Int) (r : Int) (w : World) (hr0 : Kd.C k59 w A0 l0.length l0) (hc0 : l0.length ≤ c0) (h : accounts_Own.f k l0 a1 = some r) :
    Calls Try.prog 59 #[.slice A0 l0.length c0, .int .i64 a1] w fun e w' => e = .returned (.int .i64 r) ∧ Below w.heap.size w w' := by
  have HR0 := Aside0.mk hr0
  have HC0 := Aside0.mk hc0
  clear hr0 hc0
  have HB := Aside0.mk (Below.refl w.heap.size w)
  have H : ((accounts_is.f k l0 a1).bind fun t228 => (if t228 = true then ((accounts_own.f k l0).bind fun t229 => (if 0 ≤ a1 then (if a1 < (t229.length : Int) then (some (rd t229 a1)) else (none)) else (none))) else (some (-1)))) = some r := h
  clear h
  replace H := Option.bind_eq_some_iff.mp H
  obtain ⟨t228, A30, H⟩ := H
  replace H : (if t228 = true then ((accounts_own.f k l0).bind fun t229 => (if 0 ≤ a1 then (if a1 < (t229.length : Int) then (some (rd t229 a1)) else (none)) else (none))) else (some (-1))) = some r := H
  have A3 := Aside0.mk A30
  clear A30
  by_cases c4 : t228 = true
  · subst c4
    have H1 : ((accounts_own.f k l0).bind fun t229 => (if 0 ≤ a1 then (if a1 < (t229.length : Int) then (some (rd t229 a1)) else (none)) else (none))) = some r := by rw [if_pos rfl] at H; exact H
    clear H
    have H := H1
    clear H1
    replace H := Option.bind_eq_some_iff.mp H
    obtain ⟨t229, A50, H⟩ := H
    replace H : (if 0 ≤ a1 then (if a1 < (t229.length : Int) then (some (rd t229 a1)) else (none)) else (none)) = some r := H
    have A5 := Aside0.mk A50
    clear A50
    by_cases c6 : 0 ≤ a1
    · rw [if_pos c6] at H
      have c6b0 : decide (0 ≤ a1) = true := decide_eq_true c6
      clear c6
      by_cases c7 : a1 < (t229.length : Int)
      · rw [if_pos c7] at H
        have c7b0 : decide (a1 < (t229.length : Int)) = true := decide_eq_true c7
        clear c7
        obtain rfl := Option.some.inj H
        go_enter Try.func59, Try.ntmps59
        go_wp2_with (first | ((with_reducible refine gate_callee (f := 62) rfl ?_); refine goesL_ (some 7) rfl rfl Try.func62 (by kernel_rfl) rfl #[.slice A0 l0.length c0, .int .i64 a1] rfl (by (try simp only [List.map_toArray, List.map_cons, List.map_nil]); first | done | rfl | (simp only [List.length_drop, List.length_take]; rfl)) ?_; (with_reducible refine (accounts_is.calls k _ _ l0 a1 true _ ?side1 ?side2 A3.out).mono ?_); (case side1 => repeat (first | exact HR0.out | (with_reducible refine Kd.C_alloc ?_ _) | (with_reducible refine Kd.C_drewN ?_ _) | (with_reducible refine Kd.C_drew ?_))); (case side2 => exact HC0.out); rintro e w8 ⟨rfl, hb⟩; refine ⟨_, rfl, ?_⟩; have n0_ := Aside0.mk (below_step (by repeat (first | (with_reducible first | exact HB.out | apply below_alloc | apply pw_below_drewN | apply below_drew1) | exact HB.out)) hb); clear HB; have HB := n0_; clear n0_; (try clear hb); (try clear hb2); (try clear hk); (try clear hi)) | ((with_reducible refine gate_callee (f := 53) rfl ?_); refine goesL_ (some 10) rfl rfl Try.func53 (by kernel_rfl) rfl #[.slice A0 l0.length c0] rfl (by (try simp only [List.map_toArray, List.map_cons, List.map_nil]); first | done | rfl | (simp only [List.length_drop, List.length_take]; rfl)) ?_; (with_reducible refine (accounts_own.calls k _ _ l0 t229 _ ?side1 ?side2 A5.out).mono ?_); (case side1 => repeat (first | exact (Kd.C_below HR0.out HB.out) | (with_reducible refine Kd.C_alloc ?_ _) | (with_reducible refine Kd.C_drewN ?_ _) | (with_reducible refine Kd.C_drew ?_))); (case side2 => exact HC0.out); rintro e w9 ⟨v230, rfl, ho0, hb⟩; refine ⟨_, rfl, ?_⟩; have n0_ := Aside0.mk (Kd.R_lower ho0 (below_size (by repeat (first | (with_reducible first | exact HB.out | apply below_alloc | apply pw_below_drewN | apply below_drew1) | exact HB.out)))); have n1_ := Aside0.mk (below_step (by repeat (first | (with_reducible first | exact HB.out | apply below_alloc | apply pw_below_drewN | apply below_drew1) | exact HB.out)) hb); clear HB; have HO231 := n0_; have HB := n1_; clear n0_ n1_; (try clear hb); (try clear hb2); (try clear hk); (try clear hi); (try clear ho0); obtain ⟨Ao10, co10, eo10⟩ := Kd.R_slice HO231.out; subst eo10; have p232 : 0 ≤ (a1 : Int) := of_decide_eq_true (by first | (with_reducible assumption) | assumption); have q232 : a1 < (t229.length : Int) := of_decide_eq_true (by first | (with_reducible assumption) | assumption); obtain ⟨ad232, e232, hx232_0⟩ := Kd.at_int (Kd.R_reads' HO231.out).2.2 a1 p232 q232; cases e232; replace p232 := eq_true p232; replace q232 := eq_true q232))
        go_ret
        exact ⟨by first | rfl | (simp [errW_none, errW_some] <;> rfl) | (simp [*, errW_none, errW_some] <;> rfl), by repeat (first | (with_reducible first | exact HB.out | apply below_alloc | apply pw_below_drewN | apply below_drew1) | exact HB.out)⟩
      · rw [if_neg c7] at H
        exact absurd H (by simp)
    · rw [if_neg c6] at H
      exact absurd H (by simp)
  · replace c4 := Bool.eq_false_iff.mpr c4
    subst c4
    have H1 : (some (-1)) = some r := by rw [if_neg (show ¬ (false = true) by decide)] at H; exact H
    clear H
    have H := H1
    clear H1
    obtain rfl := Option.some.inj H
    go_enter Try.func59, Try.ntmps59
    go_wp2_with (first | ((with_reducible refine gate_callee (f := 62) rfl ?_); refine goesL_ (some 7) rfl rfl Try.func62 (by kernel_rfl) rfl #[.slice A0 l0.length c0, .int .i64 a1] rfl (by (try simp only [List.map_toArray, List.map_cons, List.map_nil]); first | done | rfl | (simp only [List.length_drop, List.length_take]; rfl)) ?_; (with_reducible refine (accounts_is.calls k _ _ l0 a1 false _ ?side1 ?side2 A3.out).mono ?_); (case side1 => repeat (first | exact HR0.out | (with_reducible refine Kd.C_alloc ?_ _) | (with_reducible refine Kd.C_drewN ?_ _) | (with_reducible refine Kd.C_drew ?_))); (case side2 => exact HC0.out); rintro e w11 ⟨rfl, hb⟩; refine ⟨_, rfl, ?_⟩; have n0_ := Aside0.mk (below_step (by repeat (first | (with_reducible first | exact HB.out | apply below_alloc | apply pw_below_drewN | apply below_drew1) | exact HB.out)) hb); clear HB; have HB := n0_; clear n0_; (try clear hb); (try clear hb2); (try clear hk); (try clear hi)))
    go_ret
    exact ⟨by first | rfl | (simp [errW_none, errW_some] <;> rfl) | (simp [*, errW_none, errW_some] <;> rfl), by repeat (first | (with_reducible first | exact HB.out | apply below_alloc | apply pw_below_drewN | apply below_drew1) | exact HB.out)⟩

/-! ### accounts_Uncharge: function 34 -/
def accounts_Uncharge.f (k : Nat) (l0 : List (S59)) (a1 : Int) (a2 : Int) : Option ((List (S59)) × Int) := (accounts_request.f k l0 a1 a2).bind fun t233 => (if t233 = 0 then ((accounts_Own.f k l0 a1).bind fun t234 => (if a2 > t234 then (some (([] : List (S59)), 11)) else ((accounts_add.f k l0 a1 (wrap64 (-a2))).bind fun t235 => (some (t235, 0))))) else (some (([] : List (S59)), t233)))
theorem accounts_Uncharge.mono : ∀ a0 a1 a2 k, LeO (accounts_Uncharge.f k a0 a1 a2) (accounts_Uncharge.f (k + 1) a0 a1 a2) := by
  intro a0 a1 a2 k
  unfold accounts_Uncharge.f
  repeat' first
      | (with_reducible exact accounts_Own.mono _ _ _)
      | (with_reducible exact accounts_add.mono _ _ _ _)
      | (with_reducible exact accounts_request.mono _ _ _ _)
      | (with_reducible exact LeO.refl _)
      | (with_reducible exact LeO.none _)
      | (with_reducible refine LeO.ite ?_ ?_)
      | (with_reducible refine LeO.bind ?_ (fun _ => ?_))
      | exact accounts_Own.mono _ _ _
      | exact accounts_add.mono _ _ _ _
      | exact accounts_request.mono _ _ _ _
      | exact LeO.none _
      | refine LeO.ite ?_ ?_
      | refine LeO.bind ?_ (fun _ => ?_)
set_option maxHeartbeats 8000000 in
set_option maxRecDepth 100000 in
theorem accounts_Uncharge.calls (k : Nat) (A0 : Option Addr) (c0 : Nat) (l0 : List (S59)) (a1 : Int) (a2 : Int) (r1 : List (S59)) (r2 : Int) (w : World) (hr0 : Kd.C k59 w A0 l0.length l0) (hc0 : l0.length ≤ c0) (h : accounts_Uncharge.f k l0 a1 a2 = some (r1, r2)) :
    Calls Try.prog 34 #[.slice A0 l0.length c0, .int .i64 a1, .int .i64 a2] w fun e w' => ∃ v0_ : Value, e = .returned (.tuple #[v0_, .int .i64 r2]) ∧ Kd.R k59 59 w' w.heap.size (fun _ => True) v0_ r1 ∧ Below w.heap.size w w' := by
  have HR0 := Aside0.mk hr0
  have HC0 := Aside0.mk hc0
  clear hr0 hc0
  have HB := Aside0.mk (Below.refl w.heap.size w)
  have H : ((accounts_request.f k l0 a1 a2).bind fun t233 => (if t233 = 0 then ((accounts_Own.f k l0 a1).bind fun t234 => (if a2 > t234 then (some (([] : List (S59)), 11)) else ((accounts_add.f k l0 a1 (wrap64 (-a2))).bind fun t235 => (some (t235, 0))))) else (some (([] : List (S59)), t233)))) = some (r1, r2) := h
  clear h
  replace H := Option.bind_eq_some_iff.mp H
  obtain ⟨t233, A40, H⟩ := H
  replace H : (if t233 = 0 then ((accounts_Own.f k l0 a1).bind fun t234 => (if a2 > t234 then (some (([] : List (S59)), 11)) else ((accounts_add.f k l0 a1 (wrap64 (-a2))).bind fun t235 => (some (t235, 0))))) else (some (([] : List (S59)), t233))) = some (r1, r2) := H
  have A4 := Aside0.mk A40
  clear A40
  by_cases c5 : t233 = 0
  · rw [if_pos c5] at H
    have c5b0 : (t233 == 0) = true := beq_iff_eq.mpr c5
    have c5b1 : (t233 != 0) = false := bne_eq_false_iff_eq.mpr c5
    clear c5
    replace H := Option.bind_eq_some_iff.mp H
    obtain ⟨t234, A60, H⟩ := H
    replace H : (if a2 > t234 then (some (([] : List (S59)), 11)) else ((accounts_add.f k l0 a1 (wrap64 (-a2))).bind fun t235 => (some (t235, 0)))) = some (r1, r2) := H
    have A6 := Aside0.mk A60
    clear A60
    by_cases c7 : a2 > t234
    · rw [if_pos c7] at H
      have c7b0 : decide (t234 < a2) = true := decide_eq_true c7
      clear c7
      simp only [Option.some.injEq, Prod.mk.injEq] at H
      obtain ⟨rfl, rfl⟩ := H
      go_enter Try.func34, Try.ntmps34
      go_wp2_with (first | ((with_reducible refine gate_callee (f := 58) rfl ?_); refine goesL_ (some 12) rfl rfl Try.func58 (by kernel_rfl) rfl #[.slice A0 l0.length c0, .int .i64 a1, .int .i64 a2] rfl (by (try simp only [List.map_toArray, List.map_cons, List.map_nil]); first | done | rfl | (simp only [List.length_drop, List.length_take]; rfl)) ?_; (with_reducible refine (accounts_request.calls k _ _ l0 a1 a2 t233 _ ?side1 ?side2 A4.out).mono ?_); (case side1 => repeat (first | exact HR0.out | (with_reducible refine Kd.C_alloc ?_ _) | (with_reducible refine Kd.C_drewN ?_ _) | (with_reducible refine Kd.C_drew ?_))); (case side2 => exact HC0.out); rintro e w8 ⟨rfl, hb⟩; refine ⟨_, rfl, ?_⟩; have n0_ := Aside0.mk (below_step (by repeat (first | (with_reducible first | exact HB.out | apply below_alloc | apply pw_below_drewN | apply below_drew1) | exact HB.out)) hb); clear HB; have HB := n0_; clear n0_; (try clear hb); (try clear hb2); (try clear hk); (try clear hi)) | ((with_reducible refine gate_callee (f := 59) rfl ?_); refine goesL_ (some 19) rfl rfl Try.func59 (by kernel_rfl) rfl #[.slice A0 l0.length c0, .int .i64 a1] rfl (by (try simp only [List.map_toArray, List.map_cons, List.map_nil]); first | done | rfl | (simp only [List.length_drop, List.length_take]; rfl)) ?_; (with_reducible refine (accounts_Own.calls k _ _ l0 a1 t234 _ ?side1 ?side2 A6.out).mono ?_); (case side1 => repeat (first | exact (Kd.C_below HR0.out HB.out) | (with_reducible refine Kd.C_alloc ?_ _) | (with_reducible refine Kd.C_drewN ?_ _) | (with_reducible refine Kd.C_drew ?_))); (case side2 => exact HC0.out); rintro e w9 ⟨rfl, hb⟩; refine ⟨_, rfl, ?_⟩; have n0_ := Aside0.mk (below_step (by repeat (first | (with_reducible first | exact HB.out | apply below_alloc | apply pw_below_drewN | apply below_drew1) | exact HB.out)) hb); clear HB; have HB := n0_; clear n0_; (try clear hb); (try clear hb2); (try clear hk); (try clear hi)))
      go_ret2
      exact ⟨_, by first | rfl | (simp [errW_none, errW_some] <;> rfl) | (simp [*, errW_none, errW_some] <;> rfl), by first | exact Kd.R_nil _ _ _ _ _ | exact Kd.N_nil _ _ _ _ _ | exact Kd.V_nil _ _ _ _ _ | exact Kd.Q_nil _ _ _ _ _ | exact Kd.S_nil _ _ _ _ _, by repeat (first | (with_reducible first | exact HB.out | apply below_alloc | apply pw_below_drewN | apply below_drew1) | exact HB.out)⟩
    · rw [if_neg c7] at H
      have c7b0 : decide (t234 < a2) = false := decide_eq_false c7
      clear c7
      replace H := Option.bind_eq_some_iff.mp H
      obtain ⟨t235, A100, H⟩ := H
      replace H : (some (t235, 0)) = some (r1, r2) := H
      have A10 := Aside0.mk A100
      clear A100
      simp only [Option.some.injEq, Prod.mk.injEq] at H
      obtain ⟨rfl, rfl⟩ := H
      go_enter Try.func34, Try.ntmps34
      go_wp2_with (first | ((with_reducible refine gate_callee (f := 58) rfl ?_); refine goesL_ (some 12) rfl rfl Try.func58 (by kernel_rfl) rfl #[.slice A0 l0.length c0, .int .i64 a1, .int .i64 a2] rfl (by (try simp only [List.map_toArray, List.map_cons, List.map_nil]); first | done | rfl | (simp only [List.length_drop, List.length_take]; rfl)) ?_; (with_reducible refine (accounts_request.calls k _ _ l0 a1 a2 t233 _ ?side1 ?side2 A4.out).mono ?_); (case side1 => repeat (first | exact HR0.out | (with_reducible refine Kd.C_alloc ?_ _) | (with_reducible refine Kd.C_drewN ?_ _) | (with_reducible refine Kd.C_drew ?_))); (case side2 => exact HC0.out); rintro e w11 ⟨rfl, hb⟩; refine ⟨_, rfl, ?_⟩; have n0_ := Aside0.mk (below_step (by repeat (first | (with_reducible first | exact HB.out | apply below_alloc | apply pw_below_drewN | apply below_drew1) | exact HB.out)) hb); clear HB; have HB := n0_; clear n0_; (try clear hb); (try clear hb2); (try clear hk); (try clear hi)) | ((with_reducible refine gate_callee (f := 59) rfl ?_); refine goesL_ (some 19) rfl rfl Try.func59 (by kernel_rfl) rfl #[.slice A0 l0.length c0, .int .i64 a1] rfl (by (try simp only [List.map_toArray, List.map_cons, List.map_nil]); first | done | rfl | (simp only [List.length_drop, List.length_take]; rfl)) ?_; (with_reducible refine (accounts_Own.calls k _ _ l0 a1 t234 _ ?side1 ?side2 A6.out).mono ?_); (case side1 => repeat (first | exact (Kd.C_below HR0.out HB.out) | (with_reducible refine Kd.C_alloc ?_ _) | (with_reducible refine Kd.C_drewN ?_ _) | (with_reducible refine Kd.C_drew ?_))); (case side2 => exact HC0.out); rintro e w12 ⟨rfl, hb⟩; refine ⟨_, rfl, ?_⟩; have n0_ := Aside0.mk (below_step (by repeat (first | (with_reducible first | exact HB.out | apply below_alloc | apply pw_below_drewN | apply below_drew1) | exact HB.out)) hb); clear HB; have HB := n0_; clear n0_; (try clear hb); (try clear hb2); (try clear hk); (try clear hi)) | ((with_reducible refine gate_callee (f := 60) rfl ?_); refine goesL_ (some 25) rfl rfl Try.func60 (by kernel_rfl) rfl #[.slice A0 l0.length c0, .int .i64 a1, .int .i64 (wrap64 (-a2))] rfl (by (try simp only [List.map_toArray, List.map_cons, List.map_nil]); first | done | rfl | (simp only [List.length_drop, List.length_take]; rfl)) ?_; (with_reducible refine (accounts_add.calls k _ _ l0 a1 (wrap64 (-a2)) t235 _ ?side1 ?side2 A10.out).mono ?_); (case side1 => repeat (first | exact (Kd.C_below HR0.out HB.out) | (with_reducible refine Kd.C_alloc ?_ _) | (with_reducible refine Kd.C_drewN ?_ _) | (with_reducible refine Kd.C_drew ?_))); (case side2 => exact HC0.out); rintro e w13 ⟨v236, rfl, ho0, hb⟩; refine ⟨_, rfl, ?_⟩; have n0_ := Aside0.mk (Kd.R_lower ho0 (below_size (by repeat (first | (with_reducible first | exact HB.out | apply below_alloc | apply pw_below_drewN | apply below_drew1) | exact HB.out)))); have n1_ := Aside0.mk (below_step (by repeat (first | (with_reducible first | exact HB.out | apply below_alloc | apply pw_below_drewN | apply below_drew1) | exact HB.out)) hb); clear HB; have HO237 := n0_; have HB := n1_; clear n0_ n1_; (try clear hb); (try clear hb2); (try clear hk); (try clear hi); (try clear ho0)))
      go_ret2
      exact ⟨_, by first | rfl | (simp [errW_none, errW_some] <;> rfl) | (simp [*, errW_none, errW_some] <;> rfl), by (with_reducible repeat (first | apply Kd.R_alloc | apply Kd.R_drewN | apply Kd.R_drew)); exact HO237.out, by repeat (first | (with_reducible first | exact HB.out | apply below_alloc | apply pw_below_drewN | apply below_drew1) | exact HB.out)⟩
  · rw [if_neg c5] at H
    have c5b0 : (t233 == 0) = false := beq_eq_false_iff_ne.mpr c5
    have c5b1 : (t233 != 0) = true := bne_iff_ne.mpr c5
    simp only [Option.some.injEq, Prod.mk.injEq] at H
    obtain ⟨rfl, rfl⟩ := H
    go_enter Try.func34, Try.ntmps34
    go_wp2_with (first | ((with_reducible refine gate_callee (f := 58) rfl ?_); refine goesL_ (some 12) rfl rfl Try.func58 (by kernel_rfl) rfl #[.slice A0 l0.length c0, .int .i64 a1, .int .i64 a2] rfl (by (try simp only [List.map_toArray, List.map_cons, List.map_nil]); first | done | rfl | (simp only [List.length_drop, List.length_take]; rfl)) ?_; (with_reducible refine (accounts_request.calls k _ _ l0 a1 a2 t233 _ ?side1 ?side2 A4.out).mono ?_); (case side1 => repeat (first | exact HR0.out | (with_reducible refine Kd.C_alloc ?_ _) | (with_reducible refine Kd.C_drewN ?_ _) | (with_reducible refine Kd.C_drew ?_))); (case side2 => exact HC0.out); rintro e w14 ⟨rfl, hb⟩; refine ⟨_, rfl, ?_⟩; have n0_ := Aside0.mk (below_step (by repeat (first | (with_reducible first | exact HB.out | apply below_alloc | apply pw_below_drewN | apply below_drew1) | exact HB.out)) hb); clear HB; have HB := n0_; clear n0_; (try clear hb); (try clear hb2); (try clear hk); (try clear hi)))
    go_ret2
    exact ⟨_, by first | rfl | (simp [errW_none, errW_some] <;> rfl) | (simp [*, errW_none, errW_some] <;> rfl), by first | exact Kd.R_nil _ _ _ _ _ | exact Kd.N_nil _ _ _ _ _ | exact Kd.V_nil _ _ _ _ _ | exact Kd.Q_nil _ _ _ _ _ | exact Kd.S_nil _ _ _ _ _, by repeat (first | (with_reducible first | exact HB.out | apply below_alloc | apply pw_below_drewN | apply below_drew1) | exact HB.out)⟩

-- NOT PRINTED: function 35 (estoverstop_bQueue_right)

-- NOT PRINTED: function 13 (estoverstop_bQueue_step)

-- NOT PRINTED: function 11 (estoverstop_bServes)

/-! ### grant_Hopeless: function 14 -/
mutual
def grant_Hopeless.j0 : Nat → List (S59) → Int → Int → Bool → Int → Int → Int → Int → Option (Bool)
  | 0, _, _, _, _, _, _, _, _ => none
  | k + 1, x1, x2, x3, x26, x254000, x254001, x254002, x254003 => if x26 = true then (some true) else ((accounts_Path.f k x1 x254001).bind fun t256 => (grant_Hopeless.l0 k x1 x2 x3 (wrap64 (x254002 + x254003)) t256 (t256.length : Int) 0 x254000 x254001 x254002 x254003))
def grant_Hopeless.l0 : Nat → List (S59) → Int → Int → Int → List Int → Int → Int → Int → Int → Int → Int → Option (Bool)
  | 0, _, _, _, _, _, _, _, _, _, _, _ => none
  | k + 1, x1, x2, x3, x9, x35, x36, x37, x254000, x254001, x254002, x254003 => if x37 < x36 then (if 0 ≤ x37 then (if x37 < (x35.length : Int) then (if 0 ≤ (rd x35 x37) then (if (rd x35 x37) < (x1.length : Int) then (if x9 > ((rd_T59 x1 (rd x35 x37)).f4) then (some true) else (grant_Hopeless.l0 k x1 x2 x3 x9 x35 x36 (wrap64 (x37 + 1)) x254000 x254001 x254002 x254003)) else (none)) else (none)) else (none)) else (none)) else (if x254002 > x2 then (some true) else (some (decide (x9 > x3))))
end
def grant_Hopeless.f (k : Nat) (a0_0 : Int) (a0_1 : Int) (a0_2 : Int) (a0_3 : Int) (l1 : List (S59)) (a2 : Int) (a3 : Int) : Option (Bool) := (grant_valid.f a0_0 a0_1 a0_2 a0_3).bind fun t254 => (if t254 = true then ((accounts_Check.f k l1).bind fun t255 => (if t255 = 0 then (grant_Hopeless.j0 k l1 a2 a3 (decide (a0_1 ≥ (l1.length : Int))) a0_0 a0_1 a0_2 a0_3) else (grant_Hopeless.j0 k l1 a2 a3 true a0_0 a0_1 a0_2 a0_3))) else (grant_Hopeless.j0 k l1 a2 a3 true a0_0 a0_1 a0_2 a0_3))
theorem grant_Hopeless.mono_l : ∀ k, (∀ y0 y1 y2 y3 y4 y5 y6 y7, LeO (grant_Hopeless.j0 k y0 y1 y2 y3 y4 y5 y6 y7) (grant_Hopeless.j0 (k + 1) y0 y1 y2 y3 y4 y5 y6 y7)) ∧ (∀ y0 y1 y2 y3 y4 y5 y6 y7 y8 y9 y10, LeO (grant_Hopeless.l0 k y0 y1 y2 y3 y4 y5 y6 y7 y8 y9 y10) (grant_Hopeless.l0 (k + 1) y0 y1 y2 y3 y4 y5 y6 y7 y8 y9 y10))
  | 0 => ⟨fun _ _ _ _ _ _ _ _ r h => by simp [grant_Hopeless.j0] at h, fun _ _ _ _ _ _ _ _ _ _ _ r h => by simp [grant_Hopeless.l0] at h⟩
  | k + 1 => by
    obtain ⟨ih0, ih1⟩ := grant_Hopeless.mono_l k
    refine ⟨?_, ?_⟩
    · intro y0 y1 y2 y3 y4 y5 y6 y7
      unfold grant_Hopeless.j0
      repeat' first
      | (with_reducible exact ih0 _ _ _ _ _ _ _ _)
      | (with_reducible exact ih1 _ _ _ _ _ _ _ _ _ _ _)
      | (with_reducible exact accounts_Check.mono _ _)
      | (with_reducible exact accounts_Path.mono _ _ _)
      | (with_reducible exact LeO.refl _)
      | (with_reducible exact LeO.none _)
      | (with_reducible refine LeO.ite ?_ ?_)
      | (with_reducible refine LeO.bind ?_ (fun _ => ?_))
      | exact ih0 _ _ _ _ _ _ _ _
      | exact ih1 _ _ _ _ _ _ _ _ _ _ _
      | exact accounts_Check.mono _ _
      | exact accounts_Path.mono _ _ _
      | exact LeO.none _
      | refine LeO.ite ?_ ?_
      | refine LeO.bind ?_ (fun _ => ?_)
    · intro y0 y1 y2 y3 y4 y5 y6 y7 y8 y9 y10
      unfold grant_Hopeless.l0
      repeat' first
      | (with_reducible exact ih0 _ _ _ _ _ _ _ _)
      | (with_reducible exact ih1 _ _ _ _ _ _ _ _ _ _ _)
      | (with_reducible exact accounts_Check.mono _ _)
      | (with_reducible exact accounts_Path.mono _ _ _)
      | (with_reducible exact LeO.refl _)
      | (with_reducible exact LeO.none _)
      | (with_reducible refine LeO.ite ?_ ?_)
      | (with_reducible refine LeO.bind ?_ (fun _ => ?_))
      | exact ih0 _ _ _ _ _ _ _ _
      | exact ih1 _ _ _ _ _ _ _ _ _ _ _
      | exact accounts_Check.mono _ _
      | exact accounts_Path.mono _ _ _
      | exact LeO.none _
      | refine LeO.ite ?_ ?_
      | refine LeO.bind ?_ (fun _ => ?_)
theorem grant_Hopeless.mono : ∀ a0 a1 a2 a3 a4 a5 a6 k, LeO (grant_Hopeless.f k a0 a1 a2 a3 a4 a5 a6) (grant_Hopeless.f (k + 1) a0 a1 a2 a3 a4 a5 a6) := by
  intro a0 a1 a2 a3 a4 a5 a6 k
  obtain ⟨ih0, ih1⟩ := grant_Hopeless.mono_l k
  unfold grant_Hopeless.f
  repeat' first
      | (with_reducible exact ih0 _ _ _ _ _ _ _ _)
      | (with_reducible exact ih1 _ _ _ _ _ _ _ _ _ _ _)
      | (with_reducible exact accounts_Check.mono _ _)
      | (with_reducible exact accounts_Path.mono _ _ _)
      | (with_reducible exact LeO.refl _)
      | (with_reducible exact LeO.none _)
      | (with_reducible refine LeO.ite ?_ ?_)
      | (with_reducible refine LeO.bind ?_ (fun _ => ?_))
      | exact ih0 _ _ _ _ _ _ _ _
      | exact ih1 _ _ _ _ _ _ _ _ _ _ _
      | exact accounts_Check.mono _ _
      | exact accounts_Path.mono _ _ _
      | exact LeO.none _
      | refine LeO.ite ?_ ?_
      | refine LeO.bind ?_ (fun _ => ?_)
set_option maxHeartbeats 8000000 in
set_option maxRecDepth 100000 in
theorem grant_Hopeless.calls (k : Nat) (a0_0 : Int) (a0_1 : Int) (a0_2 : Int) (a0_3 : Int) (A1 : Option Addr) (c1 : Nat) (l1 : List (S59)) (a2 : Int) (a3 : Int) (r : Bool) (w : World) (hr1 : Kd.C k59 w A1 l1.length l1) (hc1 : l1.length ≤ c1) (h : grant_Hopeless.f k a0_0 a0_1 a0_2 a0_3 l1 a2 a3 = some r) :
    Calls Try.prog 14 #[.agg #[.int .i64 a0_0, .int .i64 a0_1, .int .i64 a0_2, .int .i64 a0_3], .slice A1 l1.length c1, .int .i64 a2, .int .i64 a3] w fun e w' => e = .returned (.bool r) ∧ Below w.heap.size w w' := by
  have hu37 := Try.underlying37
  have HR1 := Aside0.mk hr1
  have HC1 := Aside0.mk hc1
  clear hr1 hc1
  have HB := Aside0.mk (Below.refl w.heap.size w)
  have H : ((grant_valid.f a0_0 a0_1 a0_2 a0_3).bind fun t254 => (if t254 = true then ((accounts_Check.f k l1).bind fun t255 => (if t255 = 0 then (grant_Hopeless.j0 k l1 a2 a3 (decide (a0_1 ≥ (l1.length : Int))) a0_0 a0_1 a0_2 a0_3) else (grant_Hopeless.j0 k l1 a2 a3 true a0_0 a0_1 a0_2 a0_3))) else (grant_Hopeless.j0 k l1 a2 a3 true a0_0 a0_1 a0_2 a0_3))) = some r := h
  clear h
  have HC5 := Aside0.mk H
  clear H
  go_enter Try.func14, Try.ntmps14
  go_upto_region 1 with (first | ((with_reducible refine gate_dst (N := 4) rfl ?_); (try (refine gate_guard (by rfl) ?_; dsimp only)); refine box_event ?hg (N := 4) ?hd (cs := #[.int .i64 a0_0, .int .i64 a0_1, .int .i64 a0_2, .int .i64 a0_3]) (t := 37) ?hr ?_; (case hd => rfl); (case hg => rfl); (case hr => first | (go_simp; done) | (go_simp; rfl)); intro gb253 hg w6 hbox hb; have n0_ := Aside0.mk (below_step (by repeat (first | (with_reducible first | exact HB.out | apply below_alloc | apply pw_below_drewN | apply below_drew1) | exact HB.out)) hb); have n1_ := Aside0.mk (hbox); have n2_ := Aside0.mk ((by rw [hg]; exact (below_size (by repeat (first | (with_reducible first | exact HB.out | apply below_alloc | apply pw_below_drewN | apply below_drew1) | exact HB.out))) : w.heap.size ≤ gb253)); have n3_ := Aside0.mk ((by rw [hg]; exact (below_size (by repeat (first | (with_reducible first | exact HB.out | apply below_alloc | apply pw_below_drewN | apply below_drew1) | exact HB.out))) : w.heap.size ≤ gb253)); clear HB; have HB := n0_; have BK253 := n1_; have GW253 := n2_; have GE253 := n3_; clear n0_ n1_ n2_ n3_; clear hb hbox hg))
  (try simp only [Act.put, List.setIfInBounds_toArray, List.set_cons_zero, List.set_cons_succ])
  go_cut [26] (fun v26 wc => ∃ (kq : Nat) (x26_4 : Bool), v26 = .bool x26_4 ∧ Aside0 (grant_Hopeless.j0 kq l1 a2 a3 x26_4 a0_0 a0_1 a0_2 a0_3 = some r) ∧ Aside0 (kq ≤ k) ∧ Aside0 (wc.heap[gb253]? = some (.cells #[.int .i64 a0_0, .int .i64 a0_1, .int .i64 a0_2, .int .i64 a0_3] 37 (0, 0))) ∧ Aside0 (Below w.heap.size w wc))
  case first =>
    have H := HC5.out
    clear HC5
    replace H := Option.bind_eq_some_iff.mp H
    obtain ⟨t254, A70, H⟩ := H
    replace H : (if t254 = true then ((accounts_Check.f k l1).bind fun t255 => (if t255 = 0 then (grant_Hopeless.j0 k l1 a2 a3 (decide (a0_1 ≥ (l1.length : Int))) a0_0 a0_1 a0_2 a0_3) else (grant_Hopeless.j0 k l1 a2 a3 true a0_0 a0_1 a0_2 a0_3))) else (grant_Hopeless.j0 k l1 a2 a3 true a0_0 a0_1 a0_2 a0_3)) = some r := H
    have A7 := Aside0.mk A70
    clear A70
    by_cases c8 : t254 = true
    · subst c8
      have H1 : ((accounts_Check.f k l1).bind fun t255 => (if t255 = 0 then (grant_Hopeless.j0 k l1 a2 a3 (decide (a0_1 ≥ (l1.length : Int))) a0_0 a0_1 a0_2 a0_3) else (grant_Hopeless.j0 k l1 a2 a3 true a0_0 a0_1 a0_2 a0_3))) = some r := by rw [if_pos rfl] at H; exact H
      clear H
      have H := H1
      clear H1
      replace H := Option.bind_eq_some_iff.mp H
      obtain ⟨t255, A90, H⟩ := H
      replace H : (if t255 = 0 then (grant_Hopeless.j0 k l1 a2 a3 (decide (a0_1 ≥ (l1.length : Int))) a0_0 a0_1 a0_2 a0_3) else (grant_Hopeless.j0 k l1 a2 a3 true a0_0 a0_1 a0_2 a0_3)) = some r := H
      have A9 := Aside0.mk A90
      clear A90
      by_cases c10 : t255 = 0
      · rw [if_pos c10] at H
        have c10b0 : (t255 == 0) = true := beq_iff_eq.mpr c10
        have c10b1 : (t255 != 0) = false := bne_eq_false_iff_eq.mpr c10
        clear c10
        (first | rw [c10b0] | (simp only [i64_w, i32_w]; rw [c10b0]) | skip)
        have H' := Aside0.mk H
        clear H
        have hcz11_0 : w6.cell? ⟨gb253, 0, none⟩ = some (.int .i64 a0_0) := (blk_cell BK253.out 0).trans rfl
        have hcz11_1 : w6.cell? ⟨gb253, 1, none⟩ = some (.int .i64 a0_1) := (blk_cell BK253.out 1).trans rfl
        have hcz11_2 : w6.cell? ⟨gb253, 2, none⟩ = some (.int .i64 a0_2) := (blk_cell BK253.out 2).trans rfl
        have hcz11_3 : w6.cell? ⟨gb253, 3, none⟩ = some (.int .i64 a0_3) := (blk_cell BK253.out 3).trans rfl
        have hfz11_0 := blk_frozen BK253.out 0
        have hfz11_1 := blk_frozen BK253.out 1
        have hfz11_2 := blk_frozen BK253.out 2
        have hfz11_3 := blk_frozen BK253.out 3
        go_wp2_with (first | ((with_reducible refine gate_callee (f := 36) rfl ?_); refine goesL_ (some 13) rfl rfl Try.func36 (by kernel_rfl) rfl #[.agg #[.int .i64 a0_0, .int .i64 a0_1, .int .i64 a0_2, .int .i64 a0_3]] rfl (by (try simp only [List.map_toArray, List.map_cons, List.map_nil]); first | done | rfl | (simp only [List.length_drop, List.length_take]; rfl)) ?_; (with_reducible refine (grant_valid.calls a0_0 a0_1 a0_2 a0_3 true _ A7.out).mono ?_); rintro e w12 ⟨rfl, hb⟩; refine ⟨_, rfl, ?_⟩; have n0_ := Aside0.mk (blk_below (g := gb253) (o := .cells #[.int .i64 a0_0, .int .i64 a0_1, .int .i64 a0_2, .int .i64 a0_3] 37 (0, 0)) (by (with_reducible repeat (first | refine blk_drewN ?_ _ | refine blk_drew ?_ | refine blk_alloc ?_ _)); exact BK253.out) hb); have n1_ := Aside0.mk (below_step (by repeat (first | (with_reducible first | exact HB.out | apply below_alloc | apply pw_below_drewN | apply below_drew1 | refine below_set ?_ GE253.out) | exact HB.out)) hb); clear BK253; clear HB; have BK253 := n0_; have HB := n1_; clear n0_ n1_; (try clear hb); (try clear hb2); (try clear hk); (try clear hi)) | (go_at_call 25; (with_reducible refine (accounts_Check.calls k _ _ l1 t255 _ ?side1 ?side2 A9.out).mono ?_); (case side1 => repeat (first | exact (Kd.C_below HR1.out HB.out) | (with_reducible refine Kd.C_alloc ?_ _) | (with_reducible refine Kd.C_drewN ?_ _) | (with_reducible refine Kd.C_drew ?_))); (case side2 => exact HC1.out); rintro e w13 ⟨rfl, hb⟩; have n0_ := Aside0.mk (blk_below (g := gb253) (o := .cells #[.int .i64 a0_0, .int .i64 a0_1, .int .i64 a0_2, .int .i64 a0_3] 37 (0, 0)) (by (with_reducible repeat (first | refine blk_drewN ?_ _ | refine blk_drew ?_ | refine blk_alloc ?_ _)); exact BK253.out) hb); have n1_ := Aside0.mk (below_step (by repeat (first | (with_reducible first | exact HB.out | apply below_alloc | apply pw_below_drewN | apply below_drew1 | refine below_set ?_ GE253.out) | exact HB.out)) hb); clear BK253; clear HB; have BK253 := n0_; have HB := n1_; clear n0_ n1_; (try clear hb); (try clear hb2); (try clear hk); (try clear hi); have hcz14_0 : w13.cell? ⟨gb253, 0, none⟩ = some (.int .i64 a0_0) := (blk_cell BK253.out 0).trans rfl; have hcz14_1 : w13.cell? ⟨gb253, 1, none⟩ = some (.int .i64 a0_1) := (blk_cell BK253.out 1).trans rfl; have hcz14_2 : w13.cell? ⟨gb253, 2, none⟩ = some (.int .i64 a0_2) := (blk_cell BK253.out 2).trans rfl; have hcz14_3 : w13.cell? ⟨gb253, 3, none⟩ = some (.int .i64 a0_3) := (blk_cell BK253.out 3).trans rfl; have hfz14_0 := blk_frozen BK253.out 0; have hfz14_1 := blk_frozen BK253.out 1; have hfz14_2 := blk_frozen BK253.out 2; have hfz14_3 := blk_frozen BK253.out 3))
        go_meet
        case rel => exact ⟨_, (decide (a0_1 ≥ (l1.length : Int))), (by first | rfl | (simp; done) | (simp [*]; done)), H', ⟨by first | omega | exact Nat.le_refl _⟩, ⟨by (with_reducible repeat (first | refine blk_drewN ?_ _ | refine blk_drew ?_ | refine blk_alloc ?_ _)); exact BK253.out⟩, ⟨by repeat (first | (with_reducible first | exact HB.out | apply below_alloc | apply pw_below_drewN | apply below_drew1 | refine below_set ?_ GE253.out) | exact HB.out)⟩⟩
      · rw [if_neg c10] at H
        have c10b0 : (t255 == 0) = false := beq_eq_false_iff_ne.mpr c10
        have c10b1 : (t255 != 0) = true := bne_iff_ne.mpr c10
        (first | rw [c10b0] | (simp only [i64_w, i32_w]; rw [c10b0]) | skip)
        have H' := Aside0.mk H
        clear H
        have hcz15_0 : w6.cell? ⟨gb253, 0, none⟩ = some (.int .i64 a0_0) := (blk_cell BK253.out 0).trans rfl
        have hcz15_1 : w6.cell? ⟨gb253, 1, none⟩ = some (.int .i64 a0_1) := (blk_cell BK253.out 1).trans rfl
        have hcz15_2 : w6.cell? ⟨gb253, 2, none⟩ = some (.int .i64 a0_2) := (blk_cell BK253.out 2).trans rfl
        have hcz15_3 : w6.cell? ⟨gb253, 3, none⟩ = some (.int .i64 a0_3) := (blk_cell BK253.out 3).trans rfl
        have hfz15_0 := blk_frozen BK253.out 0
        have hfz15_1 := blk_frozen BK253.out 1
        have hfz15_2 := blk_frozen BK253.out 2
        have hfz15_3 := blk_frozen BK253.out 3
        go_wp2_with (first | ((with_reducible refine gate_callee (f := 36) rfl ?_); refine goesL_ (some 13) rfl rfl Try.func36 (by kernel_rfl) rfl #[.agg #[.int .i64 a0_0, .int .i64 a0_1, .int .i64 a0_2, .int .i64 a0_3]] rfl (by (try simp only [List.map_toArray, List.map_cons, List.map_nil]); first | done | rfl | (simp only [List.length_drop, List.length_take]; rfl)) ?_; (with_reducible refine (grant_valid.calls a0_0 a0_1 a0_2 a0_3 true _ A7.out).mono ?_); rintro e w16 ⟨rfl, hb⟩; refine ⟨_, rfl, ?_⟩; have n0_ := Aside0.mk (blk_below (g := gb253) (o := .cells #[.int .i64 a0_0, .int .i64 a0_1, .int .i64 a0_2, .int .i64 a0_3] 37 (0, 0)) (by (with_reducible repeat (first | refine blk_drewN ?_ _ | refine blk_drew ?_ | refine blk_alloc ?_ _)); exact BK253.out) hb); have n1_ := Aside0.mk (below_step (by repeat (first | (with_reducible first | exact HB.out | apply below_alloc | apply pw_below_drewN | apply below_drew1 | refine below_set ?_ GE253.out) | exact HB.out)) hb); clear BK253; clear HB; have BK253 := n0_; have HB := n1_; clear n0_ n1_; (try clear hb); (try clear hb2); (try clear hk); (try clear hi)) | (go_at_call 25; (with_reducible refine (accounts_Check.calls k _ _ l1 t255 _ ?side1 ?side2 A9.out).mono ?_); (case side1 => repeat (first | exact (Kd.C_below HR1.out HB.out) | (with_reducible refine Kd.C_alloc ?_ _) | (with_reducible refine Kd.C_drewN ?_ _) | (with_reducible refine Kd.C_drew ?_))); (case side2 => exact HC1.out); rintro e w17 ⟨rfl, hb⟩; have n0_ := Aside0.mk (blk_below (g := gb253) (o := .cells #[.int .i64 a0_0, .int .i64 a0_1, .int .i64 a0_2, .int .i64 a0_3] 37 (0, 0)) (by (with_reducible repeat (first | refine blk_drewN ?_ _ | refine blk_drew ?_ | refine blk_alloc ?_ _)); exact BK253.out) hb); have n1_ := Aside0.mk (below_step (by repeat (first | (with_reducible first | exact HB.out | apply below_alloc | apply pw_below_drewN | apply below_drew1 | refine below_set ?_ GE253.out) | exact HB.out)) hb); clear BK253; clear HB; have BK253 := n0_; have HB := n1_; clear n0_ n1_; (try clear hb); (try clear hb2); (try clear hk); (try clear hi)))
        go_meet
        case rel => exact ⟨_, (true), (by first | rfl | (simp; done) | (simp [*]; done)), H', ⟨by first | omega | exact Nat.le_refl _⟩, ⟨by (with_reducible repeat (first | refine blk_drewN ?_ _ | refine blk_drew ?_ | refine blk_alloc ?_ _)); exact BK253.out⟩, ⟨by repeat (first | (with_reducible first | exact HB.out | apply below_alloc | apply pw_below_drewN | apply below_drew1 | refine below_set ?_ GE253.out) | exact HB.out)⟩⟩
    · replace c8 := Bool.eq_false_iff.mpr c8
      subst c8
      have H1 : (grant_Hopeless.j0 k l1 a2 a3 true a0_0 a0_1 a0_2 a0_3) = some r := by rw [if_neg (show ¬ (false = true) by decide)] at H; exact H
      clear H
      have H := H1
      clear H1
      have H' := Aside0.mk H
      clear H
      have hcz18_0 : w6.cell? ⟨gb253, 0, none⟩ = some (.int .i64 a0_0) := (blk_cell BK253.out 0).trans rfl
      have hcz18_1 : w6.cell? ⟨gb253, 1, none⟩ = some (.int .i64 a0_1) := (blk_cell BK253.out 1).trans rfl
      have hcz18_2 : w6.cell? ⟨gb253, 2, none⟩ = some (.int .i64 a0_2) := (blk_cell BK253.out 2).trans rfl
      have hcz18_3 : w6.cell? ⟨gb253, 3, none⟩ = some (.int .i64 a0_3) := (blk_cell BK253.out 3).trans rfl
      have hfz18_0 := blk_frozen BK253.out 0
      have hfz18_1 := blk_frozen BK253.out 1
      have hfz18_2 := blk_frozen BK253.out 2
      have hfz18_3 := blk_frozen BK253.out 3
      go_wp2_with (first | ((with_reducible refine gate_callee (f := 36) rfl ?_); refine goesL_ (some 13) rfl rfl Try.func36 (by kernel_rfl) rfl #[.agg #[.int .i64 a0_0, .int .i64 a0_1, .int .i64 a0_2, .int .i64 a0_3]] rfl (by (try simp only [List.map_toArray, List.map_cons, List.map_nil]); first | done | rfl | (simp only [List.length_drop, List.length_take]; rfl)) ?_; (with_reducible refine (grant_valid.calls a0_0 a0_1 a0_2 a0_3 false _ A7.out).mono ?_); rintro e w19 ⟨rfl, hb⟩; refine ⟨_, rfl, ?_⟩; have n0_ := Aside0.mk (blk_below (g := gb253) (o := .cells #[.int .i64 a0_0, .int .i64 a0_1, .int .i64 a0_2, .int .i64 a0_3] 37 (0, 0)) (by (with_reducible repeat (first | refine blk_drewN ?_ _ | refine blk_drew ?_ | refine blk_alloc ?_ _)); exact BK253.out) hb); have n1_ := Aside0.mk (below_step (by repeat (first | (with_reducible first | exact HB.out | apply below_alloc | apply pw_below_drewN | apply below_drew1 | refine below_set ?_ GE253.out) | exact HB.out)) hb); clear BK253; clear HB; have BK253 := n0_; have HB := n1_; clear n0_ n1_; (try clear hb); (try clear hb2); (try clear hk); (try clear hi)))
      go_meet
      case rel => exact ⟨_, (true), (by first | rfl | (simp; done) | (simp [*]; done)), H', ⟨by first | omega | exact Nat.le_refl _⟩, ⟨by (with_reducible repeat (first | refine blk_drewN ?_ _ | refine blk_drew ?_ | refine blk_alloc ?_ _)); exact BK253.out⟩, ⟨by repeat (first | (with_reducible first | exact HB.out | apply below_alloc | apply pw_below_drewN | apply below_drew1 | refine below_set ?_ GE253.out) | exact HB.out)⟩⟩
  case rest =>
    clear HC5
    try clear c1
    try clear p2
    try clear c3
    try clear c8
    try clear c10
    try clear c10b0
    try clear c10b1
    try clear c14
    try clear hcz11_0
    try clear hcz11_1
    try clear hcz11_2
    try clear hcz11_3
    try clear hcz14_0
    try clear hcz14_1
    try clear hcz14_2
    try clear hcz14_3
    try clear hcz15_0
    try clear hcz15_1
    try clear hcz15_2
    try clear hcz15_3
    try clear hcz18_0
    try clear hcz18_1
    try clear hcz18_2
    try clear hcz18_3
    try clear hfz11_0
    try clear hfz11_1
    try clear hfz11_2
    try clear hfz11_3
    try clear hfz14_0
    try clear hfz14_1
    try clear hfz14_2
    try clear hfz14_3
    try clear hfz15_0
    try clear hfz15_1
    try clear hfz15_2
    try clear hfz15_3
    try clear hfz18_0
    try clear hfz18_1
    try clear hfz18_2
    try clear hfz18_3
    obtain ⟨kq, x26_4, rfl, HA, HJ4, BK253, HB⟩ := hcut
    cases kq with
    | zero => exact absurd HA.out (by simp [grant_Hopeless.j0])
    | succ kj4 =>
      have H := HA.out
      clear HA
      simp only [grant_Hopeless.j0] at H
      by_cases c20 : x26_4 = true
      · subst c20
        have H1 : (some true) = some r := by rw [if_pos rfl] at H; exact H
        clear H
        have H := H1
        clear H1
        obtain rfl := Option.some.inj H
        go_wp2
        go_ret
        exact ⟨by first | rfl | (simp [errW_none, errW_some] <;> rfl) | (simp [*, errW_none, errW_some] <;> rfl), by repeat (first | (with_reducible first | exact HB.out | apply below_alloc | apply pw_below_drewN | apply below_drew1 | refine below_set ?_ GE253.out) | exact HB.out)⟩
      · replace c20 := Bool.eq_false_iff.mpr c20
        subst c20
        have H1 : ((accounts_Path.f kj4 l1 a0_1).bind fun t256 => (grant_Hopeless.l0 kj4 l1 a2 a3 (wrap64 (a0_2 + a0_3)) t256 (t256.length : Int) 0 a0_0 a0_1 a0_2 a0_3)) = some r := by rw [if_neg (show ¬ (false = true) by decide)] at H; exact H
        clear H
        have H := H1
        clear H1
        replace H := Option.bind_eq_some_iff.mp H
        obtain ⟨t256, A210, H⟩ := H
        replace H : (grant_Hopeless.l0 kj4 l1 a2 a3 (wrap64 (a0_2 + a0_3)) t256 (t256.length : Int) 0 a0_0 a0_1 a0_2 a0_3) = some r := H
        have A21 := Aside0.mk A210
        clear A210
        have H' := Aside0.mk H
        clear H
        have hcz22_0 : wc.cell? ⟨gb253, 0, none⟩ = some (.int .i64 a0_0) := (blk_cell BK253.out 0).trans rfl
        have hcz22_1 : wc.cell? ⟨gb253, 1, none⟩ = some (.int .i64 a0_1) := (blk_cell BK253.out 1).trans rfl
        have hcz22_2 : wc.cell? ⟨gb253, 2, none⟩ = some (.int .i64 a0_2) := (blk_cell BK253.out 2).trans rfl
        have hcz22_3 : wc.cell? ⟨gb253, 3, none⟩ = some (.int .i64 a0_3) := (blk_cell BK253.out 3).trans rfl
        have hfz22_0 := blk_frozen BK253.out 0
        have hfz22_1 := blk_frozen BK253.out 1
        have hfz22_2 := blk_frozen BK253.out 2
        have hfz22_3 := blk_frozen BK253.out 3
        go_wp2_with (first | ((with_reducible refine gate_callee (f := 37) rfl ?_); refine goesL_ (some 35) rfl rfl Try.func37 (by kernel_rfl) rfl #[.slice A1 l1.length c1, .int .i64 a0_1] rfl (by (try simp only [List.map_toArray, List.map_cons, List.map_nil]); first | done | rfl | (simp only [List.length_drop, List.length_take]; rfl)) ?_; (with_reducible refine (accounts_Path.calls kj4 _ _ l1 a0_1 t256 _ ?side1 ?side2 A21.out).mono ?_); (case side1 => repeat (first | exact (Kd.C_below HR1.out HB.out) | (with_reducible refine Kd.C_alloc ?_ _) | (with_reducible refine Kd.C_drewN ?_ _) | (with_reducible refine Kd.C_drew ?_))); (case side2 => exact HC1.out); rintro e w23 ⟨v257, rfl, ho0, hb⟩; refine ⟨_, rfl, ?_⟩; have n0_ := Aside0.mk (Kd.R_lower ho0 (below_size (by repeat (first | (with_reducible first | exact HB.out | apply below_alloc | apply pw_below_drewN | apply below_drew1 | refine below_set ?_ GE253.out) | exact HB.out)))); have n1_ := Aside0.mk (blk_below (g := gb253) (o := .cells #[.int .i64 a0_0, .int .i64 a0_1, .int .i64 a0_2, .int .i64 a0_3] 37 (0, 0)) (by (with_reducible repeat (first | refine blk_drewN ?_ _ | refine blk_drew ?_ | refine blk_alloc ?_ _)); exact BK253.out) hb); have n2_ := Aside0.mk (below_step (by repeat (first | (with_reducible first | exact HB.out | apply below_alloc | apply pw_below_drewN | apply below_drew1 | refine below_set ?_ GE253.out) | exact HB.out)) hb); clear BK253; clear HB; have HO258 := n0_; have BK253 := n1_; have HB := n2_; clear n0_ n1_ n2_; (try clear hb); (try clear hb2); (try clear hk); (try clear hi); (try clear ho0); obtain ⟨Ao24, co24, eo24⟩ := Kd.R_slice HO258.out; subst eo24))
        go_loopg [37] kj4 (fun kq v37 w' => ∃ (x37_2 : Int), v37 = .int .i64 x37_2 ∧ Aside0 (grant_Hopeless.l0 kq l1 a2 a3 (wrap64 (a0_2 + a0_3)) t256 (t256.length : Int) x37_2 a0_0 a0_1 a0_2 a0_3 = some r) ∧ Aside0 (kq ≤ kj4) ∧ Aside0 (Kd.R (Kd.int .i64) 3 w' w.heap.size (fun _ => True) (.slice Ao24 t256.length co24) t256) ∧ Aside0 (w'.heap[gb253]? = some (.cells #[.int .i64 a0_0, .int .i64 a0_1, .int .i64 a0_2, .int .i64 a0_3] 37 (0, 0))) ∧ Aside0 (Below w.heap.size w w'))
        case atStart => exact ⟨(0), (by first | rfl | (simp; done) | (simp [*]; done)), H', ⟨Nat.le_refl _⟩, ⟨by (with_reducible repeat (first | apply Kd.R_alloc | apply Kd.R_drewN | apply Kd.R_drew)); exact HO258.out⟩, ⟨by (with_reducible repeat (first | refine blk_drewN ?_ _ | refine blk_drew ?_ | refine blk_alloc ?_ _)); exact BK253.out⟩, ⟨by repeat (first | (with_reducible first | exact HB.out | apply below_alloc | apply pw_below_drewN | apply below_drew1 | refine below_set ?_ GE253.out) | exact HB.out)⟩⟩
        case round =>
          clear H'
          try clear c1
          try clear c2
          try clear p2
          try clear c3
          try clear p6
          try clear c8
          try clear c10
          try clear c10b0
          try clear c10b1
          try clear c14
          try clear c20
          try clear hcz11_0
          try clear hcz11_1
          try clear hcz11_2
          try clear hcz11_3
          try clear hcz14_0
          try clear hcz14_1
          try clear hcz14_2
          try clear hcz14_3
          try clear hcz15_0
          try clear hcz15_1
          try clear hcz15_2
          try clear hcz15_3
          try clear hcz18_0
          try clear hcz18_1
          try clear hcz18_2
          try clear hcz18_3
          try clear hcz22_0
          try clear hcz22_1
          try clear hcz22_2
          try clear hcz22_3
          try clear hfz11_0
          try clear hfz11_1
          try clear hfz11_2
          try clear hfz11_3
          try clear hfz14_0
          try clear hfz14_1
          try clear hfz14_2
          try clear hfz14_3
          try clear hfz15_0
          try clear hfz15_1
          try clear hfz15_2
          try clear hfz15_3
          try clear hfz18_0
          try clear hfz18_1
          try clear hfz18_2
          try clear hfz18_3
          try clear hfz22_0
          try clear hfz22_1
          try clear hfz22_2
          try clear hfz22_3
          try clear p2
          obtain ⟨x37_2, rfl, HA, HK2, HO_35, BK253, HB⟩ := hrel
          cases gk with
          | zero => exact absurd HA.out (by simp [grant_Hopeless.l0])
          | succ k2 =>
            have H := HA.out
            clear HA
            simp only [grant_Hopeless.l0] at H
            by_cases c25 : x37_2 < (t256.length : Int)
            · rw [if_pos c25] at H
              have c25b0 : decide (x37_2 < (t256.length : Int)) = true := decide_eq_true c25
              clear c25
              by_cases c26 : 0 ≤ x37_2
              · rw [if_pos c26] at H
                have c26b0 : decide (0 ≤ x37_2) = true := decide_eq_true c26
                clear c26
                by_cases c27 : x37_2 < (t256.length : Int)
                · rw [if_pos c27] at H
                  have c27b0 : decide (x37_2 < (t256.length : Int)) = true := decide_eq_true c27
                  clear c27
                  by_cases c28 : 0 ≤ (rd t256 x37_2)
                  · rw [if_pos c28] at H
                    have c28b0 : decide (0 ≤ (rd t256 x37_2)) = true := decide_eq_true c28
                    clear c28
                    by_cases c29 : (rd t256 x37_2) < (l1.length : Int)
                    · rw [if_pos c29] at H
                      have c29b0 : decide ((rd t256 x37_2) < (l1.length : Int)) = true := decide_eq_true c29
                      clear c29
                      by_cases c30 : (wrap64 (a0_2 + a0_3)) > ((rd_T59 l1 (rd t256 x37_2)).f4)
                      · rw [if_pos c30] at H
                        have c30b0 : decide (((rd_T59 l1 (rd t256 x37_2)).f4) < (wrap64 (a0_2 + a0_3))) = true := decide_eq_true c30
                        clear c30
                        obtain rfl := Option.some.inj H
                        have p259 : 0 ≤ (x37_2 : Int) := of_decide_eq_true (by first | (with_reducible assumption) | assumption)
                        have q259 : x37_2 < (t256.length : Int) := of_decide_eq_true (by first | (with_reducible assumption) | assumption)
                        obtain ⟨ad259, e259, hx259_0⟩ := Kd.at_int (Kd.R_reads' HO_35.out).2.2 x37_2 p259 q259
                        cases e259
                        replace p259 := eq_true p259
                        replace q259 := eq_true q259
                        have p260 : 0 ≤ ((rd t256 x37_2) : Int) := of_decide_eq_true (by first | (with_reducible assumption) | assumption)
                        have q260 : (rd t256 x37_2) < (l1.length : Int) := of_decide_eq_true (by first | (with_reducible assumption) | assumption)
                        obtain ⟨ad260, e260, hx260_0, hx260_1, hx260_2, hx260_3, hx260_4⟩ := at_T59 HR1.out (rd t256 x37_2) p260 q260
                        cases e260
                        replace hx260_0 := (HB.out.cell (World.block_lt_of_cell? w _ hx260_0)).trans hx260_0
                        replace hx260_1 := (HB.out.cell (World.block_lt_of_cell? w _ hx260_1)).trans hx260_1
                        replace hx260_2 := (HB.out.cell (World.block_lt_of_cell? w _ hx260_2)).trans hx260_2
                        replace hx260_3 := (HB.out.cell (World.block_lt_of_cell? w _ hx260_3)).trans hx260_3
                        replace hx260_4 := (HB.out.cell (World.block_lt_of_cell? w _ hx260_4)).trans hx260_4
                        replace p260 := eq_true p260
                        replace q260 := eq_true q260
                        go_wp2
                        go_ret
                        exact ⟨by first | rfl | (simp [errW_none, errW_some] <;> rfl) | (simp [*, errW_none, errW_some] <;> rfl), by repeat (first | (with_reducible first | exact HB.out | apply below_alloc | apply pw_below_drewN | apply below_drew1 | refine below_set ?_ GE253.out) | exact HB.out)⟩
                      · rw [if_neg c30] at H
                        have c30b0 : decide (((rd_T59 l1 (rd t256 x37_2)).f4) < (wrap64 (a0_2 + a0_3))) = false := decide_eq_false c30
                        clear c30
                        have H' := Aside0.mk H
                        clear H
                        have p259 : 0 ≤ (x37_2 : Int) := of_decide_eq_true (by first | (with_reducible assumption) | assumption)
                        have q259 : x37_2 < (t256.length : Int) := of_decide_eq_true (by first | (with_reducible assumption) | assumption)
                        obtain ⟨ad259, e259, hx259_0⟩ := Kd.at_int (Kd.R_reads' HO_35.out).2.2 x37_2 p259 q259
                        cases e259
                        replace p259 := eq_true p259
                        replace q259 := eq_true q259
                        have p260 : 0 ≤ ((rd t256 x37_2) : Int) := of_decide_eq_true (by first | (with_reducible assumption) | assumption)
                        have q260 : (rd t256 x37_2) < (l1.length : Int) := of_decide_eq_true (by first | (with_reducible assumption) | assumption)
                        obtain ⟨ad260, e260, hx260_0, hx260_1, hx260_2, hx260_3, hx260_4⟩ := at_T59 HR1.out (rd t256 x37_2) p260 q260
                        cases e260
                        replace hx260_0 := (HB.out.cell (World.block_lt_of_cell? w _ hx260_0)).trans hx260_0
                        replace hx260_1 := (HB.out.cell (World.block_lt_of_cell? w _ hx260_1)).trans hx260_1
                        replace hx260_2 := (HB.out.cell (World.block_lt_of_cell? w _ hx260_2)).trans hx260_2
                        replace hx260_3 := (HB.out.cell (World.block_lt_of_cell? w _ hx260_3)).trans hx260_3
                        replace hx260_4 := (HB.out.cell (World.block_lt_of_cell? w _ hx260_4)).trans hx260_4
                        replace p260 := eq_true p260
                        replace q260 := eq_true q260
                        go_wp2
                        go_roundg k2
                        case measure => have := HJ4.out; have := HK2.out; omega
                        case rel => exact ⟨(wrap64 (x37_2 + 1)), (by first | rfl | (simp; done) | (simp [*]; done)), H', ⟨by have := HJ4.out; have := HK2.out; omega⟩, ⟨by (with_reducible repeat (first | apply Kd.R_alloc | apply Kd.R_drewN | apply Kd.R_drew)); exact HO_35.out⟩, ⟨by (with_reducible repeat (first | refine blk_drewN ?_ _ | refine blk_drew ?_ | refine blk_alloc ?_ _)); exact BK253.out⟩, ⟨by repeat (first | (with_reducible first | exact HB.out | apply below_alloc | apply pw_below_drewN | apply below_drew1 | refine below_set ?_ GE253.out) | exact HB.out)⟩⟩
                    · rw [if_neg c29] at H
                      exact absurd H (by simp)
                  · rw [if_neg c28] at H
                    exact absurd H (by simp)
                · rw [if_neg c27] at H
                  exact absurd H (by simp)
              · rw [if_neg c26] at H
                exact absurd H (by simp)
            · rw [if_neg c25] at H
              have c25b0 : decide (x37_2 < (t256.length : Int)) = false := decide_eq_false c25
              clear c25
              by_cases c31 : a0_2 > a2
              · rw [if_pos c31] at H
                have c31b0 : decide (a2 < a0_2) = true := decide_eq_true c31
                clear c31
                obtain rfl := Option.some.inj H
                have hcz32_0 : wr.cell? ⟨gb253, 0, none⟩ = some (.int .i64 a0_0) := (blk_cell BK253.out 0).trans rfl
                have hcz32_1 : wr.cell? ⟨gb253, 1, none⟩ = some (.int .i64 a0_1) := (blk_cell BK253.out 1).trans rfl
                have hcz32_2 : wr.cell? ⟨gb253, 2, none⟩ = some (.int .i64 a0_2) := (blk_cell BK253.out 2).trans rfl
                have hcz32_3 : wr.cell? ⟨gb253, 3, none⟩ = some (.int .i64 a0_3) := (blk_cell BK253.out 3).trans rfl
                have hfz32_0 := blk_frozen BK253.out 0
                have hfz32_1 := blk_frozen BK253.out 1
                have hfz32_2 := blk_frozen BK253.out 2
                have hfz32_3 := blk_frozen BK253.out 3
                go_wp2
                go_ret
                exact ⟨by first | rfl | (simp [errW_none, errW_some] <;> rfl) | (simp [*, errW_none, errW_some] <;> rfl), by repeat (first | (with_reducible first | exact HB.out | apply below_alloc | apply pw_below_drewN | apply below_drew1 | refine below_set ?_ GE253.out) | exact HB.out)⟩
              · rw [if_neg c31] at H
                have c31b0 : decide (a2 < a0_2) = false := decide_eq_false c31
                clear c31
                obtain rfl := Option.some.inj H
                have hcz33_0 : wr.cell? ⟨gb253, 0, none⟩ = some (.int .i64 a0_0) := (blk_cell BK253.out 0).trans rfl
                have hcz33_1 : wr.cell? ⟨gb253, 1, none⟩ = some (.int .i64 a0_1) := (blk_cell BK253.out 1).trans rfl
                have hcz33_2 : wr.cell? ⟨gb253, 2, none⟩ = some (.int .i64 a0_2) := (blk_cell BK253.out 2).trans rfl
                have hcz33_3 : wr.cell? ⟨gb253, 3, none⟩ = some (.int .i64 a0_3) := (blk_cell BK253.out 3).trans rfl
                have hfz33_0 := blk_frozen BK253.out 0
                have hfz33_1 := blk_frozen BK253.out 1
                have hfz33_2 := blk_frozen BK253.out 2
                have hfz33_3 := blk_frozen BK253.out 3
                go_wp2
                go_ret
                exact ⟨by first | rfl | (simp [errW_none, errW_some] <;> rfl) | (simp [*, errW_none, errW_some] <;> rfl), by repeat (first | (with_reducible first | exact HB.out | apply below_alloc | apply pw_below_drewN | apply below_drew1 | refine below_set ?_ GE253.out) | exact HB.out)⟩

-- NOT PRINTED: function 3 (estoverstop_TopGrantsEnd)

end Go.Proofs.Ytimlodcdfekbhaa.PTopGrantsEnd
