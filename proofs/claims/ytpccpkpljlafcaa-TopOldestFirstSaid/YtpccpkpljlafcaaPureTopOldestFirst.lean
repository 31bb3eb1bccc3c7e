/- For every list of sketches, cleaning the oldest frame again and again meets the times at which pages became dirty in the order of writing, until no page is left; no condition. -/
import Derived.Test.YtpccpkpljlafcaaPTopOldestFirstx
import Derived.Test.YtpccpkpljlafcaaQTopOldestFirst
namespace Go.Proofs.Ytpccpkpljlafcaa.Pure
open Go.RowKit Go.Proofs.Ytpccpkpljlafcaa.PTopOldestFirst Go.Proofs.YtpccpkpljlafcaaW.PrintWords Go.Proofs.YtpccpkpljlafcaaW.PrintLast Go.Proofs.YtpccpkpljlafcaaW.PrintMore

theorem Ev.bindS {α β : Type} {g : Nat → Option α} {f : Nat → α → Option β} {a : α} {r : β} (h : Ev g a) (k : Ev (fun n => f n a) r) : Ev (fun n => (g n).bind fun x => f n x) r := Ev.bind h k
theorem Ev.some {α : Type} {g : Nat → Option α} {r : α} (h : ∀ k, g k = Option.some r) : Ev g r := Ev.congr h (Ev.now r)
theorem w64s {i n : Nat} (h : i < n) (hn : n ≤ 1000000) : wrap64 ((i : Int) + 1) = ((i + 1 : Nat) : Int) := by
  unfold wrap64
  omega
theorem wf_u8 {n : Int} (h : (Lit.int .u8 n).wf = true) : 0 ≤ n ∧ n ≤ 255 := by
  simp only [Lit.wf, Bool.and_eq_true, decide_eq_true_eq] at h
  exact ⟨h.1, h.2⟩
/-! ### Frames out of sketches, and the oldest of them -/
def fat (l : List S48) (i : Nat) : S48 := l.getD i z48
theorem rd_fat (l : List S48) (i : Nat) : rd_T48 l (i : Int) = fat l i := rfl
/-- A frame that can be cleaned. -/
def rdy (f : S48) : Prop := f.f0 = 4 ∧ f.f10 = true ∧ f.f1 = 0
instance (f : S48) : Decidable (rdy f) := by unfold rdy; infer_instance
/-- The oldest of the first i frames, or -1. -/
def old (l : List S48) : Nat → Int
  | 0 => -1
  | i + 1 => if rdy (fat l i) ∧ (old l i < 0 ∨ (fat l i).f9 < (fat l (old l i).toNat).f9) then (i : Int) else old l i
theorem old_lt (l : List S48) : ∀ i, -1 ≤ old l i ∧ old l i < (i : Int)
  | 0 => ⟨Int.le_refl _, by simp [old]⟩
  | i + 1 => by
    have ih := old_lt l i
    unfold old
    split <;> omega
theorem prog_oldest (l : List S48) (hn : l.length ≤ 1000) : Ev (fun k => throttle_Oldest.f k l) (old l l.length) := by
  have key : ∀ d i, i + d = l.length → Ev (fun k => throttle_Oldest.l0 k l (old l i) l (l.length : Int) (i : Int)) (old l l.length) := by
    intro d
    induction d with
    | zero =>
      intro i hi
      obtain rfl : i = l.length := by omega
      refine Ev.step (f := fun _ => some _) (fun k => ?_) (Ev.now _)
      simp only [throttle_Oldest.l0]
      rw [if_neg (by omega)]
    | succ d ih =>
      intro i hi
      have hil : i < l.length := by omega
      have hb := old_lt l i
      have hg := ih (i + 1) (by omega)
      have hj : ∀ b : Bool, (b = true ↔ ¬ rdy (fat l i)) → Ev (fun k => throttle_Oldest.j1 k l (old l i) (i : Int) l (l.length : Int) (i : Int) b ((fat l i).f0) ((fat l i).f1) ((fat l i).f2) ((fat l i).f3) ((fat l i).f4) ((fat l i).f5) ((fat l i).f6) ((fat l i).f7) ((fat l i).f8) ((fat l i).f9) ((fat l i).f10) ((fat l i).f11) ((fat l i).f12) ((fat l i).f13) ((fat l i).f14) ((fat l i).f15)) (old l l.length) := by
        intro b hbr
        refine Ev.step (fun k => ?_) hg
        simp only [throttle_Oldest.j1]
        rw [w64s hil (by omega)]
        cases b with
        | true =>
          rw [if_pos rfl, old, if_neg (fun h => (hbr.1 rfl) h.1)]
        | false =>
          have hr : rdy (fat l i) := Decidable.byContradiction fun h => by simpa using hbr.2 h
          rw [if_neg (by decide)]
          by_cases h0 : old l i < 0
          · rw [if_pos h0, old, if_pos ⟨hr, .inl h0⟩]
          · have e : rd_T48 l (old l i) = fat l (old l i).toNat := rfl
            rw [if_neg h0, if_pos (by omega), if_pos (by omega), e]
            by_cases h1 : (fat l i).f9 < (fat l (old l i).toNat).f9
            · rw [if_pos h1, old, if_pos ⟨hr, .inr h1⟩]
            · rw [if_neg h1, old, if_neg (by rintro ⟨_, h | h⟩ <;> contradiction)]
      by_cases h4 : (fat l i).f0 = 4
      · by_cases h10 : (fat l i).f10 = true
        · refine Ev.step (fun k => ?_) (hj ((fat l i).f1 != 0) (by unfold rdy; simp [h4, h10]))
          simp only [throttle_Oldest.l0]
          rw [if_pos (by omega), if_pos (by omega), if_pos (by omega), rd_fat, if_pos h4, if_pos h10]
        · refine Ev.step (fun k => ?_) (hj true (by unfold rdy; simp [h10]))
          simp only [throttle_Oldest.l0]
          rw [if_pos (by omega), if_pos (by omega), if_pos (by omega), rd_fat, if_pos h4, if_neg h10]
      · refine Ev.step (fun k => ?_) (hj true (by unfold rdy; simp [h4]))
        simp only [throttle_Oldest.l0]
        rw [if_pos (by omega), if_pos (by omega), if_pos (by omega), rd_fat, if_neg h4]
  exact Ev.congr (fun k => rfl) (key l.length 0 (by omega))
/-- What the oldest is. -/
theorem old_spec (l : List S48) : ∀ i, (old l i = -1 ∧ ∀ j, j < i → ¬ rdy (fat l j)) ∨
    (0 ≤ old l i ∧ rdy (fat l (old l i).toNat) ∧ ∀ j, j < i → rdy (fat l j) → (fat l (old l i).toNat).f9 ≤ (fat l j).f9 ∧ ((fat l j).f9 = (fat l (old l i).toNat).f9 → old l i ≤ (j : Int)))
  | 0 => .inl ⟨rfl, fun j hj => absurd hj (Nat.not_lt_zero _)⟩
  | i + 1 => by
    have hb := old_lt l i
    rcases old_spec l i with ⟨h1, h2⟩ | ⟨h1, h2, h3⟩
    · by_cases hr : rdy (fat l i)
      · right
        have e : old l (i + 1) = (i : Int) := by rw [old, if_pos ⟨hr, .inl (by omega)⟩]
        rw [e]
        refine ⟨by omega, by simpa using hr, fun j hj hrj => ?_⟩
        rcases Nat.lt_succ_iff_lt_or_eq.1 hj with h | rfl
        · exact absurd hrj (h2 j h)
        · exact ⟨by simp, fun _ => Int.le_refl _⟩
      · left
        have e : old l (i + 1) = old l i := by rw [old, if_neg (fun h => hr h.1)]
        rw [e]
        refine ⟨h1, fun j hj => ?_⟩
        rcases Nat.lt_succ_iff_lt_or_eq.1 hj with h | rfl
        · exact h2 j h
        · exact hr
    · right
      by_cases hc : rdy (fat l i) ∧ (fat l i).f9 < (fat l (old l i).toNat).f9
      · have e : old l (i + 1) = (i : Int) := by rw [old, if_pos ⟨hc.1, .inr hc.2⟩]
        rw [e]
        refine ⟨by omega, by simpa using hc.1, fun j hj hrj => ?_⟩
        rw [Int.toNat_natCast]
        rcases Nat.lt_succ_iff_lt_or_eq.1 hj with h | rfl
        · have := h3 j h hrj
          exact ⟨by omega, fun h5 => by omega⟩
        · exact ⟨Int.le_refl _, fun _ => Int.le_refl _⟩
      · have e : old l (i + 1) = old l i := by rw [old, if_neg (fun h => h.2.elim (fun b => by omega) (fun b => hc ⟨h.1, b⟩))]
        rw [e]
        refine ⟨h1, h2, fun j hj hrj => ?_⟩
        rcases Nat.lt_succ_iff_lt_or_eq.1 hj with h | rfl
        · exact h3 j h hrj
        · refine ⟨?_, fun _ => by omega⟩
          exact Int.not_lt.1 fun h => hc ⟨hrj, h⟩
/-! ### Counting frames -/
def cntP (p : S48 → Bool) (l : List S48) : Nat → Nat
  | 0 => 0
  | i + 1 => cntP p l i + if p (fat l i) = true then 1 else 0
theorem cntP_le (p : S48 → Bool) (l : List S48) : ∀ i, cntP p l i ≤ i
  | 0 => Nat.le_refl _
  | i + 1 => by
    have := cntP_le p l i
    unfold cntP
    split <;> omega
-- PARTS: base thr1 thr2
def ctd (f : S48) : Bool := decide (f.f0 = 4) && (f.f10 || decide (f.f1 = 2) || decide (f.f1 = 4))
theorem prog_counts (f : S48) : throttle_Counts.f f.f0 f.f1 f.f2 f.f3 f.f4 f.f5 f.f6 f.f7 f.f8 f.f9 f.f10 f.f11 f.f12 f.f13 f.f14 f.f15 = some (ctd f) := by
  unfold throttle_Counts.f ctd
  by_cases h0 : f.f0 = 4
  · rw [if_pos h0]
    by_cases h1 : f.f10 = true
    · simp [h0, h1]
    · by_cases h2 : f.f1 = 2
      · simp [h0, h1, h2]
      · simp only [Bool.not_eq_true] at h1
        simp only [h0, h1, h2]
        by_cases h3 : f.f1 = 4 <;> simp [h3]
  · simp [h0]
theorem prog_count (l : List S48) (hn : l.length ≤ 1000) : Ev (fun k => throttle_Count.f k l) (cntP ctd l l.length : Int) := by
  have key : ∀ d i, i + d = l.length → Ev (fun k => throttle_Count.l0 k l (cntP ctd l i : Int) (l.length : Int) (i : Int)) (cntP ctd l l.length : Int) := by
    intro d
    induction d with
    | zero =>
      intro i hi
      obtain rfl : i = l.length := by omega
      refine Ev.step (f := fun _ => some _) (fun k => ?_) (Ev.now _)
      simp only [throttle_Count.l0]
      rw [if_neg (by omega)]
    | succ d ih =>
      intro i hi
      have hil : i < l.length := by omega
      have hc := cntP_le ctd l i
      refine Ev.step (fun k => ?_) (ih (i + 1) (by omega))
      simp only [throttle_Count.l0]
      rw [if_pos (by omega), if_pos (by omega), if_pos (by omega), rd_fat, prog_counts, w64s hil (by omega), w64s (i := cntP ctd l i) (n := 1001) (by omega) (by omega)]
      simp only [Option.bind_some]
      by_cases h : ctd (fat l i) = true
      · rw [if_pos h, cntP, if_pos h]
      · rw [if_neg h, cntP, if_neg h]
        rfl
  exact Ev.congr (fun k => rfl) (key l.length 0 (by omega))
def rdyB (f : S48) : Bool := decide (rdy f)
theorem rdyB_iff (f : S48) : rdyB f = true ↔ rdy f := by simp [rdyB]
def cln (f : S48) : S48 := ⟨f.f0, f.f1, f.f2, f.f3, f.f4, f.f5, f.f6, f.f7, f.f8, f.f9, false, f.f11, f.f12, f.f13, f.f14, f.f15⟩
theorem cln_rdy (f : S48) : rdyB (cln f) = false := by simp [rdyB, rdy, cln]
/-- The times of the dirty frames. -/
def tms (F : List S48) : List Int := (F.filter rdyB).map (fun f => f.f9)
theorem fat_get (F : List S48) {q : Nat} (hq : q < F.length) : fat F q = F[q] := by
  unfold fat
  rw [List.getD_eq_getElem?_getD, List.getElem?_eq_getElem hq]
  rfl
theorem tms_mem {F : List S48} {q : Nat} (hq : q < F.length) (hr : rdy (fat F q)) : (fat F q).f9 ∈ tms F := by
  unfold tms
  refine List.mem_map.2 ⟨fat F q, List.mem_filter.2 ⟨?_, (rdyB_iff _).2 hr⟩, rfl⟩
  rw [fat_get F hq]
  exact List.getElem_mem hq
theorem tms_of {F : List S48} {y : Int} (h : y ∈ tms F) : ∃ j, j < F.length ∧ rdy (fat F j) ∧ (fat F j).f9 = y := by
  unfold tms at h
  obtain ⟨f, hf, hy⟩ := List.mem_map.1 h
  obtain ⟨h1, h2⟩ := List.mem_filter.1 hf
  obtain ⟨j, hj, e⟩ := List.getElem_of_mem h1
  refine ⟨j, hj, ?_, ?_⟩
  · rw [fat_get F hj, e]
    exact (rdyB_iff _).1 h2
  · rw [fat_get F hj, e]
    exact hy
theorem tms_clean {F : List S48} {q : Nat} (hq : q < F.length) (hr : rdy (fat F q)) : (tms F).Perm ((fat F q).f9 :: tms (F.set q (cln (fat F q)))) := by
  have e1 : F = F.take q ++ fat F q :: F.drop (q + 1) := by
    rw [fat_get F hq, List.getElem_cons_drop]
    exact (List.take_append_drop q F).symm
  have e2 : F.set q (cln (fat F q)) = F.take q ++ cln (fat F q) :: F.drop (q + 1) := by
    rw [List.set_eq_take_append_cons_drop, if_pos hq]
  have h1 := (rdyB_iff _).2 hr
  have h2 := cln_rdy (fat F q)
  generalize cln (fat F q) = g at *
  generalize fat F q = f at *
  generalize F.take q = A at *
  generalize F.drop (q + 1) = B at *
  unfold tms
  rw [e2, e1]
  simp only [List.filter_append, List.filter_cons, h1, h2, if_true, Bool.false_eq_true, if_false, List.map_append, List.map_cons]
  exact List.perm_middle
theorem main_l0 (o : List S50) (hs : o.Pairwise (fun x y => x.f2 ≤ y.f2)) (ho : o.length ≤ 1000) : ∀ (d j : Nat) (F : List S48), j + d = o.length → F.length ≤ 1000 → (tms F).Perm ((o.drop j).map (fun p => p.f2)) →
    Ev (fun k => estoverstop_TopOldestFirst.l0 k F o (o.length : Int) (j : Int)) true := by
  intro d
  induction d with
  | zero =>
    intro j F hj hF hp
    obtain rfl : j = o.length := by omega
    refine Ev.step (f := fun k => (throttle_Oldest.f k F).bind fun t => some (t == (-1))) (fun k => ?_) ?_
    · simp only [estoverstop_TopOldestFirst.l0]
      rw [if_neg (by omega)]
    · refine Ev.bindS (prog_oldest F hF) ?_
      have hnil : tms F = [] := by
        rw [List.drop_length] at hp
        exact List.Perm.eq_nil hp
      have hb := old_lt F F.length
      have e : old F F.length = -1 := by
        rcases old_spec F F.length with ⟨h, _⟩ | ⟨h1, h2, _⟩
        · exact h
        · have := tms_mem (q := (old F F.length).toNat) (by omega) h2
          rw [hnil] at this
          cases this
      rw [e]
      exact Ev.some (fun k => rfl)
  | succ d ih =>
    intro j F hj hF hp
    have hjo : j < o.length := by omega
    have hd : o.drop j = o[j] :: o.drop (j + 1) := (List.getElem_cons_drop hjo).symm
    rw [hd, List.map_cons] at hp
    have hm : o[j].f2 ∈ tms F := hp.symm.subset List.mem_cons_self
    have hb := old_lt F F.length
    obtain ⟨i0, hi0, hr0, he0⟩ := tms_of hm
    rcases old_spec F F.length with ⟨_, h⟩ | ⟨h1, h2, h3⟩
    · exact absurd hr0 (h i0 hi0)
    · obtain ⟨q, hq⟩ : ∃ q : Nat, old F F.length = (q : Int) := ⟨(old F F.length).toNat, by omega⟩
      rw [hq] at h1 h2 h3 hb
      rw [Int.toNat_natCast] at h2 h3
      have hqf : q < F.length := by omega
      have hle : (fat F q).f9 ≤ o[j].f2 := by
        rw [← he0]
        exact (h3 i0 hi0 hr0).1
      have hge : o[j].f2 ≤ (fat F q).f9 := by
        have hmem := hp.subset (tms_mem hqf h2)
        rcases List.mem_cons.1 hmem with e | e
        · omega
        · obtain ⟨p, hpm, hpe⟩ := List.mem_map.1 e
          rw [← hpe]
          have hsj : (o.drop j).Pairwise (fun x y => x.f2 ≤ y.f2) := hs.sublist (List.drop_sublist _ _)
          rw [hd, List.pairwise_cons] at hsj
          exact hsj.1 p hpm
      have heq : (fat F q).f9 = o[j].f2 := by omega
      have hnext : Ev (fun k => estoverstop_TopOldestFirst.l0 k (F.set q (cln (fat F q))) o (o.length : Int) ((j + 1 : Nat) : Int)) true := by
        refine ih (j + 1) _ (by omega) (by simpa using hF) ?_
        have h4 := (tms_clean hqf h2).symm.trans hp
        rw [heq] at h4
        exact h4.cons_inv
      refine Ev.step (fun k => by simp only [estoverstop_TopOldestFirst.l0]; rw [if_pos (by omega), w64s (n := o.length) (by omega) (by omega)]) ?_
      refine Ev.bindS (prog_oldest F hF) ?_
      rw [hq]
      refine Ev.congr (fun k => ?_) hnext
      have e5 : rd_T50 o (j : Int) = o[j] := rd_get50 o j hjo
      rw [if_neg (by omega), if_neg (by omega), if_pos (by omega), if_pos (by omega), rd_fat, if_pos h2.2.1, if_pos (by omega), if_pos (by omega), e5, if_pos heq, Int.toNat_natCast]
      rfl
/-- What the frames and pages of the first n sketches are. -/
structure DfInv (s : List Bool × List S48 × List S50) : Prop where
  fr : ∀ f ∈ s.2.1, f.f0 = 4 ∧ f.f1 = 0 ∧ (0 ≤ f.f4 ∧ f.f4 < 4) ∧ (0 ≤ f.f5 ∧ f.f5 < 16) ∧ 0 ≤ f.f9 ∧ s.1.getD (f.f4 * 16 + f.f5).toNat false = true
  pg : s.2.2 = (s.2.1.filter (fun f => f.f10)).map (fun f => (⟨f.f4, f.f5, f.f9⟩ : S50))
  nd : (s.2.1.map (fun f => (f.f4, f.f5))).Nodup
  ln : s.1.length = 64
theorem df_inv {s : List Bool × List S48 × List S50} (h : DfInv s) {x : S77} (h2 : 0 ≤ x.f2) : DfInv (dfStep s x) := by
  unfold dfStep
  by_cases hb : s.1.getD (x.f0 % 4 * 16 + x.f1 % 16).toNat false = true
  · rw [if_pos hb]
    exact h
  · rw [if_neg hb]
    have b4 : 0 ≤ x.f0 % 4 ∧ x.f0 % 4 < 4 := by omega
    have b16 : 0 ≤ x.f1 % 16 ∧ x.f1 % 16 < 16 := by omega
    generalize x.f0 % 4 = a at *
    generalize x.f1 % 16 = b at *
    refine ⟨fun f hf => ?_, ?_, ?_, by simpa using h.ln⟩
    · rcases List.mem_append.1 hf with hf | hf
      · obtain ⟨g1, g2, g3, g4, g5, g6⟩ := h.fr f hf
        refine ⟨g1, g2, g3, g4, g5, ?_⟩
        simp only [List.getD_eq_getElem?_getD, List.getElem?_set] at g6 ⊢
        split
        · split
          · rfl
          · have := h.ln
            omega
        · exact g6
      · obtain rfl := List.mem_singleton.1 hf
        refine ⟨rfl, rfl, b4, b16, h2, ?_⟩
        have := h.ln
        simp only [List.getD_eq_getElem?_getD]
        rw [List.getElem?_set_self (by omega)]
        rfl
    · simp only [List.filter_append, List.map_append]
      rw [← h.pg]
      cases x.f3 <;> simp
    · rw [List.map_append, List.nodup_append]
      refine ⟨h.nd, by simp, ?_⟩
      intro p hp q hq e
      simp only [List.map_cons, List.map_nil, List.mem_singleton] at hq
      subst hq
      subst e
      obtain ⟨f, hf, he⟩ := List.mem_map.1 hp
      obtain ⟨_, _, _, _, _, g6⟩ := h.fr f hf
      obtain ⟨e1, e2⟩ := Prod.mk.inj he
      rw [e1, e2] at g6
      exact hb g6
theorem df_all (l : List S77) (hw : ∀ x ∈ l, 0 ≤ x.f0 ∧ 0 ≤ x.f1 ∧ 0 ≤ x.f2) : ∀ n, n ≤ l.length → DfInv (dfAt l n) := by
  intro n
  induction n with
  | zero => intro _; exact ⟨fun f hf => by simp [dfAt] at hf, rfl, by simp [dfAt], by simp [dfAt]⟩
  | succ n ih =>
    intro hn
    have e := dfAt_succ l (i := (n : Int)) (by omega) (by omega)
    rw [show ((n : Int) + 1).toNat = n + 1 by omega, Int.toNat_natCast, rd_get77 l n (by omega)] at e
    rw [e]
    have hm := hw _ (List.getElem_mem (show n < l.length by omega))
    exact df_inv (ih (by omega)) hm.2.2
theorem cnt_filter (p : S48 → Bool) (l : List S48) : ∀ i, i ≤ l.length → cntP p l i = ((l.take i).filter p).length
  | 0, _ => rfl
  | i + 1, h => by
    have ih := cnt_filter p l i (by omega)
    rw [cntP, ih, List.take_succ_eq_append_getElem (by omega), List.filter_append, List.length_append, fat_get l (by omega)]
    cases hp : p l[i] <;> simp [hp]
theorem le_tr (a b c : S50) : (!pLt b a) = true → (!pLt c b) = true → (!pLt c a) = true := by
  simp only [Bool.not_eq_true', pLt_not]
  omega
theorem le_tot (a b : S50) : ((!pLt b a) || (!pLt a b)) = true := by
  simp only [Bool.or_eq_true, Bool.not_eq_true', pLt_not]
  omega
theorem ord_sorted (l : List S50) : (l.mergeSort fun x y => !pLt y x).Pairwise (fun x y => x.f2 ≤ y.f2) := by
  refine (List.pairwise_mergeSort (le := fun x y => !pLt y x) le_tr le_tot l).imp ?_
  intro a b h
  simp only [Bool.not_eq_true', pLt_not] at h
  omega
theorem order_ex : writeback_Order.f [⟨0, 0, 5⟩, ⟨0, 1, 3⟩] = some ([⟨0, 1, 3⟩, ⟨0, 0, 5⟩], 0) := by
  have hc : writeback_Check.f [⟨0, 0, 5⟩, ⟨0, 1, 3⟩] = some 0 := by
    unfold writeback_Check.f
    rw [if_pos ?_]
    refine ⟨?_, ?_, by decide⟩
    · intro x hx
      simp only [List.mem_cons, List.not_mem_nil, or_false] at hx
      rcases hx with rfl | rfl <;> simp [writeback_isPage.f]
    · simp [wbKeys]
  have hs : ([⟨0, 0, 5⟩, ⟨0, 1, 3⟩] : List S50).mergeSort (fun x y => !pLt y x) = [⟨0, 1, 3⟩, ⟨0, 0, 5⟩] := by
    simp [List.mergeSort, pLt]
  unfold writeback_Order.f
  rw [hc, hs]
  rfl
theorem aw16 : Ev (fun k => estoverstop_awake16.f k) true := by
  refine Ev.of (fun k => estoverstop_awake16.mono k) (k := 30) ?_
  unfold estoverstop_awake16.f
  simp only [Option.bind_some]
  rw [order_ex]
  kernel_rfl
theorem main_j0 (l : List S77) (hw : ∀ x ∈ l, wf77 x) (b : Bool) (hb : b = false → l.length ≤ 60) : Ev (fun k => estoverstop_TopOldestFirst.j0 k l b) true := by
  cases b with
  | true =>
    refine Ev.step (f := fun k => (estoverstop_awake16.f k).bind fun t => some t) (fun k => by simp [estoverstop_TopOldestFirst.j0]) ?_
    exact Ev.bindS aw16 (Ev.now _)
  | false =>
    have hn := hb rfl
    have hw2 : ∀ x ∈ l, (0 ≤ x.f0 ∧ x.f0 ≤ 255) ∧ (0 ≤ x.f1 ∧ x.f1 ≤ 255) ∧ (0 ≤ x.f2 ∧ x.f2 ≤ 255) := fun x hx => ⟨wf_u8 (hw x hx).1, wf_u8 (hw x hx).2.1, wf_u8 (hw x hx).2.2⟩
    have hinv := df_all l (fun x hx => ⟨(hw2 x hx).1.1, (hw2 x hx).2.1.1, (hw2 x hx).2.2.1⟩) l.length (Nat.le_refl _)
    have hlen := dfAt_len l l.length (Nat.le_refl _)
    have hdf : estoverstop_dirtyFrames.f l = some (dfAt l l.length).2 := by
      unfold estoverstop_dirtyFrames.f
      rw [if_pos ⟨hw2, by omega⟩]
    generalize dfAt l l.length = s at *
    have hctd : s.2.1.filter ctd = s.2.1.filter (fun f => f.f10) := by
      refine List.filter_congr (fun f hf => ?_)
      obtain ⟨g1, g2, _⟩ := hinv.fr f hf
      simp [ctd, g1, g2]
    have hrdy : s.2.1.filter rdyB = s.2.1.filter (fun f => f.f10) := by
      refine List.filter_congr (fun f hf => ?_)
      obtain ⟨g1, g2, _⟩ := hinv.fr f hf
      simp [rdyB, rdy, g1, g2]
    have hpl : s.2.2.length = (s.2.1.filter (fun f => f.f10)).length := by rw [hinv.pg, List.length_map]
    have hcheck : writeback_Check.f s.2.2 = some 0 := by
      unfold writeback_Check.f
      rw [if_pos ?_]
      refine ⟨fun x hx => ?_, ?_, by omega⟩
      · rw [hinv.pg] at hx
        obtain ⟨f, hf, rfl⟩ := List.mem_map.1 hx
        obtain ⟨_, _, g3, g4, g5, _⟩ := hinv.fr f (List.mem_filter.1 hf).1
        refine ⟨⟨g3.1, by have := g3.2; simp only; omega⟩, ⟨g4.1, by have := g4.2; simp only; omega⟩, ?_, g5⟩
        unfold writeback_isPage.f
        rw [if_pos g3.1, if_pos g3.2, if_pos g4.1, decide_eq_true g4.2]
      · have : wbKeys s.2.2 = (s.2.1.filter (fun f => f.f10)).map (fun f => (f.f4, f.f5)) := by
          rw [hinv.pg]
          unfold wbKeys
          rw [List.map_map]
          rfl
        rw [this]
        exact hinv.nd.sublist (List.filter_sublist.map _)
    have hord : writeback_Order.f s.2.2 = some (s.2.2.mergeSort fun x y => !pLt y x, 0) := by
      unfold writeback_Order.f
      rw [hcheck]
      rfl
    have hsort := ord_sorted s.2.2
    have hperm := List.mergeSort_perm s.2.2 (fun x y => !pLt y x)
    have hol := hperm.length_eq
    generalize (s.2.2.mergeSort fun x y => !pLt y x) = o at *
    have hc : (cntP ctd s.2.1 s.2.1.length : Int) = (s.2.2.length : Int) := by
      rw [cnt_filter ctd s.2.1 _ (Nat.le_refl _), List.take_length, hctd, hpl]
    have hp : (tms s.2.1).Perm ((o.drop 0).map (fun p => p.f2)) := by
      unfold tms
      rw [List.drop_zero, hrdy]
      refine List.Perm.trans (List.Perm.of_eq ?_) (hperm.symm.map _)
      rw [hinv.pg, List.map_map]
      rfl
    refine Ev.step (fun k => by simp only [estoverstop_TopOldestFirst.j0, Bool.false_eq_true, if_false]; rfl) ?_
    refine Ev.bindS (Ev.some (fun _ => hdf)) ?_
    refine Ev.bindS (Ev.some (fun _ => hord)) ?_
    refine Ev.congr (fun k => (if_pos rfl).trans (if_pos (by simp only; omega))) ?_
    refine Ev.bindS (prog_count s.2.1 (by omega)) ?_
    rw [hc]
    refine Ev.step (fun k => by simp only [estoverstop_TopOldestFirst.j1, bne_self_eq_false, Bool.false_eq_true, if_false]; rfl) ?_
    exact main_l0 o hsort (by omega) o.length 0 s.2.1 (by omega) (by omega) hp
theorem TopOldestFirst : estoverstop_TopOldestFirst.Pure := by
  intro l hw
  refine Ev.rounds ?_
  refine Ev.bindS aw16 ?_
  refine Ev.congr (fun k => if_pos rfl) ?_
  exact main_j0 l hw _ (fun h => by have := of_decide_eq_false h; omega)

end Go.Proofs.Ytpccpkpljlafcaa.Pure
