/- For every list of sketches the frames that are cleaned in the order of Oldest are cleaned in ascending order of Since, until none is left; no condition. -/
import Derived.Test.YtpomppjeknmciaaPThrottleOrderx
import Derived.Test.YtpomppjeknmciaaQThrottleOrder
namespace Go.Proofs.Ytpomppjeknmciaa.Pure
open Go.RowKit Go.Proofs.Ytpomppjeknmciaa.PThrottleOrder Go.Proofs.YtpomppjeknmciaaW.PrintWords Go.Proofs.YtpomppjeknmciaaW.PrintLast Go.Proofs.YtpomppjeknmciaaW.PrintMore

theorem Ev.bindS {α β : Type} {g : Nat → Option α} {f : Nat → α → Option β} {a : α} {r : β} (h : Ev g a) (k : Ev (fun n => f n a) r) : Ev (fun n => (g n).bind fun x => f n x) r := Ev.bind h k
theorem Ev.some {α : Type} {g : Nat → Option α} {r : α} (h : ∀ k, g k = Option.some r) : Ev g r := Ev.congr h (Ev.now r)
theorem w64 {x : Int} (h0 : -9223372036854775808 ≤ x) (h1 : x ≤ 9223372036854775807) : wrap64 x = x := by
  unfold wrap64
  omega
theorem w64s {i n : Nat} (h : i < n) (hn : n ≤ 1000000) : wrap64 ((i : Int) + 1) = ((i + 1 : Nat) : Int) := by
  unfold wrap64
  omega

/-! ### Frames out of sketches, and the oldest of them -/
def fr (s : S61) : S35 := ⟨wrap64 s.f0, wrap64 s.f1, 0, 0, 0, 0, 0, 0, 0, s.f3, s.f2, false, false, 0, [], []⟩
def fat (l : List S35) (i : Nat) : S35 := l.getD i z35
theorem rd_fat (l : List S35) (i : Nat) : rd_T35 l (i : Int) = fat l i := rfl
theorem prog_frames (l : List S61) (hn : l.length ≤ 1000) : Ev (fun k => estoverslaw30_Frames.f k l) (l.map fr) := by
  have key : ∀ d i, i + d = l.length → Ev (fun k => estoverslaw30_Frames.l0 k ((l.take i).map fr) l (l.length : Int) (i : Int)) (l.map fr) := by
    intro d
    induction d with
    | zero =>
      intro i hi
      obtain rfl : i = l.length := by omega
      refine Ev.step (f := fun _ => some _) (fun k => ?_) (Ev.now _)
      simp only [estoverslaw30_Frames.l0]
      rw [if_neg (by omega), List.take_length]
    | succ d ih =>
      intro i hi
      have hil : i < l.length := by omega
      refine Ev.step (fun k => ?_) (ih (i + 1) (by omega))
      simp only [estoverslaw30_Frames.l0]
      rw [if_pos (by omega), if_pos (by omega), if_pos (by omega), if_pos (by simp; omega), w64s hil (by omega)]
      congr 1
      rw [List.take_succ_eq_append_getElem hil, List.map_append]
      have e : rd_T61 l (i : Int) = l[i] := by
        show l.getD i _ = _
        simp [List.getD, hil]
      rw [e]
      rfl
  exact Ev.congr (fun k => rfl) (key l.length 0 (by omega))
/-- A frame that can be cleaned. -/
def rdy (f : S35) : Prop := f.f0 = 4 ∧ f.f10 = true ∧ f.f1 = 0
instance (f : S35) : Decidable (rdy f) := by unfold rdy; infer_instance
/-- The oldest of the first i frames, or -1. -/
def old (l : List S35) : Nat → Int
  | 0 => -1
  | i + 1 => if rdy (fat l i) ∧ (old l i < 0 ∨ (fat l i).f9 < (fat l (old l i).toNat).f9) then (i : Int) else old l i
theorem old_lt (l : List S35) : ∀ i, -1 ≤ old l i ∧ old l i < (i : Int)
  | 0 => ⟨Int.le_refl _, by simp [old]⟩
  | i + 1 => by
    have ih := old_lt l i
    unfold old
    split <;> omega
theorem prog_oldest (l : List S35) (hn : l.length ≤ 1000) : Ev (fun k => throttle_Oldest.f k l) (old l l.length) := by
  have key : ∀ d i, i + d = l.length → Ev (fun k => throttle_Oldest.l0 k l (old l i) l (l.length : Int) (i : Int)) (old l l.length) := by
    intro d
    induction d with
    | zero =>
      intro i hi
      obtain rfl : i = l.length := by omega
      refine Ev.step (f := fun _ => some _) (fun k => ?_) (Ev.now _)
      simp only [throttle_Oldest.l0]
      rw [if_neg (by omega)]
    | succ d ih =>
      intro i hi
      have hil : i < l.length := by omega
      have hb := old_lt l i
      have hg := ih (i + 1) (by omega)
      have hj : ∀ b : Bool, (b = true ↔ ¬ rdy (fat l i)) → Ev (fun k => throttle_Oldest.j1 k l (old l i) (i : Int) l (l.length : Int) (i : Int) b ((fat l i).f0) ((fat l i).f1) ((fat l i).f2) ((fat l i).f3) ((fat l i).f4) ((fat l i).f5) ((fat l i).f6) ((fat l i).f7) ((fat l i).f8) ((fat l i).f9) ((fat l i).f10) ((fat l i).f11) ((fat l i).f12) ((fat l i).f13) ((fat l i).f14) ((fat l i).f15)) (old l l.length) := by
        intro b hbr
        refine Ev.step (fun k => ?_) hg
        simp only [throttle_Oldest.j1]
        rw [w64s hil (by omega)]
        cases b with
        | true =>
          rw [if_pos rfl, old, if_neg (fun h => (hbr.1 rfl) h.1)]
        | false =>
          have hr : rdy (fat l i) := Decidable.byContradiction fun h => by simpa using hbr.2 h
          rw [if_neg (by decide)]
          by_cases h0 : old l i < 0
          · rw [if_pos h0, old, if_pos ⟨hr, .inl h0⟩]
          · have e : rd_T35 l (old l i) = fat l (old l i).toNat := rfl
            rw [if_neg h0, if_pos (by omega), if_pos (by omega), e]
            by_cases h1 : (fat l i).f9 < (fat l (old l i).toNat).f9
            · rw [if_pos h1, old, if_pos ⟨hr, .inr h1⟩]
            · rw [if_neg h1, old, if_neg (by rintro ⟨_, h | h⟩ <;> contradiction)]
      by_cases h4 : (fat l i).f0 = 4
      · by_cases h10 : (fat l i).f10 = true
        · refine Ev.step (fun k => ?_) (hj ((fat l i).f1 != 0) (by unfold rdy; simp [h4, h10]))
          simp only [throttle_Oldest.l0]
          rw [if_pos (by omega), if_pos (by omega), if_pos (by omega), rd_fat, if_pos h4, if_pos h10]
        · refine Ev.step (fun k => ?_) (hj true (by unfold rdy; simp [h10]))
          simp only [throttle_Oldest.l0]
          rw [if_pos (by omega), if_pos (by omega), if_pos (by omega), rd_fat, if_pos h4, if_neg h10]
      · refine Ev.step (fun k => ?_) (hj true (by unfold rdy; simp [h4]))
        simp only [throttle_Oldest.l0]
        rw [if_pos (by omega), if_pos (by omega), if_pos (by omega), rd_fat, if_neg h4]
  exact Ev.congr (fun k => rfl) (key l.length 0 (by omega))
/-- What the oldest is. -/
theorem old_spec (l : List S35) : ∀ i, (old l i = -1 ∧ ∀ j, j < i → ¬ rdy (fat l j)) ∨
    (0 ≤ old l i ∧ rdy (fat l (old l i).toNat) ∧ ∀ j, j < i → rdy (fat l j) → (fat l (old l i).toNat).f9 ≤ (fat l j).f9 ∧ ((fat l j).f9 = (fat l (old l i).toNat).f9 → old l i ≤ (j : Int)))
  | 0 => .inl ⟨rfl, fun j hj => absurd hj (Nat.not_lt_zero _)⟩
  | i + 1 => by
    have hb := old_lt l i
    rcases old_spec l i with ⟨h1, h2⟩ | ⟨h1, h2, h3⟩
    · by_cases hr : rdy (fat l i)
      · right
        have e : old l (i + 1) = (i : Int) := by rw [old, if_pos ⟨hr, .inl (by omega)⟩]
        rw [e]
        refine ⟨by omega, by simpa using hr, fun j hj hrj => ?_⟩
        rcases Nat.lt_succ_iff_lt_or_eq.1 hj with h | rfl
        · exact absurd hrj (h2 j h)
        · exact ⟨by simp, fun _ => Int.le_refl _⟩
      · left
        have e : old l (i + 1) = old l i := by rw [old, if_neg (fun h => hr h.1)]
        rw [e]
        refine ⟨h1, fun j hj => ?_⟩
        rcases Nat.lt_succ_iff_lt_or_eq.1 hj with h | rfl
        · exact h2 j h
        · exact hr
    · right
      by_cases hc : rdy (fat l i) ∧ (fat l i).f9 < (fat l (old l i).toNat).f9
      · have e : old l (i + 1) = (i : Int) := by rw [old, if_pos ⟨hc.1, .inr hc.2⟩]
        rw [e]
        refine ⟨by omega, by simpa using hc.1, fun j hj hrj => ?_⟩
        rw [Int.toNat_natCast]
        rcases Nat.lt_succ_iff_lt_or_eq.1 hj with h | rfl
        · have := h3 j h hrj
          exact ⟨by omega, fun h5 => by omega⟩
        · exact ⟨Int.le_refl _, fun _ => Int.le_refl _⟩
      · have e : old l (i + 1) = old l i := by rw [old, if_neg (fun h => h.2.elim (fun b => by omega) (fun b => hc ⟨h.1, b⟩))]
        rw [e]
        refine ⟨h1, h2, fun j hj hrj => ?_⟩
        rcases Nat.lt_succ_iff_lt_or_eq.1 hj with h | rfl
        · exact h3 j h hrj
        · refine ⟨?_, fun _ => by omega⟩
          exact Int.not_lt.1 fun h => hc ⟨hrj, h⟩
theorem aw30 : Ev (fun k => estoverslaw30_awake.f k) true := Ev.of (fun k => estoverslaw30_awake.mono k) (k := 30) (by kernel_rfl)

/-! ### Counting frames -/
def cntP (p : S35 → Bool) (l : List S35) : Nat → Nat
  | 0 => 0
  | i + 1 => cntP p l i + if p (fat l i) = true then 1 else 0
theorem cntP_le (p : S35 → Bool) (l : List S35) : ∀ i, cntP p l i ≤ i
  | 0 => Nat.le_refl _
  | i + 1 => by
    have := cntP_le p l i
    unfold cntP
    split <;> omega
theorem fat_set (l : List S35) {k : Nat} (hk : k < l.length) (v : S35) (i : Nat) : fat (l.set k v) i = if i = k then v else fat l i := by
  unfold fat
  by_cases h : i = k
  · subst h
    rw [if_pos rfl, List.getD_eq_getElem?_getD, List.getElem?_set_self hk]
    rfl
  · rw [if_neg h, List.getD_eq_getElem?_getD, List.getElem?_set_ne (fun e => h e.symm), ← List.getD_eq_getElem?_getD]
theorem cntP_set (p : S35 → Bool) (l : List S35) {k : Nat} (hk : k < l.length) (v : S35) :
    ∀ i, cntP p (l.set k v) i + (if k < i ∧ p (fat l k) = true then 1 else 0) = cntP p l i + (if k < i ∧ p v = true then 1 else 0)
  | 0 => by simp [cntP]
  | i + 1 => by
    have ih := cntP_set p l hk v i
    unfold cntP
    rw [fat_set l hk v i]
    by_cases h : i = k
    · subst h
      rw [if_pos rfl]
      rw [if_neg (by omega), if_neg (by omega)] at ih
      by_cases h1 : p (fat l i) = true <;> by_cases h2 : p v = true <;> simp [h1, h2] <;> omega
    · rw [if_neg h]
      have e : k < i + 1 ↔ k < i := by omega
      simp only [e]
      omega
theorem cntP_zero (p : S35 → Bool) (l : List S35) : ∀ i, cntP p l i = 0 → ∀ j, j < i → ¬ p (fat l j) = true
  | 0, _, j, hj => absurd hj (Nat.not_lt_zero _)
  | i + 1, h, j, hj => by
    unfold cntP at h
    rcases Nat.lt_succ_iff_lt_or_eq.1 hj with h1 | rfl
    · exact cntP_zero p l i (by omega) j h1
    · intro h2
      rw [if_pos h2] at h
      omega
theorem cntP_pos (p : S35 → Bool) (l : List S35) : ∀ i, 0 < cntP p l i → ∃ j, j < i ∧ p (fat l j) = true
  | 0, h => absurd h (Nat.not_lt_zero _)
  | i + 1, h => by
    by_cases h2 : p (fat l i) = true
    · exact ⟨i, by omega, h2⟩
    · unfold cntP at h
      rw [if_neg h2] at h
      obtain ⟨j, hj, hp⟩ := cntP_pos p l i (by omega)
      exact ⟨j, by omega, hp⟩

-- PARTS: base thr1 thr2
def rdyB (f : S35) : Bool := decide (rdy f)
theorem rdyB_iff (f : S35) : rdyB f = true ↔ rdy f := by simp [rdyB]
def cln (f : S35) : S35 := ⟨f.f0, f.f1, f.f2, f.f3, f.f4, f.f5, f.f6, f.f7, f.f8, f.f9, false, f.f11, f.f12, f.f13, f.f14, f.f15⟩
theorem cln_rdy (f : S35) : rdyB (cln f) = false := by simp [rdyB, rdy, cln]
theorem order_l1 (n : Nat) (hn : n ≤ 1000) : ∀ (d j : Nat) (f : List S35) (last : Int), j + d = n → f.length ≤ 1000 → cntP rdyB f f.length = d →
    (last = -1 ∨ 0 ≤ last ∧ last < f.length ∧ ∀ i, i < f.length → rdy (fat f i) → (fat f last.toNat).f9 ≤ (fat f i).f9) →
    Ev (fun k => estoverslaw30_ThrottleOrder.l1 k f last (n : Int) (j : Int)) true := by
  intro d
  induction d with
  | zero =>
    intro j f last hj hf hc _
    refine Ev.step (f := fun k => (throttle_Oldest.f k f).bind fun t => some (t == (-1))) (fun k => ?_) ?_
    · simp only [estoverslaw30_ThrottleOrder.l1]
      rw [if_neg (by omega)]
    · refine Ev.bindS (prog_oldest f hf) ?_
      have h0 := cntP_zero rdyB f f.length hc
      have e : old f f.length = -1 := by
        have hb := old_lt f f.length
        rcases old_spec f f.length with ⟨h, _⟩ | ⟨h1, h2, _⟩
        · exact h
        · exact absurd ((rdyB_iff _).2 h2) (h0 _ (by omega))
      rw [e]
      exact Ev.some (fun k => rfl)
  | succ d ih =>
    intro j f last hj hf hc hl
    obtain ⟨i0, hi0, hr0⟩ := cntP_pos rdyB f f.length (by omega)
    have hb := old_lt f f.length
    rcases old_spec f f.length with ⟨_, h⟩ | ⟨h1, h2, h3⟩
    · exact absurd ((rdyB_iff _).1 hr0) (h i0 hi0)
    · obtain ⟨q, hq⟩ : ∃ q : Nat, old f f.length = (q : Int) := ⟨(old f f.length).toNat, by omega⟩
      rw [hq] at h1 h2 h3 hb
      rw [Int.toNat_natCast] at h2 h3
      have hqf : q < f.length := by omega
      have hnext : Ev (fun k => estoverslaw30_ThrottleOrder.l1 k (f.set q (cln (fat f q))) (q : Int) (n : Int) ((j + 1 : Nat) : Int)) true := by
        refine ih (j + 1) _ _ (by omega) (by simpa using hf) ?_ (.inr ⟨by omega, by simpa using hqf, fun i hi hri => ?_⟩)
        · have := cntP_set rdyB f hqf (cln (fat f q)) f.length
          rw [if_pos ⟨hqf, (rdyB_iff _).2 h2⟩, if_neg (by rw [cln_rdy]; simp)] at this
          simp only [List.length_set]
          omega
        · rw [List.length_set] at hi
          rw [fat_set f hqf] at hri ⊢
          rw [fat_set f hqf, Int.toNat_natCast, if_pos rfl]
          by_cases e : i = q
          · rw [if_pos e] at hri
            exact absurd ((rdyB_iff _).2 hri) (by rw [cln_rdy]; decide)
          · rw [if_neg e] at hri ⊢
            exact (h3 i hi hri).1
      refine Ev.step (fun k => by simp only [estoverslaw30_ThrottleOrder.l1]; rw [if_pos (by omega), w64s (n := n) (by omega) (by omega)]) ?_
      · refine Ev.bindS (prog_oldest f hf) ?_
        rw [hq]
        refine Ev.congr (fun k => ?_) hnext
        rw [if_neg (by omega), if_neg (by omega), if_pos (by omega), if_pos (by omega), rd_fat, if_pos h2.2.1, Int.toNat_natCast]
        rcases hl with h | ⟨a, b, c⟩
        · rw [if_neg (by omega)]
          rfl
        · have e : rd_T35 f last = fat f last.toNat := rfl
          have := c q hqf h2
          rw [if_pos (by omega), if_pos a, if_pos b, e, if_neg (by omega)]
          rfl
theorem order_l0 (f : List S35) (hn : f.length ≤ 1000) : Ev (fun k => estoverslaw30_ThrottleOrder.l0 k f 0 (f.length : Int) 0) true := by
  have key : ∀ d i, i + d = f.length → Ev (fun k => estoverslaw30_ThrottleOrder.l0 k f ((cntP rdyB f i : Nat) : Int) (f.length : Int) (i : Int)) true := by
    intro d
    induction d with
    | zero =>
      intro i hi
      obtain rfl : i = f.length := by omega
      have hc := cntP_le rdyB f f.length
      refine Ev.step (fun k => ?_) (order_l1 (cntP rdyB f f.length) (by omega) (cntP rdyB f f.length) 0 f (-1) (by omega) hn rfl (.inl rfl))
      simp only [estoverslaw30_ThrottleOrder.l0]
      rw [if_neg (by omega)]
      rfl
    | succ d ih =>
      intro i hi
      have hil : i < f.length := by omega
      have hc := cntP_le rdyB f i
      refine Ev.step (fun k => ?_) (ih (i + 1) (by omega))
      simp only [estoverslaw30_ThrottleOrder.l0]
      rw [if_pos (by omega), if_pos (by omega), if_pos (by omega), rd_fat, w64s hil (by omega), w64s (i := cntP rdyB f i) (n := 1001) (by omega) (by omega)]
      by_cases h4 : (fat f i).f0 = 4
      · by_cases h10 : (fat f i).f10 = true
        · by_cases h1 : (fat f i).f1 = 0
          · rw [if_pos h4, if_pos h10, if_pos h1, cntP, if_pos ((rdyB_iff _).2 ⟨h4, h10, h1⟩)]
          · rw [if_pos h4, if_pos h10, if_neg h1, cntP, if_neg (fun h => h1 ((rdyB_iff _).1 h).2.2)]
            rfl
        · rw [if_pos h4, if_neg h10, cntP, if_neg (fun h => h10 ((rdyB_iff _).1 h).2.1)]
          rfl
      · rw [if_neg h4, cntP, if_neg (fun h => h4 ((rdyB_iff _).1 h).1)]
        rfl
  exact key f.length 0 (by omega)
theorem order_j0 (l : List S61) (b : Bool) (hb : b = false → l.length ≤ 60) : Ev (fun k => estoverslaw30_ThrottleOrder.j0 k l b) true := by
  cases b with
  | true =>
    refine Ev.step (f := fun k => (estoverslaw30_awake.f k).bind fun t => some t) (fun k => by simp [estoverslaw30_ThrottleOrder.j0]) ?_
    exact Ev.bindS aw30 (Ev.now _)
  | false =>
    have hn := hb rfl
    refine Ev.step (fun k => by simp only [estoverslaw30_ThrottleOrder.j0, Bool.false_eq_true, if_false]; rfl) ?_
    refine Ev.bindS (prog_frames l (by omega)) ?_
    exact order_l0 _ (by simp; omega)
theorem ThrottleOrder : estoverslaw30_ThrottleOrder.Pure := by
  intro l _
  refine Ev.rounds ?_
  refine Ev.bindS aw30 ?_
  refine Ev.congr (fun k => if_pos rfl) ?_
  exact order_j0 l _ (fun h => by have := of_decide_eq_false h; omega)

end Go.Proofs.Ytpomppjeknmciaa.Pure
