/- For every list of sketches the frame that Oldest returns can be cleaned and none that could be cleaned has been dirty for longer; -1 only if there is none; no condition. -/
import Derived.Test.YtpomppjeknmciaaPThrottleOldestx
import Derived.Test.YtpomppjeknmciaaQThrottleOldest
namespace Go.Proofs.Ytpomppjeknmciaa.Pure
open Go.RowKit Go.Proofs.Ytpomppjeknmciaa.PThrottleOldest Go.Proofs.YtpomppjeknmciaaW.PrintWords Go.Proofs.YtpomppjeknmciaaW.PrintLast Go.Proofs.YtpomppjeknmciaaW.PrintMore

theorem Ev.bindS {α β : Type} {g : Nat → Option α} {f : Nat → α → Option β} {a : α} {r : β} (h : Ev g a) (k : Ev (fun n => f n a) r) : Ev (fun n => (g n).bind fun x => f n x) r := Ev.bind h k
theorem Ev.some {α : Type} {g : Nat → Option α} {r : α} (h : ∀ k, g k = Option.some r) : Ev g r := Ev.congr h (Ev.now r)
theorem w64 {x : Int} (h0 : -9223372036854775808 ≤ x) (h1 : x ≤ 9223372036854775807) : wrap64 x = x := by
  unfold wrap64
  omega
theorem w64s {i n : Nat} (h : i < n) (hn : n ≤ 1000000) : wrap64 ((i : Int) + 1) = ((i + 1 : Nat) : Int) := by
  unfold wrap64
  omega

/-! ### Frames out of sketches, and the oldest of them -/
def fr (s : S61) : S35 := ⟨wrap64 s.f0, wrap64 s.f1, 0, 0, 0, 0, 0, 0, 0, s.f3, s.f2, false, false, 0, [], []⟩
def fat (l : List S35) (i : Nat) : S35 := l.getD i z35
theorem rd_fat (l : List S35) (i : Nat) : rd_T35 l (i : Int) = fat l i := rfl
theorem prog_frames (l : List S61) (hn : l.length ≤ 1000) : Ev (fun k => estoverslaw30_Frames.f k l) (l.map fr) := by
  have key : ∀ d i, i + d = l.length → Ev (fun k => estoverslaw30_Frames.l0 k ((l.take i).map fr) l (l.length : Int) (i : Int)) (l.map fr) := by
    intro d
    induction d with
    | zero =>
      intro i hi
      obtain rfl : i = l.length := by omega
      refine Ev.step (f := fun _ => some _) (fun k => ?_) (Ev.now _)
      simp only [estoverslaw30_Frames.l0]
      rw [if_neg (by omega), List.take_length]
    | succ d ih =>
      intro i hi
      have hil : i < l.length := by omega
      refine Ev.step (fun k => ?_) (ih (i + 1) (by omega))
      simp only [estoverslaw30_Frames.l0]
      rw [if_pos (by omega), if_pos (by omega), if_pos (by omega), if_pos (by simp; omega), w64s hil (by omega)]
      congr 1
      rw [List.take_succ_eq_append_getElem hil, List.map_append]
      have e : rd_T61 l (i : Int) = l[i] := by
        show l.getD i _ = _
        simp [List.getD, hil]
      rw [e]
      rfl
  exact Ev.congr (fun k => rfl) (key l.length 0 (by omega))
/-- A frame that can be cleaned. -/
def rdy (f : S35) : Prop := f.f0 = 4 ∧ f.f10 = true ∧ f.f1 = 0
instance (f : S35) : Decidable (rdy f) := by unfold rdy; infer_instance
/-- The oldest of the first i frames, or -1. -/
def old (l : List S35) : Nat → Int
  | 0 => -1
  | i + 1 => if rdy (fat l i) ∧ (old l i < 0 ∨ (fat l i).f9 < (fat l (old l i).toNat).f9) then (i : Int) else old l i
theorem old_lt (l : List S35) : ∀ i, -1 ≤ old l i ∧ old l i < (i : Int)
  | 0 => ⟨Int.le_refl _, by simp [old]⟩
  | i + 1 => by
    have ih := old_lt l i
    unfold old
    split <;> omega
theorem prog_oldest (l : List S35) (hn : l.length ≤ 1000) : Ev (fun k => throttle_Oldest.f k l) (old l l.length) := by
  have key : ∀ d i, i + d = l.length → Ev (fun k => throttle_Oldest.l0 k l (old l i) l (l.length : Int) (i : Int)) (old l l.length) := by
    intro d
    induction d with
    | zero =>
      intro i hi
      obtain rfl : i = l.length := by omega
      refine Ev.step (f := fun _ => some _) (fun k => ?_) (Ev.now _)
      simp only [throttle_Oldest.l0]
      rw [if_neg (by omega)]
    | succ d ih =>
      intro i hi
      have hil : i < l.length := by omega
      have hb := old_lt l i
      have hg := ih (i + 1) (by omega)
      have hj : ∀ b : Bool, (b = true ↔ ¬ rdy (fat l i)) → Ev (fun k => throttle_Oldest.j1 k l (old l i) (i : Int) l (l.length : Int) (i : Int) b ((fat l i).f0) ((fat l i).f1) ((fat l i).f2) ((fat l i).f3) ((fat l i).f4) ((fat l i).f5) ((fat l i).f6) ((fat l i).f7) ((fat l i).f8) ((fat l i).f9) ((fat l i).f10) ((fat l i).f11) ((fat l i).f12) ((fat l i).f13) ((fat l i).f14) ((fat l i).f15)) (old l l.length) := by
        intro b hbr
        refine Ev.step (fun k => ?_) hg
        simp only [throttle_Oldest.j1]
        rw [w64s hil (by omega)]
        cases b with
        | true =>
          rw [if_pos rfl, old, if_neg (fun h => (hbr.1 rfl) h.1)]
        | false =>
          have hr : rdy (fat l i) := Decidable.byContradiction fun h => by simpa using hbr.2 h
          rw [if_neg (by decide)]
          by_cases h0 : old l i < 0
          · rw [if_pos h0, old, if_pos ⟨hr, .inl h0⟩]
          · have e : rd_T35 l (old l i) = fat l (old l i).toNat := rfl
            rw [if_neg h0, if_pos (by omega), if_pos (by omega), e]
            by_cases h1 : (fat l i).f9 < (fat l (old l i).toNat).f9
            · rw [if_pos h1, old, if_pos ⟨hr, .inr h1⟩]
            · rw [if_neg h1, old, if_neg (by rintro ⟨_, h | h⟩ <;> contradiction)]
      by_cases h4 : (fat l i).f0 = 4
      · by_cases h10 : (fat l i).f10 = true
        · refine Ev.step (fun k => ?_) (hj ((fat l i).f1 != 0) (by unfold rdy; simp [h4, h10]))
          simp only [throttle_Oldest.l0]
          rw [if_pos (by omega), if_pos (by omega), if_pos (by omega), rd_fat, if_pos h4, if_pos h10]
        · refine Ev.step (fun k => ?_) (hj true (by unfold rdy; simp [h10]))
          simp only [throttle_Oldest.l0]
          rw [if_pos (by omega), if_pos (by omega), if_pos (by omega), rd_fat, if_pos h4, if_neg h10]
      · refine Ev.step (fun k => ?_) (hj true (by unfold rdy; simp [h4]))
        simp only [throttle_Oldest.l0]
        rw [if_pos (by omega), if_pos (by omega), if_pos (by omega), rd_fat, if_neg h4]
  exact Ev.congr (fun k => rfl) (key l.length 0 (by omega))
/-- What the oldest is. -/
theorem old_spec (l : List S35) : ∀ i, (old l i = -1 ∧ ∀ j, j < i → ¬ rdy (fat l j)) ∨
    (0 ≤ old l i ∧ rdy (fat l (old l i).toNat) ∧ ∀ j, j < i → rdy (fat l j) → (fat l (old l i).toNat).f9 ≤ (fat l j).f9 ∧ ((fat l j).f9 = (fat l (old l i).toNat).f9 → old l i ≤ (j : Int)))
  | 0 => .inl ⟨rfl, fun j hj => absurd hj (Nat.not_lt_zero _)⟩
  | i + 1 => by
    have hb := old_lt l i
    rcases old_spec l i with ⟨h1, h2⟩ | ⟨h1, h2, h3⟩
    · by_cases hr : rdy (fat l i)
      · right
        have e : old l (i + 1) = (i : Int) := by rw [old, if_pos ⟨hr, .inl (by omega)⟩]
        rw [e]
        refine ⟨by omega, by simpa using hr, fun j hj hrj => ?_⟩
        rcases Nat.lt_succ_iff_lt_or_eq.1 hj with h | rfl
        · exact absurd hrj (h2 j h)
        · exact ⟨by simp, fun _ => Int.le_refl _⟩
      · left
        have e : old l (i + 1) = old l i := by rw [old, if_neg (fun h => hr h.1)]
        rw [e]
        refine ⟨h1, fun j hj => ?_⟩
        rcases Nat.lt_succ_iff_lt_or_eq.1 hj with h | rfl
        · exact h2 j h
        · exact hr
    · right
      by_cases hc : rdy (fat l i) ∧ (fat l i).f9 < (fat l (old l i).toNat).f9
      · have e : old l (i + 1) = (i : Int) := by rw [old, if_pos ⟨hc.1, .inr hc.2⟩]
        rw [e]
        refine ⟨by omega, by simpa using hc.1, fun j hj hrj => ?_⟩
        rw [Int.toNat_natCast]
        rcases Nat.lt_succ_iff_lt_or_eq.1 hj with h | rfl
        · have := h3 j h hrj
          exact ⟨by omega, fun h5 => by omega⟩
        · exact ⟨Int.le_refl _, fun _ => Int.le_refl _⟩
      · have e : old l (i + 1) = old l i := by rw [old, if_neg (fun h => h.2.elim (fun b => by omega) (fun b => hc ⟨h.1, b⟩))]
        rw [e]
        refine ⟨h1, h2, fun j hj hrj => ?_⟩
        rcases Nat.lt_succ_iff_lt_or_eq.1 hj with h | rfl
        · exact h3 j h hrj
        · refine ⟨?_, fun _ => by omega⟩
          exact Int.not_lt.1 fun h => hc ⟨hrj, h⟩
theorem aw30 : Ev (fun k => estoverslaw30_awake.f k) true := Ev.of (fun k => estoverslaw30_awake.mono k) (k := 30) (by kernel_rfl)

-- PARTS: base thr1
theorem oldest_l0 (l : List S35) (hn : l.length ≤ 1000) : Ev (fun k => estoverslaw30_ThrottleOldest.l0 k l (old l l.length) (l.length : Int) 0) true := by
  have hb := old_lt l l.length
  have hs := old_spec l l.length
  have key : ∀ d i, i + d = l.length → Ev (fun k => estoverslaw30_ThrottleOldest.l0 k l (old l l.length) (l.length : Int) (i : Int)) true := by
    intro d
    induction d with
    | zero =>
      intro i hi
      obtain rfl : i = l.length := by omega
      refine Ev.step (f := fun _ => some _) (fun k => ?_) (Ev.now _)
      simp only [estoverslaw30_ThrottleOldest.l0]
      rw [if_neg (by omega)]
    | succ d ih =>
      intro i hi
      have hil : i < l.length := by omega
      have hg := ih (i + 1) (by omega)
      have hj : ∀ b : Bool, (b = true ↔ ¬ rdy (fat l i)) → Ev (fun k => estoverslaw30_ThrottleOldest.j3 k l (old l l.length) (i : Int) (l.length : Int) (i : Int) b) true := by
        intro b hbr
        refine Ev.step (fun k => ?_) hg
        simp only [estoverslaw30_ThrottleOldest.j3]
        rw [w64s hil (by omega)]
        cases b with
        | true =>
          have hr := hbr.1 rfl
          rw [if_pos rfl, if_neg]
          intro e
          rcases hs with ⟨h1, _⟩ | ⟨_, h2, _⟩
          · omega
          · rw [← e, Int.toNat_natCast] at h2
            exact hr h2
        | false =>
          have hr : rdy (fat l i) := Decidable.byContradiction fun h => by simpa using hbr.2 h
          rcases hs with ⟨_, h2⟩ | ⟨h1, h2, h3⟩
          · exact absurd hr (h2 i hil)
          · have := h3 i hil hr
            have e : rd_T35 l (old l l.length) = fat l (old l l.length).toNat := rfl
            rw [if_neg (by decide), if_neg (by omega), if_pos (by omega), if_pos (by omega), if_pos (by omega), if_pos (by omega), rd_fat, e, if_neg (by omega)]
            by_cases h5 : (fat l i).f9 = (fat l (old l l.length).toNat).f9
            · rw [if_pos h5, if_neg (by have := this.2 h5; omega)]
            · rw [if_neg h5]
      by_cases h4 : (fat l i).f0 = 4
      · by_cases h10 : (fat l i).f10 = true
        · refine Ev.step (fun k => ?_) (hj ((fat l i).f1 != 0) (by unfold rdy; simp [h4, h10]))
          simp only [estoverslaw30_ThrottleOldest.l0]
          rw [if_pos (by omega), if_pos (by omega), if_pos (by omega), rd_fat, if_pos h4, if_pos h10]
        · refine Ev.step (fun k => ?_) (hj true (by unfold rdy; simp [h10]))
          simp only [estoverslaw30_ThrottleOldest.l0]
          rw [if_pos (by omega), if_pos (by omega), if_pos (by omega), rd_fat, if_pos h4, if_neg h10]
      · refine Ev.step (fun k => ?_) (hj true (by unfold rdy; simp [h4]))
        simp only [estoverslaw30_ThrottleOldest.l0]
        rw [if_pos (by omega), if_pos (by omega), if_pos (by omega), rd_fat, if_neg h4]
  exact key l.length 0 (by omega)
theorem oldest_j0 (l : List S61) (b : Bool) (hb : b = false → l.length ≤ 300) : Ev (fun k => estoverslaw30_ThrottleOldest.j0 k l b) true := by
  cases b with
  | true =>
    refine Ev.step (f := fun k => (estoverslaw30_awake.f k).bind fun t => some t) (fun k => by simp [estoverslaw30_ThrottleOldest.j0]) ?_
    exact Ev.bindS aw30 (Ev.now _)
  | false =>
    have hn := hb rfl
    refine Ev.step (fun k => by simp only [estoverslaw30_ThrottleOldest.j0, Bool.false_eq_true, if_false]; rfl) ?_
    refine Ev.bindS (prog_frames l (by omega)) (Ev.bindS (prog_oldest _ (by simp; omega)) ?_)
    have hb := old_lt (l.map fr) (l.map fr).length
    refine Ev.congr (fun k => if_neg (by omega)) ?_
    rw [decide_eq_false (by omega)]
    refine Ev.step (fun k => by simp only [estoverslaw30_ThrottleOldest.j1, Bool.false_eq_true, if_false]; rfl) ?_
    exact oldest_l0 _ (by simp; omega)
theorem ThrottleOldest : estoverslaw30_ThrottleOldest.Pure := by
  intro l _
  refine Ev.rounds ?_
  refine Ev.bindS aw30 ?_
  refine Ev.congr (fun k => if_pos rfl) ?_
  exact oldest_j0 l _ (fun h => by have := of_decide_eq_false h; omega)

end Go.Proofs.Ytpomppjeknmciaa.Pure
