/- If pages become dirty only while that is allowed, and are cleaned at any time, there are never more dirty pages than the limit (100 steps on 20 frames); no condition. -/
import Derived.Test.YtpomppjeknmciaaPThrottleLimitsx
namespace Go.Proofs.Ytpomppjeknmciaa.Pure
open Go.RowKit Go.Proofs.Ytpomppjeknmciaa.PThrottleLimits Go.Proofs.YtpomppjeknmciaaW.PrintWords Go.Proofs.YtpomppjeknmciaaW.PrintLast Go.Proofs.YtpomppjeknmciaaW.PrintMore

theorem Ev.bindS {α β : Type} {g : Nat → Option α} {f : Nat → α → Option β} {a : α} {r : β} (h : Ev g a) (k : Ev (fun n => f n a) r) : Ev (fun n => (g n).bind fun x => f n x) r := Ev.bind h k
theorem Ev.some {α : Type} {g : Nat → Option α} {r : α} (h : ∀ k, g k = Option.some r) : Ev g r := Ev.congr h (Ev.now r)
theorem w64 {x : Int} (h0 : -9223372036854775808 ≤ x) (h1 : x ≤ 9223372036854775807) : wrap64 x = x := by
  unfold wrap64
  omega
theorem w64s {i n : Nat} (h : i < n) (hn : n ≤ 1000000) : wrap64 ((i : Int) + 1) = ((i + 1 : Nat) : Int) := by
  unfold wrap64
  omega
theorem wf_u16 {n : Int} (h : (Lit.int .u16 n).wf = true) : 0 ≤ n ∧ n ≤ 65535 := by
  simp only [Lit.wf, Bool.and_eq_true, decide_eq_true_eq] at h
  exact ⟨h.1, h.2⟩
theorem wf_u8 {n : Int} (h : (Lit.int .u8 n).wf = true) : 0 ≤ n ∧ n ≤ 255 := by
  simp only [Lit.wf, Bool.and_eq_true, decide_eq_true_eq] at h
  exact ⟨h.1, h.2⟩
theorem wf_i64 {n : Int} (h : (Lit.int .i64 n).wf = true) : -9223372036854775808 ≤ n ∧ n ≤ 9223372036854775807 := by
  simp only [Lit.wf, Bool.and_eq_true, decide_eq_true_eq] at h
  exact ⟨h.1, h.2⟩

/-! ### Frames out of sketches, and the oldest of them -/
def fr (s : S61) : S35 := ⟨wrap64 s.f0, wrap64 s.f1, 0, 0, 0, 0, 0, 0, 0, s.f3, s.f2, false, false, 0, [], []⟩
def fat (l : List S35) (i : Nat) : S35 := l.getD i z35
theorem rd_fat (l : List S35) (i : Nat) : rd_T35 l (i : Int) = fat l i := rfl
theorem prog_frames (l : List S61) (hn : l.length ≤ 1000) : Ev (fun k => estoverslaw30_Frames.f k l) (l.map fr) := by
  have key : ∀ d i, i + d = l.length → Ev (fun k => estoverslaw30_Frames.l0 k ((l.take i).map fr) l (l.length : Int) (i : Int)) (l.map fr) := by
    intro d
    induction d with
    | zero =>
      intro i hi
      obtain rfl : i = l.length := by omega
      refine Ev.step (f := fun _ => some _) (fun k => ?_) (Ev.now _)
      simp only [estoverslaw30_Frames.l0]
      rw [if_neg (by omega), List.take_length]
    | succ d ih =>
      intro i hi
      have hil : i < l.length := by omega
      refine Ev.step (fun k => ?_) (ih (i + 1) (by omega))
      simp only [estoverslaw30_Frames.l0]
      rw [if_pos (by omega), if_pos (by omega), if_pos (by omega), if_pos (by simp; omega), w64s hil (by omega)]
      congr 1
      rw [List.take_succ_eq_append_getElem hil, List.map_append]
      have e : rd_T61 l (i : Int) = l[i] := by
        show l.getD i _ = _
        simp [List.getD, hil]
      rw [e]
      rfl
  exact Ev.congr (fun k => rfl) (key l.length 0 (by omega))
/-- A frame that can be cleaned. -/
def rdy (f : S35) : Prop := f.f0 = 4 ∧ f.f10 = true ∧ f.f1 = 0
instance (f : S35) : Decidable (rdy f) := by unfold rdy; infer_instance
/-- The oldest of the first i frames, or -1. -/
def old (l : List S35) : Nat → Int
  | 0 => -1
  | i + 1 => if rdy (fat l i) ∧ (old l i < 0 ∨ (fat l i).f9 < (fat l (old l i).toNat).f9) then (i : Int) else old l i
theorem old_lt (l : List S35) : ∀ i, -1 ≤ old l i ∧ old l i < (i : Int)
  | 0 => ⟨Int.le_refl _, by simp [old]⟩
  | i + 1 => by
    have ih := old_lt l i
    unfold old
    split <;> omega
theorem prog_oldest (l : List S35) (hn : l.length ≤ 1000) : Ev (fun k => throttle_Oldest.f k l) (old l l.length) := by
  have key : ∀ d i, i + d = l.length → Ev (fun k => throttle_Oldest.l0 k l (old l i) l (l.length : Int) (i : Int)) (old l l.length) := by
    intro d
    induction d with
    | zero =>
      intro i hi
      obtain rfl : i = l.length := by omega
      refine Ev.step (f := fun _ => some _) (fun k => ?_) (Ev.now _)
      simp only [throttle_Oldest.l0]
      rw [if_neg (by omega)]
    | succ d ih =>
      intro i hi
      have hil : i < l.length := by omega
      have hb := old_lt l i
      have hg := ih (i + 1) (by omega)
      have hj : ∀ b : Bool, (b = true ↔ ¬ rdy (fat l i)) → Ev (fun k => throttle_Oldest.j1 k l (old l i) (i : Int) l (l.length : Int) (i : Int) b ((fat l i).f0) ((fat l i).f1) ((fat l i).f2) ((fat l i).f3) ((fat l i).f4) ((fat l i).f5) ((fat l i).f6) ((fat l i).f7) ((fat l i).f8) ((fat l i).f9) ((fat l i).f10) ((fat l i).f11) ((fat l i).f12) ((fat l i).f13) ((fat l i).f14) ((fat l i).f15)) (old l l.length) := by
        intro b hbr
        refine Ev.step (fun k => ?_) hg
        simp only [throttle_Oldest.j1]
        rw [w64s hil (by omega)]
        cases b with
        | true =>
          rw [if_pos rfl, old, if_neg (fun h => (hbr.1 rfl) h.1)]
        | false =>
          have hr : rdy (fat l i) := Decidable.byContradiction fun h => by simpa using hbr.2 h
          rw [if_neg (by decide)]
          by_cases h0 : old l i < 0
          · rw [if_pos h0, old, if_pos ⟨hr, .inl h0⟩]
          · have e : rd_T35 l (old l i) = fat l (old l i).toNat := rfl
            rw [if_neg h0, if_pos (by omega), if_pos (by omega), e]
            by_cases h1 : (fat l i).f9 < (fat l (old l i).toNat).f9
            · rw [if_pos h1, old, if_pos ⟨hr, .inr h1⟩]
            · rw [if_neg h1, old, if_neg (by rintro ⟨_, h | h⟩ <;> contradiction)]
      by_cases h4 : (fat l i).f0 = 4
      · by_cases h10 : (fat l i).f10 = true
        · refine Ev.step (fun k => ?_) (hj ((fat l i).f1 != 0) (by unfold rdy; simp [h4, h10]))
          simp only [throttle_Oldest.l0]
          rw [if_pos (by omega), if_pos (by omega), if_pos (by omega), rd_fat, if_pos h4, if_pos h10]
        · refine Ev.step (fun k => ?_) (hj true (by unfold rdy; simp [h10]))
          simp only [throttle_Oldest.l0]
          rw [if_pos (by omega), if_pos (by omega), if_pos (by omega), rd_fat, if_pos h4, if_neg h10]
      · refine Ev.step (fun k => ?_) (hj true (by unfold rdy; simp [h4]))
        simp only [throttle_Oldest.l0]
        rw [if_pos (by omega), if_pos (by omega), if_pos (by omega), rd_fat, if_neg h4]
  exact Ev.congr (fun k => rfl) (key l.length 0 (by omega))
/-- What the oldest is. -/
theorem old_spec (l : List S35) : ∀ i, (old l i = -1 ∧ ∀ j, j < i → ¬ rdy (fat l j)) ∨
    (0 ≤ old l i ∧ rdy (fat l (old l i).toNat) ∧ ∀ j, j < i → rdy (fat l j) → (fat l (old l i).toNat).f9 ≤ (fat l j).f9 ∧ ((fat l j).f9 = (fat l (old l i).toNat).f9 → old l i ≤ (j : Int)))
  | 0 => .inl ⟨rfl, fun j hj => absurd hj (Nat.not_lt_zero _)⟩
  | i + 1 => by
    have hb := old_lt l i
    rcases old_spec l i with ⟨h1, h2⟩ | ⟨h1, h2, h3⟩
    · by_cases hr : rdy (fat l i)
      · right
        have e : old l (i + 1) = (i : Int) := by rw [old, if_pos ⟨hr, .inl (by omega)⟩]
        rw [e]
        refine ⟨by omega, by simpa using hr, fun j hj hrj => ?_⟩
        rcases Nat.lt_succ_iff_lt_or_eq.1 hj with h | rfl
        · exact absurd hrj (h2 j h)
        · exact ⟨by simp, fun _ => Int.le_refl _⟩
      · left
        have e : old l (i + 1) = old l i := by rw [old, if_neg (fun h => hr h.1)]
        rw [e]
        refine ⟨h1, fun j hj => ?_⟩
        rcases Nat.lt_succ_iff_lt_or_eq.1 hj with h | rfl
        · exact h2 j h
        · exact hr
    · right
      by_cases hc : rdy (fat l i) ∧ (fat l i).f9 < (fat l (old l i).toNat).f9
      · have e : old l (i + 1) = (i : Int) := by rw [old, if_pos ⟨hc.1, .inr hc.2⟩]
        rw [e]
        refine ⟨by omega, by simpa using hc.1, fun j hj hrj => ?_⟩
        rw [Int.toNat_natCast]
        rcases Nat.lt_succ_iff_lt_or_eq.1 hj with h | rfl
        · have := h3 j h hrj
          exact ⟨by omega, fun h5 => by omega⟩
        · exact ⟨Int.le_refl _, fun _ => Int.le_refl _⟩
      · have e : old l (i + 1) = old l i := by rw [old, if_neg (fun h => h.2.elim (fun b => by omega) (fun b => hc ⟨h.1, b⟩))]
        rw [e]
        refine ⟨h1, h2, fun j hj hrj => ?_⟩
        rcases Nat.lt_succ_iff_lt_or_eq.1 hj with h | rfl
        · exact h3 j h hrj
        · refine ⟨?_, fun _ => by omega⟩
          exact Int.not_lt.1 fun h => hc ⟨hrj, h⟩
theorem aw30 : Ev (fun k => estoverslaw30_awake.f k) true := Ev.of (fun k => estoverslaw30_awake.mono k) (k := 30) (by kernel_rfl)

/-! ### Counting frames -/
def cntP (p : S35 → Bool) (l : List S35) : Nat → Nat
  | 0 => 0
  | i + 1 => cntP p l i + if p (fat l i) = true then 1 else 0
theorem cntP_le (p : S35 → Bool) (l : List S35) : ∀ i, cntP p l i ≤ i
  | 0 => Nat.le_refl _
  | i + 1 => by
    have := cntP_le p l i
    unfold cntP
    split <;> omega
theorem fat_set (l : List S35) {k : Nat} (hk : k < l.length) (v : S35) (i : Nat) : fat (l.set k v) i = if i = k then v else fat l i := by
  unfold fat
  by_cases h : i = k
  · subst h
    rw [if_pos rfl, List.getD_eq_getElem?_getD, List.getElem?_set_self hk]
    rfl
  · rw [if_neg h, List.getD_eq_getElem?_getD, List.getElem?_set_ne (fun e => h e.symm), ← List.getD_eq_getElem?_getD]
theorem cntP_set (p : S35 → Bool) (l : List S35) {k : Nat} (hk : k < l.length) (v : S35) :
    ∀ i, cntP p (l.set k v) i + (if k < i ∧ p (fat l k) = true then 1 else 0) = cntP p l i + (if k < i ∧ p v = true then 1 else 0)
  | 0 => by simp [cntP]
  | i + 1 => by
    have ih := cntP_set p l hk v i
    unfold cntP
    rw [fat_set l hk v i]
    by_cases h : i = k
    · subst h
      rw [if_pos rfl]
      rw [if_neg (by omega), if_neg (by omega)] at ih
      by_cases h1 : p (fat l i) = true <;> by_cases h2 : p v = true <;> simp [h1, h2] <;> omega
    · rw [if_neg h]
      have e : k < i + 1 ↔ k < i := by omega
      simp only [e]
      omega
theorem cntP_zero (p : S35 → Bool) (l : List S35) : ∀ i, cntP p l i = 0 → ∀ j, j < i → ¬ p (fat l j) = true
  | 0, _, j, hj => absurd hj (Nat.not_lt_zero _)
  | i + 1, h, j, hj => by
    unfold cntP at h
    rcases Nat.lt_succ_iff_lt_or_eq.1 hj with h1 | rfl
    · exact cntP_zero p l i (by omega) j h1
    · intro h2
      rw [if_pos h2] at h
      omega
theorem cntP_pos (p : S35 → Bool) (l : List S35) : ∀ i, 0 < cntP p l i → ∃ j, j < i ∧ p (fat l j) = true
  | 0, h => absurd h (Nat.not_lt_zero _)
  | i + 1, h => by
    by_cases h2 : p (fat l i) = true
    · exact ⟨i, by omega, h2⟩
    · unfold cntP at h
      rw [if_neg h2] at h
      obtain ⟨j, hj, hp⟩ := cntP_pos p l i (by omega)
      exact ⟨j, by omega, hp⟩

-- PARTS: base thr1 thr2
def ctd (f : S35) : Bool := decide (f.f0 = 4) && (f.f10 || decide (f.f1 = 2) || decide (f.f1 = 4))
theorem prog_counts (f : S35) : throttle_Counts.f f.f0 f.f1 f.f2 f.f3 f.f4 f.f5 f.f6 f.f7 f.f8 f.f9 f.f10 f.f11 f.f12 f.f13 f.f14 f.f15 = some (ctd f) := by
  unfold throttle_Counts.f ctd
  by_cases h0 : f.f0 = 4
  · rw [if_pos h0]
    by_cases h1 : f.f10 = true
    · simp [h0, h1]
    · by_cases h2 : f.f1 = 2
      · simp [h0, h1, h2]
      · simp only [Bool.not_eq_true] at h1
        simp only [h0, h1, h2]
        by_cases h3 : f.f1 = 4 <;> simp [h3]
  · simp [h0]
theorem prog_count (l : List S35) (hn : l.length ≤ 1000) : Ev (fun k => throttle_Count.f k l) (cntP ctd l l.length : Int) := by
  have key : ∀ d i, i + d = l.length → Ev (fun k => throttle_Count.l0 k l (cntP ctd l i : Int) (l.length : Int) (i : Int)) (cntP ctd l l.length : Int) := by
    intro d
    induction d with
    | zero =>
      intro i hi
      obtain rfl : i = l.length := by omega
      refine Ev.step (f := fun _ => some _) (fun k => ?_) (Ev.now _)
      simp only [throttle_Count.l0]
      rw [if_neg (by omega)]
    | succ d ih =>
      intro i hi
      have hil : i < l.length := by omega
      have hc := cntP_le ctd l i
      refine Ev.step (fun k => ?_) (ih (i + 1) (by omega))
      simp only [throttle_Count.l0]
      rw [if_pos (by omega), if_pos (by omega), if_pos (by omega), rd_fat, prog_counts, w64s hil (by omega), w64s (i := cntP ctd l i) (n := 1001) (by omega) (by omega)]
      simp only [Option.bind_some]
      by_cases h : ctd (fat l i) = true
      · rw [if_pos h, cntP, if_pos h]
      · rw [if_neg h, cntP, if_neg h]
        rfl
  exact Ev.congr (fun k => rfl) (key l.length 0 (by omega))
/-- 20 frames of files, of which at most m count. -/
structure Lim (m : Int) (f : List S35) : Prop where
  len : f.length = 20
  kind : ∀ i, i < 20 → (fat f i).f0 = 4
  few : (cntP ctd f 20 : Int) ≤ m
theorem Lim.set {m : Int} {f : List S35} (h : Lim m f) {i : Nat} (hi : i < 20) {v : S35} (h4 : v.f0 = 4) (hc : ctd v = true → ctd (fat f i) = true ∨ (cntP ctd f 20 : Int) < m) : Lim m (f.set i v) := by
  have hl := h.len
  have hf := h.few
  refine ⟨by simp [hl], fun j hj => ?_, ?_⟩
  · rw [fat_set f (by omega)]
    split
    · exact h4
    · exact h.kind j hj
  · have := cntP_set ctd f (k := i) (by omega) v 20
    simp only [hi, true_and] at this
    by_cases h1 : ctd v = true
    · rw [if_pos h1] at this
      rcases hc h1 with h2 | h2
      · rw [if_pos h2] at this
        omega
      · split at this <;> omega
    · rw [if_neg h1] at this
      split at this <;> omega
def z4 : S35 := ⟨4, 0, 0, 0, 0, 0, 0, 0, 0, 0, false, false, false, 0, [], []⟩
def st (i : Nat) : List S35 := (List.range 20).map fun (p : Nat) => if p < i then z4 else z35
theorem st_len (i : Nat) : (st i).length = 20 := by simp [st]
theorem st_step {i : Nat} (hi : i < 20) : (st i).set i z4 = st (i + 1) := by
  apply List.ext_getElem?
  intro p
  by_cases hp : p < 20
  · by_cases h1 : p = i
    · subst h1
      rw [List.getElem?_set_self (by rw [st_len]; exact hp)]
      simp [st, hp]
    · rw [List.getElem?_set_ne (by omega)]
      simp only [st, List.getElem?_map, List.getElem?_range hp, Option.map_some]
      congr 1
      by_cases h3 : p < i
      · rw [if_pos h3, if_pos (by omega)]
      · rw [if_neg h3, if_neg (by omega)]
  · simp [st, hp]
theorem st_at {i : Nat} (hi : i < 20) : fat (st i) i = z35 := by
  unfold fat st
  simp [List.getD, hi]
theorem lim_start {m : Int} (hm : 0 ≤ m) : Lim m (st 20) := by
  refine ⟨st_len 20, fun i hi => ?_, ?_⟩
  · unfold fat st
    simp [List.getD, hi]
    rfl
  · have : cntP ctd (st 20) 20 = 0 := by decide
    omega
/-- Behind a step: the checks hold, and it goes on. -/
theorem lim_j4 {m : Int} {l : List Int} {f : List S35} (h : Lim m f) (hm0 : 0 ≤ m) (hm1 : m ≤ 255) {j : Nat} (hj : j < l.length) (hl : l.length ≤ 100)
    (hg : Ev (fun k => estoverslaw30_ThrottleLimits.l1 k m f l (l.length : Int) ((j + 1 : Nat) : Int)) true) :
    Ev (fun k => estoverslaw30_ThrottleLimits.j4 k m f l (l.length : Int) (j : Int)) true := by
  have hw : wrap64 m = m := w64 (by omega) (by omega)
  have hlen := h.len
  have hf := h.few
  have hc := prog_count f (by omega)
  rw [hlen] at hc
  refine Ev.step (fun k => by simp only [estoverslaw30_ThrottleLimits.j4]; rw [hw, w64s hj (by omega)]) ?_
  refine Ev.bindS hc ?_
  refine Ev.congr (fun k => if_neg (by omega)) ?_
  refine Ev.congr (fun k => if_neg (by omega)) ?_
  have hb : throttle_Background.f (cntP ctd f 20 : Int) m = some (decide ((cntP ctd f 20 : Int) > m / 2)) := by
    unfold throttle_Background.f
    rw [if_pos (by omega), if_pos (by omega), Int.tdiv_eq_ediv_of_nonneg hm0, w64 (by omega) (by omega)]
  rw [hb]
  simp only [Option.bind_some]
  by_cases h1 : (cntP ctd f 20 : Int) > m / 2
  · exact Ev.congr (fun k => by rw [if_pos (by simpa using h1)]) hg
  · refine Ev.congr (fun k => if_neg (by simpa using h1)) ?_
    by_cases h2 : m > 0
    · refine Ev.congr (fun k => if_pos h2) ?_
      have ha : Ev (fun k => throttle_Allowed.f k f m) (decide ((cntP ctd f 20 : Int) < m)) := Ev.bindS hc (Ev.now _)
      refine Ev.bindS ha ?_
      exact Ev.congr (fun k => by rw [if_pos (by simp; omega)]) hg
    · exact Ev.congr (fun k => if_neg h2) hg
theorem lim_l1 {m : Int} (hm0 : 0 ≤ m) (hm1 : m ≤ 255) {l : List Int} (hl : l.length ≤ 100) (hw : ∀ x ∈ l, (Lit.int .u8 x).wf = true) :
    ∀ d j (f : List S35), j + d = l.length → Lim m f → Ev (fun k => estoverslaw30_ThrottleLimits.l1 k m f l (l.length : Int) (j : Int)) true := by
  intro d
  induction d with
  | zero =>
    intro j f hj _
    refine Ev.step (f := fun _ => some true) (fun k => ?_) (Ev.now _)
    simp only [estoverslaw30_ThrottleLimits.l1]
    rw [if_neg (by omega)]
  | succ d ih =>
    intro j f hj h
    have hjl : j < l.length := by omega
    have hlen := h.len
    have hwm : wrap64 m = m := w64 (by omega) (by omega)
    have hx : 0 ≤ rd l (j : Int) ∧ rd l (j : Int) ≤ 255 := by
      refine wf_u8 (hw _ ?_)
      show l.getD j 0 ∈ l
      rw [List.getD_eq_getElem?_getD, List.getElem?_eq_getElem hjl]
      exact List.getElem_mem hjl
    obtain ⟨x, hxe⟩ : ∃ x : Nat, rd l (j : Int) = (x : Int) := ⟨(rd l (j : Int)).toNat, by omega⟩
    rw [hxe] at hx
    have hi : wrap64 (Int.tmod (x : Int) 20) = ((x % 20 : Nat) : Int) := by
      rw [Int.tmod_eq_emod_of_nonneg (by omega), w64 (by omega) (by omega)]
      omega
    have hi20 : x % 20 < 20 := by omega
    have hk := h.kind _ hi20
    have hnext : ∀ f', Lim m f' → Ev (fun k => estoverslaw30_ThrottleLimits.j4 k m f' l (l.length : Int) (j : Int)) true := fun f' h' => lim_j4 h' hm0 hm1 hjl hl (ih (j + 1) f' (by omega) h')
    have hclean : Ev (fun k => (some (f.set (((x % 20 : Nat) : Int) : Int).toNat (⟨(rd_T35 f ((x % 20 : Nat) : Int)).f0, (rd_T35 f ((x % 20 : Nat) : Int)).f1, (rd_T35 f ((x % 20 : Nat) : Int)).f2, (rd_T35 f ((x % 20 : Nat) : Int)).f3, (rd_T35 f ((x % 20 : Nat) : Int)).f4, (rd_T35 f ((x % 20 : Nat) : Int)).f5, (rd_T35 f ((x % 20 : Nat) : Int)).f6, (rd_T35 f ((x % 20 : Nat) : Int)).f7, (rd_T35 f ((x % 20 : Nat) : Int)).f8, (rd_T35 f ((x % 20 : Nat) : Int)).f9, false, (rd_T35 f ((x % 20 : Nat) : Int)).f11, (rd_T35 f ((x % 20 : Nat) : Int)).f12, (rd_T35 f ((x % 20 : Nat) : Int)).f13, (rd_T35 f ((x % 20 : Nat) : Int)).f14, (rd_T35 f ((x % 20 : Nat) : Int)).f15⟩ : S35) : List S35)).bind fun y177 => (estoverslaw30_ThrottleLimits.j4 k m (y177.set (((x % 20 : Nat) : Int) : Int).toNat (⟨(rd_T35 y177 ((x % 20 : Nat) : Int)).f0, 0, (rd_T35 y177 ((x % 20 : Nat) : Int)).f2, (rd_T35 y177 ((x % 20 : Nat) : Int)).f3, (rd_T35 y177 ((x % 20 : Nat) : Int)).f4, (rd_T35 y177 ((x % 20 : Nat) : Int)).f5, (rd_T35 y177 ((x % 20 : Nat) : Int)).f6, (rd_T35 y177 ((x % 20 : Nat) : Int)).f7, (rd_T35 y177 ((x % 20 : Nat) : Int)).f8, (rd_T35 y177 ((x % 20 : Nat) : Int)).f9, (rd_T35 y177 ((x % 20 : Nat) : Int)).f10, (rd_T35 y177 ((x % 20 : Nat) : Int)).f11, (rd_T35 y177 ((x % 20 : Nat) : Int)).f12, (rd_T35 y177 ((x % 20 : Nat) : Int)).f13, (rd_T35 y177 ((x % 20 : Nat) : Int)).f14, (rd_T35 y177 ((x % 20 : Nat) : Int)).f15⟩ : S35)) l (l.length : Int) (j : Int))) true := by
      simp only [Option.bind_some, Int.toNat_natCast, rd_fat]
      refine hnext _ (Lim.set (Lim.set h hi20 ?_ (fun hc => ?_)) hi20 ?_ (fun hc => ?_))
      · exact hk
      · left
        simp [ctd, hk] at hc ⊢
        rcases hc with h5 | h5 <;> simp [h5]
      · rw [fat_set f (by omega), if_pos rfl]
        exact hk
      · rw [fat_set f (by omega), if_pos rfl] at hc
        simp [ctd, hk] at hc
    have hj3 : ∀ b : Bool, (b = true → (x : Int) ≥ 160 ∧ (fat f (x % 20)).f10 = true) → Ev (fun k => estoverslaw30_ThrottleLimits.j3 k m f (x : Int) ((x % 20 : Nat) : Int) l (l.length : Int) (j : Int) b) true := by
      intro b hb
      cases b with
      | true =>
        obtain ⟨_, h10⟩ := hb rfl
        refine Ev.step (fun k => ?_) (hnext (f.set (x % 20) ⟨(fat f (x % 20)).f0, 4, (fat f (x % 20)).f2, (fat f (x % 20)).f3, (fat f (x % 20)).f4, (fat f (x % 20)).f5, (fat f (x % 20)).f6, (fat f (x % 20)).f7, (fat f (x % 20)).f8, (fat f (x % 20)).f9, (fat f (x % 20)).f10, (fat f (x % 20)).f11, (fat f (x % 20)).f12, (fat f (x % 20)).f13, (fat f (x % 20)).f14, (fat f (x % 20)).f15⟩) (Lim.set h hi20 hk (fun _ => .inl (by simp [ctd, hk, h10]))))
        simp only [estoverslaw30_ThrottleLimits.j3]
        rw [if_pos trivial, if_pos (by omega), if_pos (by omega), Int.toNat_natCast, rd_fat]
      | false =>
        by_cases h80 : (x : Int) ≥ 80
        · refine Ev.step (fun k => ?_) hclean
          simp only [estoverslaw30_ThrottleLimits.j3]
          rw [if_neg (by decide), if_pos h80, if_pos (by omega), if_pos (by omega)]
        · have hc := prog_count f (by omega)
          rw [hlen] at hc
          have ha : Ev (fun k => throttle_Allowed.f k f m) (decide ((cntP ctd f 20 : Int) < m)) := Ev.bindS hc (Ev.now _)
          refine Ev.step (fun k => by simp only [estoverslaw30_ThrottleLimits.j3]; rw [if_neg (by decide), if_neg h80, hwm]) ?_
          refine Ev.bindS ha ?_
          by_cases hlt : (cntP ctd f 20 : Int) < m
          · rw [decide_eq_true hlt]
            refine Ev.congr (fun k => ?_) (hnext (f.set (x % 20) ⟨(fat f (x % 20)).f0, (fat f (x % 20)).f1, (fat f (x % 20)).f2, (fat f (x % 20)).f3, (fat f (x % 20)).f4, (fat f (x % 20)).f5, (fat f (x % 20)).f6, (fat f (x % 20)).f7, (fat f (x % 20)).f8, (fat f (x % 20)).f9, true, (fat f (x % 20)).f11, (fat f (x % 20)).f12, (fat f (x % 20)).f13, (fat f (x % 20)).f14, (fat f (x % 20)).f15⟩) (Lim.set h hi20 hk (fun _ => .inr hlt)))
            rw [if_pos rfl, if_pos (by omega), if_pos (by omega), Int.toNat_natCast, rd_fat]
          · rw [decide_eq_false hlt]
            exact Ev.congr (fun k => if_neg (by decide)) (hnext f h)
    by_cases h160 : (x : Int) ≥ 160
    · refine Ev.step (fun k => ?_) (hj3 ((fat f (x % 20)).f10) (fun hb => ⟨h160, hb⟩))
      simp only [estoverslaw30_ThrottleLimits.l1]
      rw [if_pos (by omega), if_pos (by omega), if_pos (by omega), hxe, hi, if_pos h160, if_pos (by omega), if_pos (by omega), rd_fat]
    · refine Ev.step (fun k => ?_) (hj3 false (fun hb => by cases hb))
      simp only [estoverslaw30_ThrottleLimits.l1]
      rw [if_pos (by omega), if_pos (by omega), if_pos (by omega), hxe, hi, if_neg h160]
theorem lim_l0 {m : Int} {l : List Int} (h : Ev (fun k => estoverslaw30_ThrottleLimits.l1 k m (st 20) l (l.length : Int) 0) true) :
    Ev (fun k => estoverslaw30_ThrottleLimits.l0 k l m (st 0) 20 0) true := by
  have key : ∀ d i, i + d = 20 → Ev (fun k => estoverslaw30_ThrottleLimits.l0 k l m (st i) 20 (i : Int)) true := by
    intro d
    induction d with
    | zero =>
      intro i hi
      obtain rfl : i = 20 := by omega
      refine Ev.step (fun k => ?_) h
      simp only [estoverslaw30_ThrottleLimits.l0]
      rw [if_neg (by omega)]
    | succ d ih =>
      intro i hi
      refine Ev.step (fun k => ?_) (ih (i + 1) (by omega))
      simp only [estoverslaw30_ThrottleLimits.l0]
      rw [if_pos (by omega), if_pos (by omega), if_pos (by rw [st_len]; omega), rd_fat, st_at (by omega), w64s (n := 20) (by omega) (by omega), Int.toNat_natCast, ← st_step (by omega)]
      rfl
  exact key 20 0 (by omega)
theorem ThrottleLimits : estoverslaw30_ThrottleLimits.Pure := by
  intro l m _ _ hw hm
  have hmb := wf_u8 hm
  refine Ev.rounds ?_
  refine Ev.bindS aw30 ?_
  refine Ev.congr (fun k => if_pos rfl) ?_
  by_cases hl : (l.length : Int) > 100
  · rw [decide_eq_true hl]
    refine Ev.step (f := fun k => (estoverslaw30_awake.f k).bind fun t => some t) (fun k => by simp [estoverslaw30_ThrottleLimits.j0]) ?_
    exact Ev.bindS aw30 (Ev.now _)
  · rw [decide_eq_false hl]
    refine Ev.step (f := fun k => estoverslaw30_ThrottleLimits.l0 k l m (st 0) 20 0) (fun k => ?_) ?_
    · simp only [estoverslaw30_ThrottleLimits.j0]
      rw [if_neg (by decide), if_pos (by decide)]
      rfl
    · exact lim_l0 (lim_l1 hmb.1 hmb.2 (l := l) (by omega) hw l.length 0 (st 20) (by omega) (lim_start hmb.1))

end Go.Proofs.Ytpomppjeknmciaa.Pure
