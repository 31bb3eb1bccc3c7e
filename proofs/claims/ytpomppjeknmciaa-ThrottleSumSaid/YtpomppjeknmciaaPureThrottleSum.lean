/- For every list of accounts and limit: where account 0 uses something, the shares of the children of an account add up to at most its own share; no condition. -/
import Derived.Test.YtpomppjeknmciaaPThrottleSumx
import Derived.Test.YtpomppjeknmciaaQThrottleSum
namespace Go.Proofs.Ytpomppjeknmciaa.Pure
open Go.RowKit Go.Proofs.Ytpomppjeknmciaa.PThrottleSum Go.Proofs.YtpomppjeknmciaaW.PrintWords Go.Proofs.YtpomppjeknmciaaW.PrintLast Go.Proofs.YtpomppjeknmciaaW.PrintMore

theorem Ev.bindS {α β : Type} {g : Nat → Option α} {f : Nat → α → Option β} {a : α} {r : β} (h : Ev g a) (k : Ev (fun n => f n a) r) : Ev (fun n => (g n).bind fun x => f n x) r := Ev.bind h k
theorem Ev.some {α : Type} {g : Nat → Option α} {r : α} (h : ∀ k, g k = Option.some r) : Ev g r := Ev.congr h (Ev.now r)
theorem w64 {x : Int} (h0 : -9223372036854775808 ≤ x) (h1 : x ≤ 9223372036854775807) : wrap64 x = x := by
  unfold wrap64
  omega
theorem w64s {i n : Nat} (h : i < n) (hn : n ≤ 1000000) : wrap64 ((i : Int) + 1) = ((i + 1 : Nat) : Int) := by
  unfold wrap64
  omega
theorem wf_u16 {n : Int} (h : (Lit.int .u16 n).wf = true) : 0 ≤ n ∧ n ≤ 65535 := by
  simp only [Lit.wf, Bool.and_eq_true, decide_eq_true_eq] at h
  exact ⟨h.1, h.2⟩
theorem wf_u8 {n : Int} (h : (Lit.int .u8 n).wf = true) : 0 ≤ n ∧ n ≤ 255 := by
  simp only [Lit.wf, Bool.and_eq_true, decide_eq_true_eq] at h
  exact ⟨h.1, h.2⟩
theorem wf_i64 {n : Int} (h : (Lit.int .i64 n).wf = true) : -9223372036854775808 ≤ n ∧ n ≤ 9223372036854775807 := by
  simp only [Lit.wf, Bool.and_eq_true, decide_eq_true_eq] at h
  exact ⟨h.1, h.2⟩

/-! ### Accounts: what Check computes, told without the program -/

theorem Ev.unique {α : Type} {g : Nat → Option α} {a b : α} (h : Ev g a) (k : Ev g b) : a = b := by
  obtain ⟨K, hK⟩ := h
  obtain ⟨L, hL⟩ := k
  have e1 := hK (max K L) (Nat.le_max_left _ _)
  have e2 := hL (max K L) (Nat.le_max_right _ _)
  exact Option.some.inj (e1.symm.trans e2)
/-- One round, at a number of rounds that is not zero. -/
theorem Ev.stepS {α : Type} {g f : Nat → Option α} {r : α} (h : ∀ k, g (k + 1) = f k) (k : Ev f r) : Ev g r := Ev.step h k
/-- A loop that looks at one place after the other and ends at the first that is wrong. -/
theorem Ev.scan {β : Type} (g : Nat → Int → Option β) (n : Nat) (P : Nat → Prop) [DecidablePred P] (bad r : β)
    (hgo : ∀ i, i < n → P i → ∀ q, Ev (fun k => g k ((i + 1 : Nat) : Int)) q → Ev (fun k => g k (i : Int)) q)
    (hbad : ∀ i, i < n → ¬ P i → Ev (fun k => g k (i : Int)) bad)
    (hend : (∀ i, i < n → P i) → Ev (fun k => g k (n : Int)) r) :
    Ev (fun k => g k 0) (if ∀ i, i < n → P i then r else bad) := by
  have key : ∀ d i, i + d = n → (∀ j, j < i → P j) → Ev (fun k => g k (i : Int)) (if ∀ i, i < n → P i then r else bad) := by
    intro d
    induction d with
    | zero =>
      intro i hi hp
      obtain rfl : i = n := by omega
      rw [if_pos hp]
      exact hend hp
    | succ d ih =>
      intro i hi hp
      by_cases h : P i
      · refine hgo i (by omega) h _ (ih (i + 1) (by omega) ?_)
        intro j hj
        rcases Nat.lt_succ_iff_lt_or_eq.1 hj with h1 | rfl
        · exact hp j h1
        · exact h
      · rw [if_neg (fun h2 => h (h2 i (by omega)))]
        exact hbad i (by omega) h
  exact key n 0 (by omega) (fun j hj => absurd hj (Nat.not_lt_zero _))



/-- The account at a place. -/
def acc (l : List S43) (i : Nat) : S43 := l.getD i z43
theorem rd_acc (l : List S43) (i : Nat) : rd_T43 l (i : Int) = acc l i := rfl
def inR (x : Int) : Prop := 0 ≤ x ∧ x ≤ 1048576
instance (x : Int) : Decidable (inR x) := by unfold inR; infer_instance
def treeAt (l : List S43) (i : Nat) : Prop := if i = 0 then (acc l i).f0 = -1 else 0 ≤ (acc l i).f0 ∧ (acc l i).f0 < i
instance (l : List S43) (i : Nat) : Decidable (treeAt l i) := by unfold treeAt; infer_instance
def amtAt (l : List S43) (i : Nat) : Prop := inR (acc l i).f1 ∧ inR (acc l i).f2 ∧ inR (acc l i).f3 ∧ inR (acc l i).f4
instance (l : List S43) (i : Nat) : Decidable (amtAt l i) := by unfold amtAt; infer_instance
/-- The sum of f over the places j of 1 .. n - 1 whose Parent is i. -/
def kidsTo (l : List S43) (i : Int) : Nat → Int
  | 0 => 0
  | n + 1 => kidsTo l i n + if n ≥ 1 ∧ (acc l n).f0 = i then (acc l n).f1 else 0
def kids (l : List S43) (i : Int) : Int := kidsTo l i l.length
def rootOk (l : List S43) : Prop := (acc l 0).f2 = 0 ∧ (acc l 0).f3 = 0
instance (l : List S43) : Decidable (rootOk l) := by unfold rootOk; infer_instance
def maxAt (l : List S43) (i : Nat) : Prop := (acc l i).f1 ≤ (acc l i).f4
instance (l : List S43) (i : Nat) : Decidable (maxAt l i) := by unfold maxAt; infer_instance
def ownAt (l : List S43) (i : Nat) : Prop := kids l i ≤ (acc l i).f1
instance (l : List S43) (i : Nat) : Decidable (ownAt l i) := by unfold ownAt; infer_instance
/-- The error of a list of accounts. -/
def chk (l : List S43) : Int :=
  if l.length < 1 ∨ l.length > 8 then 9
  else if ∀ i, i < l.length → treeAt l i then
    if ∀ i, i < l.length → amtAt l i then
      if rootOk l then
        if ∀ i, i < l.length → maxAt l i then
          if ∀ i, i < l.length → ownAt l i then 0 else 11
        else 17
      else 2
    else 2
  else 1
/-- The list is valid. -/
structure Ok (l : List S43) : Prop where
  pos : 1 ≤ l.length
  few : l.length ≤ 8
  tree : ∀ i, i < l.length → treeAt l i
  amt : ∀ i, i < l.length → amtAt l i
  root : rootOk l
  max : ∀ i, i < l.length → maxAt l i
  own : ∀ i, i < l.length → ownAt l i
theorem chk_ok {l : List S43} : chk l = 0 ↔ Ok l := by
  unfold chk
  constructor
  · intro h
    split at h
    · exact absurd h (by decide)
    split at h
    · split at h
      · split at h
        · split at h
          · split at h
            · exact ⟨by omega, by omega, ‹_›, ‹_›, ‹_›, ‹_›, ‹_›⟩
            · exact absurd h (by decide)
          · exact absurd h (by decide)
        · exact absurd h (by decide)
      · exact absurd h (by decide)
    · exact absurd h (by decide)
  · intro h
    have := h.pos
    have := h.few
    rw [if_neg (by omega), if_pos h.tree, if_pos h.amt, if_pos h.root, if_pos h.max, if_pos h.own]
theorem Ok.par0 {l : List S43} (h : Ok l) : (acc l 0).f0 = -1 := by
  have := h.tree 0 h.pos
  simpa [treeAt] using this
theorem Ok.par {l : List S43} (h : Ok l) {i : Nat} (hi : i < l.length) (h0 : i ≠ 0) : 0 ≤ (acc l i).f0 ∧ (acc l i).f0 < i := by
  have := h.tree i hi
  simpa [treeAt, h0] using this

/-! the sums -/
theorem kidsTo_bd {l : List S43} (ha : ∀ i, i < l.length → amtAt l i) (p : Int) : ∀ n, n ≤ l.length → 0 ≤ kidsTo l p n ∧ kidsTo l p n ≤ 1048576 * n
  | 0, _ => ⟨Int.le_refl _, by simp [kidsTo]⟩
  | n + 1, h => by
    have ih := kidsTo_bd ha p n (by omega)
    have hn := (ha n (by omega)).1
    unfold inR at hn
    unfold kidsTo
    split <;> omega

/-! ### The program's Check -/
theorem prog_tree (l : List S43) (hn : l.length ≤ 8) : Ev (fun k => accounts_tree.f k l) (decide (∀ i, i < l.length → treeAt l i)) := by
  have h := Ev.scan (fun k i => accounts_tree.l0 k l (l.length : Int) i) l.length (treeAt l) false true ?_ ?_ ?_
  · refine Ev.congr (fun k => rfl) (f := fun k => accounts_tree.l0 k l (l.length : Int) 0) ?_
    by_cases c : ∀ i, i < l.length → treeAt l i
    · rw [if_pos c] at h; rw [decide_eq_true c]; exact h
    · rw [if_neg c] at h; rw [decide_eq_false c]; exact h
  · intro i hi hp q hq
    refine Ev.step (fun k => ?_) hq
    show accounts_tree.l0 (k + 1) l (l.length : Int) (i : Int) = _
    simp only [accounts_tree.l0]
    rw [if_pos (by omega), if_pos (by omega), if_pos (by omega), rd_acc, w64s hi (by omega)]
    unfold treeAt at hp
    by_cases h0 : i = 0
    · subst h0
      rw [if_pos rfl] at hp
      rw [if_pos (by omega), if_pos hp, if_neg (by omega)]
    · rw [if_neg h0] at hp
      rw [if_neg (by omega), if_pos (by omega), if_neg (by omega), if_neg (by omega)]
  · intro i hi hp
    refine Ev.step (f := fun _ => some false) (fun k => ?_) (Ev.now _)
    show accounts_tree.l0 (k + 1) l (l.length : Int) (i : Int) = _
    simp only [accounts_tree.l0]
    rw [if_pos (by omega), if_pos (by omega), if_pos (by omega), rd_acc]
    unfold treeAt at hp
    by_cases h0 : i = 0
    · subst h0
      rw [if_pos rfl] at hp
      rw [if_pos (by omega), if_neg hp]
    · rw [if_neg h0] at hp
      rw [if_neg (by omega), if_pos (by omega)]
      by_cases h1 : (acc l i).f0 < 0
      · rw [if_pos h1]
      · rw [if_neg h1, if_pos (by omega)]
  · intro _
    refine Ev.step (f := fun _ => some true) (fun k => ?_) (Ev.now _)
    show accounts_tree.l0 (k + 1) l (l.length : Int) (l.length : Int) = _
    simp only [accounts_tree.l0]
    rw [if_neg (by omega)]
theorem prog_in (x : Int) : accounts_in.f x = some (decide (inR x)) := by
  unfold accounts_in.f inR
  by_cases h : x ≥ 0
  · rw [if_pos h]
    simp [h]
  · rw [if_neg h]
    simp [h]
theorem prog_amounts (l : List S43) (h1 : 1 ≤ l.length) (hn : l.length ≤ 8) : Ev (fun k => accounts_amounts.f k l) (decide ((∀ i, i < l.length → amtAt l i) ∧ rootOk l)) := by
  have h := Ev.scan (fun k i => accounts_amounts.l0 k l l (l.length : Int) i) l.length (amtAt l) false (decide (rootOk l)) ?_ ?_ ?_
  · refine Ev.congr (fun k => rfl) (f := fun k => accounts_amounts.l0 k l l (l.length : Int) 0) ?_
    by_cases c : ∀ i, i < l.length → amtAt l i
    · rw [if_pos c] at h
      rw [show decide ((∀ i, i < l.length → amtAt l i) ∧ rootOk l) = decide (rootOk l) by simp [eq_true c]]; exact h
    · rw [if_neg c] at h; rw [decide_eq_false (fun z => c z.1)]; exact h
  · intro i hi hp q hq
    refine Ev.step (fun k => ?_) hq
    show accounts_amounts.l0 (k + 1) l l (l.length : Int) (i : Int) = _
    simp only [accounts_amounts.l0, prog_in]
    rw [if_pos (by omega), if_pos (by omega), if_pos (by omega), rd_acc, w64s hi (by omega)]
    obtain ⟨a, b, c, d⟩ := hp
    simp only [decide_eq_true a, decide_eq_true b, decide_eq_true c, decide_eq_true d, Option.bind_some, if_true]
  · intro i hi hp
    refine Ev.step (f := fun _ => some false) (fun k => ?_) (Ev.now _)
    show accounts_amounts.l0 (k + 1) l l (l.length : Int) (i : Int) = _
    simp only [accounts_amounts.l0, prog_in]
    rw [if_pos (by omega), if_pos (by omega), if_pos (by omega), rd_acc]
    unfold amtAt at hp
    by_cases a : inR (acc l i).f1
    · by_cases b : inR (acc l i).f2
      · by_cases c : inR (acc l i).f3
        · by_cases d : inR (acc l i).f4
          · exact absurd ⟨a, b, c, d⟩ hp
          · simp [a, b, c, d]
        · simp [a, b, c]
      · simp [a, b]
    · simp [a]
  · intro _
    refine Ev.step (f := fun _ => some (decide (rootOk l))) (fun k => ?_) (Ev.now _)
    show accounts_amounts.l0 (k + 1) l l (l.length : Int) (l.length : Int) = _
    simp only [accounts_amounts.l0]
    rw [if_neg (by omega), if_pos (by omega), show rd_T43 l 0 = acc l 0 from rfl]
    unfold rootOk
    by_cases c : (acc l 0).f2 = 0
    · rw [if_pos c]
      by_cases d : (acc l 0).f3 = 0
      · simp [c, d]
      · simp [c, d]
    · rw [if_neg c]
      simp [c]
/-- 'Some Usage is above its Max'. -/
theorem prog_index (l : List S43) (hn : l.length ≤ 8) : ∃ r : Int, Ev (fun k => api_Account_61.f k l) r ∧ (0 ≤ r ↔ ¬ ∀ i, i < l.length → maxAt l i) := by
  have key : ∀ d i, i + d = l.length → (∀ j, j < i → maxAt l j) → ∃ r : Int, Ev (fun k => api_Account_61.l0 k l (l.length : Int) (i : Int)) r ∧ (0 ≤ r ↔ ¬ ∀ i, i < l.length → maxAt l i) := by
    intro d
    induction d with
    | zero =>
      intro i hi hp
      obtain rfl : i = l.length := by omega
      refine ⟨-1, Ev.step (f := fun _ => some (-1)) (fun k => ?_) (Ev.now _), ?_⟩
      · simp only [api_Account_61.l0]
        rw [if_neg (by omega)]
      · constructor
        · intro h; omega
        · intro h; exact absurd hp h
    | succ d ih =>
      intro i hi hp
      by_cases h : maxAt l i
      · obtain ⟨r, hr, hq⟩ := ih (i + 1) (by omega) (fun j hj => by
          rcases Nat.lt_succ_iff_lt_or_eq.1 hj with h1 | rfl
          · exact hp j h1
          · exact h)
        refine ⟨r, Ev.step (fun k => ?_) hr, hq⟩
        simp only [api_Account_61.l0, accounts_Check_1.f]
        unfold maxAt at h
        rw [if_pos (by omega), if_pos (by omega), if_pos (by omega), rd_acc, w64s (n := l.length) (by omega) (by omega)]
        rw [decide_eq_false (show ¬ ((acc l i).f1 > (acc l i).f4) by omega)]
        simp
      · refine ⟨i, Ev.step (f := fun _ => some (i : Int)) (fun k => ?_) (Ev.now _), ?_⟩
        · simp only [api_Account_61.l0, accounts_Check_1.f]
          unfold maxAt at h
          rw [if_pos (by omega), if_pos (by omega), if_pos (by omega), rd_acc]
          rw [decide_eq_true (show ((acc l i).f1 > (acc l i).f4) by omega)]
          simp
        · constructor
          · intro _ h2; exact h (h2 i (by omega))
          · intro _; omega
  exact key l.length 0 (by omega) (fun j hj => absurd hj (Nat.not_lt_zero _))
theorem prog_contains (l : List S43) (hn : l.length ≤ 8) : Ev (fun k => api_Account_50.f k l) (!decide (∀ i, i < l.length → maxAt l i)) := by
  obtain ⟨r, hr, hq⟩ := prog_index l hn
  refine Ev.congr (fun k => rfl) (f := fun k => (api_Account_61.f k l).bind fun t => some (decide (t ≥ 0))) ?_
  refine Ev.bindS hr ?_
  by_cases c : ∀ i, i < l.length → maxAt l i
  · rw [decide_eq_true c]
    have : ¬ (r ≥ 0) := fun h => (hq.1 h) c
    rw [show (fun _ : Nat => some (decide (r ≥ 0))) = fun _ => some false by rw [decide_eq_false this]]
    exact Ev.now _
  · rw [decide_eq_false c]
    have : r ≥ 0 := hq.2 c
    rw [show (fun _ : Nat => some (decide (r ≥ 0))) = fun _ => some true by rw [decide_eq_true this]]
    exact Ev.now _
/-- What own's loop holds after i accounts. -/
def ownTo (l : List S43) (i : Nat) : List Int := (List.range l.length).map fun p => (if p < i then (acc l p).f1 else 0) - kidsTo l (p : Int) i
theorem ownTo_len (l : List S43) (i : Nat) : (ownTo l i).length = l.length := by simp [ownTo]
theorem ownTo_get (l : List S43) (i : Nat) {p : Nat} (hp : p < l.length) : (ownTo l i).getD p 0 = (if p < i then (acc l p).f1 else 0) - kidsTo l (p : Int) i := by
  unfold ownTo
  simp [List.getD, hp]
theorem ownTo_zero (l : List S43) : ownTo l 0 = List.replicate l.length 0 := by
  unfold ownTo
  apply List.ext_getElem?
  intro i
  by_cases hi : i < l.length <;> simp [hi, kidsTo]
/-- A Parent is a lower number, so nothing above an account has been taken off it before its own turn. -/
theorem kidsTo_low {l : List S43} (ht : ∀ i, i < l.length → treeAt l i) (p : Nat) : ∀ n, n ≤ l.length → n ≤ p + 1 → kidsTo l (p : Int) n = 0
  | 0, _, _ => rfl
  | n + 1, h, hp => by
    rw [kidsTo, kidsTo_low ht p n (by omega) (by omega)]
    have := ht n (by omega)
    unfold treeAt at this
    split
    · rename_i hc
      rw [if_neg (by omega)] at this
      omega
    · rfl
theorem ownTo_step0 {l : List S43} (hl : 0 < l.length) : (ownTo l 0).set 0 (acc l 0).f1 = ownTo l 1 := by
  apply List.ext_getElem?
  intro p
  by_cases hp : p < l.length
  · by_cases h0 : p = 0
    · subst h0
      simp [ownTo, hl, kidsTo]
    · rw [List.getElem?_set_ne (by omega)]
      simp [ownTo, hp, kidsTo, h0]
  · simp [ownTo, hp]
theorem ownTo_step {l : List S43} {i q : Nat} (hi : i < l.length) (h0 : i ≠ 0) (hq : (acc l i).f0 = (q : Int)) (hqi : q < i) :
    ((ownTo l i).set i ((ownTo l i).getD i 0 + (acc l i).f1)).set q (((ownTo l i).set i ((ownTo l i).getD i 0 + (acc l i).f1)).getD q 0 - (acc l i).f1) = ownTo l (i + 1) := by
  rw [ownTo_get l i hi, if_neg (by omega)]
  have hg : ((ownTo l i).set i (0 - kidsTo l (i : Int) i + (acc l i).f1)).getD q 0 = (acc l q).f1 - kidsTo l (q : Int) i := by
    rw [List.getD_eq_getElem?_getD, List.getElem?_set_ne (by omega), ← List.getD_eq_getElem?_getD, ownTo_get l i (by omega), if_pos hqi]
  rw [hg]
  apply List.ext_getElem?
  intro p
  by_cases hp : p < l.length
  · by_cases h1 : p = q
    · subst h1
      rw [List.getElem?_set_self (by simp [ownTo_len]; omega)]
      simp only [ownTo, List.getElem?_map, List.getElem?_range hp, Option.map_some, kidsTo]
      rw [if_pos (by omega), if_pos ⟨by omega, hq⟩]
      congr 1
      omega
    · rw [List.getElem?_set_ne (by omega)]
      by_cases h2 : p = i
      · subst h2
        rw [List.getElem?_set_self (by simp [ownTo_len]; omega)]
        simp only [ownTo, List.getElem?_map, List.getElem?_range hp, Option.map_some, kidsTo]
        rw [if_pos (by omega), if_neg (by omega)]
        congr 1
        omega
      · rw [List.getElem?_set_ne (by omega)]
        simp only [ownTo, List.getElem?_map, List.getElem?_range hp, Option.map_some, kidsTo]
        rw [if_neg (show ¬ (i ≥ 1 ∧ (acc l i).f0 = (p : Int)) by omega)]
        congr 1
        by_cases h3 : p < i
        · rw [if_pos h3, if_pos (by omega)]; omega
        · rw [if_neg h3, if_neg (by omega)]; omega
  · simp [ownTo, hp]
theorem prog_own (l : List S43) (hn : l.length ≤ 8) (ht : ∀ i, i < l.length → treeAt l i) (ha : ∀ i, i < l.length → amtAt l i) :
    Ev (fun k => accounts_own.f k l) (ownTo l l.length) := by
  have key : ∀ d i, i + d = l.length → Ev (fun k => accounts_own.l0 k (ownTo l i) l (l.length : Int) (i : Int)) (ownTo l l.length) := by
    intro d
    induction d with
    | zero =>
      intro i hi
      obtain rfl : i = l.length := by omega
      refine Ev.step (f := fun _ => some _) (fun k => ?_) (Ev.now _)
      simp only [accounts_own.l0]
      rw [if_neg (by omega)]
    | succ d ih =>
      intro i hi
      have hil : i < l.length := by omega
      have hai := (ha i hil).1
      unfold inR at hai
      have hbd := kidsTo_bd ha (i : Int) i (by omega)
      refine Ev.step (fun k => ?_) (ih (i + 1) (by omega))
      simp only [accounts_own.l0]
      rw [if_pos (by omega), if_pos (by omega), if_pos (by omega), if_pos (by rw [ownTo_len]; omega), rd_acc, w64s (n := l.length) (by omega) (by omega)]
      have hrd : rd (ownTo l i) (i : Int) = (ownTo l i).getD i 0 := rfl
      have hv : (ownTo l i).getD i 0 = 0 - kidsTo l (i : Int) i := by rw [ownTo_get l i hil, if_neg (by omega)]
      rw [hrd, w64 (by omega) (by omega)]
      simp only [Option.bind_some, Int.toNat_natCast]
      have hti := ht i hil
      unfold treeAt at hti
      by_cases h0 : i = 0
      · subst h0
        rw [if_neg (by omega)]
        rw [hv]
        have e : (0 : Int) - kidsTo l ((0 : Nat) : Int) 0 + (acc l 0).f1 = (acc l 0).f1 := by simp [kidsTo]
        rw [e, ownTo_step0 (by omega)]
      · rw [if_neg h0] at hti
        obtain ⟨q, hq⟩ : ∃ q : Nat, (acc l i).f0 = (q : Int) := ⟨(acc l i).f0.toNat, by omega⟩
        rw [hq] at hti
        rw [if_pos (by omega), hq, if_pos (by omega), if_pos (by simp [ownTo_len]; omega)]
        have haq := (ha q (by omega)).1
        unfold inR at haq
        have hbq := kidsTo_bd ha (q : Int) i (by omega)
        have hrq : rd ((ownTo l i).set i ((ownTo l i).getD i 0 + (acc l i).f1)) (q : Int) = ((ownTo l i).set i ((ownTo l i).getD i 0 + (acc l i).f1)).getD q 0 := rfl
        have hgq : ((ownTo l i).set i ((ownTo l i).getD i 0 + (acc l i).f1)).getD q 0 = (acc l q).f1 - kidsTo l (q : Int) i := by
          rw [List.getD_eq_getElem?_getD, List.getElem?_set_ne (by omega), ← List.getD_eq_getElem?_getD, ownTo_get l i (by omega), if_pos (by omega)]
        rw [hrq, w64 (by omega) (by omega), Int.toNat_natCast, ownTo_step hil h0 hq (by omega)]
  refine Ev.congr (f := fun k => accounts_own.l0 k (ownTo l 0) l (l.length : Int) 0) (fun k => ?_) (key l.length 0 (by omega))
  unfold accounts_own.f
  rw [if_pos (by omega), if_pos (by omega), Int.toNat_natCast, ownTo_zero]
theorem prog_min (xs : List Int) (h1 : 1 ≤ xs.length) (hn : xs.length ≤ 8) : ∃ m : Int, Ev (fun k => slices_Min_int_int.f k xs) m ∧ (0 ≤ m ↔ ∀ i, i < xs.length → 0 ≤ xs.getD i 0) := by
  have key : ∀ d i m, i + d = xs.length → (0 ≤ m ↔ ∀ j, j < i → 0 ≤ xs.getD j 0) → ∃ r : Int, Ev (fun k => slices_Min_int_int.l0 k xs m (i : Int)) r ∧ (0 ≤ r ↔ ∀ i, i < xs.length → 0 ≤ xs.getD i 0) := by
    intro d
    induction d with
    | zero =>
      intro i m hi hp
      obtain rfl : i = xs.length := by omega
      refine ⟨m, Ev.step (f := fun _ => some m) (fun k => ?_) (Ev.now _), hp⟩
      simp only [slices_Min_int_int.l0]
      rw [if_neg (by omega)]
    | succ d ih =>
      intro i m hi hp
      obtain ⟨r, hr, hq⟩ := ih (i + 1) (mn m (xs.getD i 0)) (by omega) (by
        unfold mn
        constructor
        · intro h j hj
          rcases Nat.lt_succ_iff_lt_or_eq.1 hj with h3 | rfl
          · refine hp.1 ?_ j h3
            split at h <;> omega
          · split at h <;> omega
        · intro h
          have h2 := hp.2 (fun j hj => h j (by omega))
          have h3 := h i (by omega)
          split <;> omega)
      refine ⟨r, Ev.step (fun k => ?_) hr, hq⟩
      simp only [slices_Min_int_int.l0]
      rw [if_pos (by omega), if_pos (by omega), w64s (n := xs.length) (by omega) (by omega)]
      rfl
  obtain ⟨r, hr, hq⟩ := key (xs.length - 1) 1 (xs.getD 0 0) (by omega) (by
    constructor
    · intro h j hj
      obtain rfl : j = 0 := by omega
      exact h
    · intro h
      exact h 0 (by omega))
  refine ⟨r, Ev.congr (fun k => ?_) hr, hq⟩
  unfold slices_Min_int_int.f
  rw [if_neg (by omega), if_pos (by omega)]
  rfl
theorem prog_check (l : List S43) : Ev (fun k => accounts_Check.f k l) (chk l) := by
  unfold chk
  by_cases hlen : l.length < 1 ∨ l.length > 8
  · rw [if_pos hlen]
    refine Ev.step (f := fun _ => some 9) (fun k => ?_) (Ev.now _)
    unfold accounts_Check.f
    by_cases h1 : (l.length : Int) < 1
    · rw [if_pos h1]; simp [accounts_Check.j0]
    · rw [if_neg h1, decide_eq_true (by omega)]; simp [accounts_Check.j0]
  · rw [if_neg hlen]
    have hp : 1 ≤ l.length := by omega
    have hn : l.length ≤ 8 := by omega
    refine Ev.step (f := fun k => (accounts_tree.f k l).bind fun t126 => (if t126 = true then ((accounts_amounts.f k l).bind fun t127 => (if t127 = true then ((api_Account_50.f k l).bind fun t128 => (if t128 = true then (some 17) else ((accounts_own.f k l).bind fun t129 => ((slices_Min_int_int.f k t129).bind fun t132 => (if t132 < 0 then (some 11) else (some 0)))))) else (some 2))) else (some 1))) (fun k => ?_) ?_
    · unfold accounts_Check.f
      rw [if_neg (by omega), decide_eq_false (by omega)]
      simp [accounts_Check.j0]
    refine Ev.bindS (prog_tree l hn) ?_
    by_cases ht : ∀ i, i < l.length → treeAt l i
    · rw [if_pos ht, decide_eq_true ht]
      simp only [if_true]
      refine Ev.bindS (prog_amounts l hp hn) ?_
      by_cases ha : ∀ i, i < l.length → amtAt l i
      · rw [if_pos ha]
        by_cases hr : rootOk l
        · rw [if_pos hr, decide_eq_true ⟨ha, hr⟩]
          simp only [if_true]
          refine Ev.bindS (prog_contains l hn) ?_
          by_cases hm : ∀ i, i < l.length → maxAt l i
          · rw [if_pos hm, decide_eq_true hm]
            simp only [Bool.not_true, Bool.false_eq_true, if_false]
            refine Ev.bindS (prog_own l hn ht ha) ?_
            obtain ⟨m, hm1, hm2⟩ := prog_min (ownTo l l.length) (by rw [ownTo_len]; omega) (by rw [ownTo_len]; omega)
            refine Ev.bindS hm1 ?_
            have e : 0 ≤ m ↔ ∀ i, i < l.length → ownAt l i := by
              rw [hm2]
              constructor
              · intro h i hi
                have := h i (by rw [ownTo_len]; omega)
                rw [ownTo_get l _ hi, if_pos hi] at this
                unfold ownAt kids
                omega
              · intro h i hi
                rw [ownTo_len] at hi
                rw [ownTo_get l _ hi, if_pos hi]
                have := h i hi
                unfold ownAt kids at this
                omega
            by_cases ho : ∀ i, i < l.length → ownAt l i
            · rw [if_pos ho]
              exact Ev.some (fun k => by rw [if_neg (by have := e.2 ho; omega)])
            · rw [if_neg ho]
              exact Ev.some (fun k => by rw [if_pos (by have h5 : ¬ 0 ≤ m := fun h => ho (e.1 h); omega)])
          · rw [if_neg hm, decide_eq_false hm]
            exact Ev.some (fun k => rfl)
        · rw [if_neg hr, decide_eq_false (fun h => hr h.2)]
          exact Ev.some (fun k => rfl)
      · rw [if_neg ha, decide_eq_false (fun h => ha h.1)]
        exact Ev.some (fun k => rfl)
    · rw [if_neg ht, decide_eq_false ht]
      exact Ev.some (fun k => rfl)

/-! ### The reference's Check -/
theorem ref_in (x : Int) : estoversref19_in.f x = some (decide (inR x)) := by
  unfold estoversref19_in.f inR
  by_cases h : x ≥ 0
  · rw [if_pos h]
    simp [h]
  · rw [if_neg h]
    simp [h]
theorem ref_kids (l : List S43) (hn : l.length ≤ 8) (h1 : 1 ≤ l.length) (ha : ∀ i, i < l.length → amtAt l i) (p : Int) : Ev (fun k => estoversref19_kids.f k l p) (kids l p) := by
  have key : ∀ d j, j + d = l.length → 1 ≤ j → Ev (fun k => estoversref19_kids.l0 k l p (kidsTo l p j) (j : Int)) (kids l p) := by
    intro d
    induction d with
    | zero =>
      intro j hj _
      obtain rfl : j = l.length := by omega
      refine Ev.step (f := fun _ => some _) (fun k => ?_) (Ev.now _)
      simp only [estoversref19_kids.l0]
      rw [if_neg (by omega)]
      rfl
    | succ d ih =>
      intro j hj h1j
      have hb := kidsTo_bd ha p j (by omega)
      have haj := (ha j (by omega)).1
      unfold inR at haj
      refine Ev.step (fun k => ?_) (ih (j + 1) (by omega) (by omega))
      simp only [estoversref19_kids.l0]
      rw [if_pos (by omega), if_pos (by omega), rd_acc, w64s (n := l.length) (by omega) (by omega)]
      by_cases hc : (acc l j).f0 = p
      · rw [if_pos hc, w64 (by omega) (by omega), kidsTo, if_pos ⟨h1j, hc⟩]
      · rw [if_neg hc, kidsTo, if_neg (fun h => hc h.2), Int.add_zero]
  refine Ev.congr (fun k => ?_) (key (l.length - 1) 1 (by omega) (by omega))
  unfold estoversref19_kids.f
  rfl
theorem ref_l3 (l : List S43) (hn : l.length ≤ 8) (h1 : 1 ≤ l.length) (ha : ∀ i, i < l.length → amtAt l i) :
    Ev (fun k => estoversref19_Check.l3 k l 0) (if ∀ i, i < l.length → ownAt l i then 0 else 11) := by
  refine Ev.scan (fun k i => estoversref19_Check.l3 k l i) l.length (ownAt l) 11 0 ?_ ?_ ?_
  · intro i hi hp q hq
    refine Ev.step (f := fun k => (estoversref19_kids.f k l (i : Int)).bind fun t => (if (acc l i).f1 < t then (some 11) else (estoversref19_Check.l3 k l ((i + 1 : Nat) : Int)))) (fun k => ?_) ?_
    · simp only [estoversref19_Check.l3]
      rw [if_pos (by omega), if_pos (by omega), rd_acc, w64s hi (by omega)]
    · refine Ev.bindS (ref_kids l hn h1 ha (i : Int)) ?_
      unfold ownAt at hp
      exact Ev.congr (fun k => by rw [if_neg (by omega)]) hq
  · intro i hi hp
    refine Ev.step (f := fun k => (estoversref19_kids.f k l (i : Int)).bind fun t => (if (acc l i).f1 < t then (some 11) else (estoversref19_Check.l3 k l ((i + 1 : Nat) : Int)))) (fun k => ?_) ?_
    · simp only [estoversref19_Check.l3]
      rw [if_pos (by omega), if_pos (by omega), rd_acc, w64s hi (by omega)]
    · refine Ev.bindS (ref_kids l hn h1 ha (i : Int)) ?_
      unfold ownAt at hp
      exact Ev.some (fun k => by rw [if_pos (by omega)])
  · intro _
    refine Ev.step (f := fun _ => some 0) (fun k => ?_) (Ev.now _)
    simp only [estoversref19_Check.l3]
    rw [if_neg (by omega)]
theorem ref_l2 (l : List S43) (hn : l.length ≤ 8) (h1 : 1 ≤ l.length) (ha : ∀ i, i < l.length → amtAt l i) :
    Ev (fun k => estoversref19_Check.l2 k l 0) (if ∀ i, i < l.length → maxAt l i then (if ∀ i, i < l.length → ownAt l i then 0 else 11) else 17) := by
  refine Ev.scan (fun k i => estoversref19_Check.l2 k l i) l.length (maxAt l) 17 _ ?_ ?_ ?_
  · intro i hi hp q hq
    refine Ev.step (fun k => ?_) hq
    simp only [estoversref19_Check.l2]
    unfold maxAt at hp
    rw [if_pos (by omega), if_pos (by omega), rd_acc, if_neg (by omega), w64s hi (by omega)]
  · intro i hi hp
    refine Ev.step (f := fun _ => some 17) (fun k => ?_) (Ev.now _)
    simp only [estoversref19_Check.l2]
    unfold maxAt at hp
    rw [if_pos (by omega), if_pos (by omega), rd_acc, if_pos (by omega)]
  · intro _
    refine Ev.step (fun k => ?_) (ref_l3 l hn h1 ha)
    simp only [estoversref19_Check.l2]
    rw [if_neg (by omega)]
theorem ref_l1 (l : List S43) (hn : l.length ≤ 8) (h1 : 1 ≤ l.length) :
    Ev (fun k => estoversref19_Check.l1 k l 0) (if ∀ i, i < l.length → amtAt l i then (if rootOk l then (if ∀ i, i < l.length → maxAt l i then (if ∀ i, i < l.length → ownAt l i then 0 else 11) else 17) else 2) else 2) := by
  refine Ev.scan (fun k i => estoversref19_Check.l1 k l i) l.length (amtAt l) 2 _ ?_ ?_ ?_
  · intro i hi hp q hq
    refine Ev.step (fun k => ?_) hq
    simp only [estoversref19_Check.l1, ref_in]
    rw [if_pos (by omega), if_pos (by omega), rd_acc, w64s hi (by omega)]
    obtain ⟨a, b, c, d⟩ := hp
    simp only [decide_eq_true a, decide_eq_true b, decide_eq_true c, decide_eq_true d, Option.bind_some, if_true]
  · intro i hi hp
    refine Ev.step (f := fun _ => some 2) (fun k => ?_) (Ev.now _)
    simp only [estoversref19_Check.l1, ref_in]
    rw [if_pos (by omega), if_pos (by omega), rd_acc]
    unfold amtAt at hp
    by_cases a : inR (acc l i).f1
    · by_cases b : inR (acc l i).f2
      · by_cases c : inR (acc l i).f3
        · by_cases d : inR (acc l i).f4
          · exact absurd ⟨a, b, c, d⟩ hp
          · simp [a, b, c, d]
        · simp [a, b, c]
      · simp [a, b]
    · simp [a]
  · intro ha
    by_cases hr : rootOk l
    · rw [if_pos hr]
      refine Ev.step (f := fun k => estoversref19_Check.j3 k l false) (fun k => ?_) (Ev.step (fun k => ?_) (ref_l2 l hn h1 ha))
      · simp only [estoversref19_Check.l1]
        rw [if_neg (by omega), if_pos (by omega), show rd_T43 l 0 = acc l 0 from rfl]
        obtain ⟨c, d⟩ := hr
        rw [if_pos c]
        simp [d]
      · simp [estoversref19_Check.j3]
    · rw [if_neg hr]
      refine Ev.step (f := fun k => estoversref19_Check.j3 k l true) (fun k => ?_) (Ev.step (f := fun _ => some 2) (fun k => ?_) (Ev.now _))
      · simp only [estoversref19_Check.l1]
        rw [if_neg (by omega), if_pos (by omega), show rd_T43 l 0 = acc l 0 from rfl]
        unfold rootOk at hr
        by_cases c : (acc l 0).f2 = 0
        · rw [if_pos c]
          have d : (acc l 0).f3 ≠ 0 := fun d => hr ⟨c, d⟩
          rw [bne_iff_ne.2 d]
        · rw [if_neg c]
      · simp [estoversref19_Check.j3]
theorem ref_l0 (l : List S43) (hn : l.length ≤ 8) (h1 : 1 ≤ l.length) :
    Ev (fun k => estoversref19_Check.l0 k l 0) (if ∀ i, i < l.length → treeAt l i then (if ∀ i, i < l.length → amtAt l i then (if rootOk l then (if ∀ i, i < l.length → maxAt l i then (if ∀ i, i < l.length → ownAt l i then 0 else 11) else 17) else 2) else 2) else 1) := by
  refine Ev.scan (fun k i => estoversref19_Check.l0 k l i) l.length (treeAt l) 1 _ ?_ ?_ ?_
  · intro i hi hp q hq
    refine Ev.step (fun k => ?_) hq
    simp only [estoversref19_Check.l0]
    rw [if_pos (by omega), rd_acc, w64s hi (by omega)]
    unfold treeAt at hp
    by_cases h0 : i = 0
    · subst h0
      rw [if_pos rfl] at hp
      rw [if_pos (by omega), if_pos (by omega), if_pos hp, if_neg (by omega)]
    · rw [if_neg h0] at hp
      rw [if_neg (by omega), if_pos (by omega), if_pos (by omega), if_neg (by omega), if_neg (by omega)]
  · intro i hi hp
    refine Ev.step (f := fun _ => some 1) (fun k => ?_) (Ev.now _)
    simp only [estoversref19_Check.l0]
    rw [if_pos (by omega), rd_acc]
    unfold treeAt at hp
    by_cases h0 : i = 0
    · subst h0
      rw [if_pos rfl] at hp
      rw [if_pos (by omega), if_pos (by omega), if_neg hp]
    · rw [if_neg h0] at hp
      rw [if_neg (by omega), if_pos (by omega), if_pos (by omega)]
      by_cases h2 : (acc l i).f0 < 0
      · rw [if_pos h2]
      · rw [if_neg h2, if_pos (by omega)]
  · intro _
    refine Ev.step (fun k => ?_) (ref_l1 l hn h1)
    simp only [estoversref19_Check.l0]
    rw [if_neg (by omega)]
theorem ref_check (l : List S43) : Ev (fun k => estoversref19_Check.f k l) (chk l) := by
  unfold chk
  by_cases hlen : l.length < 1 ∨ l.length > 8
  · rw [if_pos hlen]
    refine Ev.step (f := fun _ => some 9) (fun k => ?_) (Ev.now _)
    unfold estoversref19_Check.f
    by_cases h1 : (l.length : Int) < 1
    · rw [if_pos h1]; simp [estoversref19_Check.j0]
    · rw [if_neg h1, decide_eq_true (by omega)]; simp [estoversref19_Check.j0]
  · rw [if_neg hlen]
    refine Ev.step (fun k => ?_) (ref_l0 l (by omega) (by omega))
    unfold estoversref19_Check.f
    rw [if_neg (by omega), decide_eq_false (by omega)]
    simp [estoversref19_Check.j0]

/-! ### Share -/
def shr (l : List S43) (m a : Int) : Int × Int :=
  if chk l = 0 then
    if m < 0 ∨ m > 1048576 then (0, 2)
    else if a < 0 ∨ a ≥ (l.length : Int) then (0, 6)
    else if (acc l 0).f1 = 0 then (m, 0)
    else (wrap64 (Int.tdiv (wrap64 (m * (acc l a.toNat).f1)) (acc l 0).f1), 0)
  else (0, chk l)
theorem prog_share (l : List S43) (m a : Int) : Ev (fun k => throttle_Share.f k l m a) (shr l m a) := by
  have hj1 : ∀ b, Ok l → (b = true ∨ (0 ≤ a ∧ a < l.length)) → Ev (fun k => throttle_Share.j1 k l m a b) (if b = true then (0, 6) else if (acc l 0).f1 = 0 then (m, 0) else (wrap64 (Int.tdiv (wrap64 (m * (acc l a.toNat).f1)) (acc l 0).f1), 0)) := by
    intro b ho hb
    have := ho.pos
    cases b with
    | true => exact Ev.step (f := fun _ => some (0, 6)) (fun k => by simp [throttle_Share.j1]) (Ev.now _)
    | false =>
      have hb2 : 0 ≤ a ∧ a < l.length := by simpa using hb
      refine Ev.step (f := fun _ => some _) (fun k => ?_) (Ev.now _)
      simp only [throttle_Share.j1, Bool.false_eq_true, if_false]
      rw [if_pos (by omega), show rd_T43 l 0 = acc l 0 from rfl, show rd_T43 l a = acc l a.toNat from rfl]
      by_cases h0 : (acc l 0).f1 = 0
      · rw [if_pos h0, if_pos h0]
      · rw [if_neg h0, if_neg h0, if_pos hb2.1, if_pos hb2.2]
  have hj0 : ∀ b, Ok l → Ev (fun k => throttle_Share.j0 k l m a b) (if b = true then (0, 2) else if a < 0 ∨ a ≥ (l.length : Int) then (0, 6) else if (acc l 0).f1 = 0 then (m, 0) else (wrap64 (Int.tdiv (wrap64 (m * (acc l a.toNat).f1)) (acc l 0).f1), 0)) := by
    intro b ho
    cases b with
    | true => exact Ev.step (f := fun _ => some (0, 2)) (fun k => by simp [throttle_Share.j0]) (Ev.now _)
    | false =>
      by_cases h : a < 0
      · rw [if_neg (by decide), if_pos (.inl h)]
        exact Ev.step (fun k => by simp [throttle_Share.j0, h]) (hj1 true ho (.inl rfl))
      · by_cases h2 : a ≥ (l.length : Int)
        · rw [if_neg (by decide), if_pos (.inr h2)]
          refine Ev.step (fun k => ?_) (hj1 true ho (.inl rfl))
          simp only [throttle_Share.j0, Bool.false_eq_true, if_false]
          rw [if_neg h, decide_eq_true h2]
        · rw [if_neg (by decide), if_neg (by omega)]
          refine Ev.step (fun k => ?_) (hj1 false ho (.inr (by omega)))
          simp only [throttle_Share.j0, Bool.false_eq_true, if_false]
          rw [if_neg h, decide_eq_false h2]
  refine Ev.bindS (prog_check l) ?_
  unfold shr
  by_cases hc : chk l = 0
  · rw [if_pos hc]
    refine Ev.congr (fun k => if_pos hc) ?_
    by_cases h : m < 0
    · rw [if_pos (.inl h)]
      exact Ev.congr (fun k => if_pos h) (hj0 true (chk_ok.1 hc))
    · refine Ev.congr (fun k => if_neg h) ?_
      by_cases h2 : m > 1048576
      · rw [if_pos (.inr h2), decide_eq_true h2]
        exact hj0 true (chk_ok.1 hc)
      · rw [if_neg (by omega), decide_eq_false h2]
        exact hj0 false (chk_ok.1 hc)
  · rw [if_neg hc]
    exact Ev.some (fun k => if_neg hc)
theorem aw30 : Ev (fun k => estoverslaw30_awake.f k) true := Ev.of (fun k => estoverslaw30_awake.mono k) (k := 30) (by kernel_rfl)

-- PARTS: base acc1 acc2 acc3 share1
def sv (l : List S43) (m : Int) (c : Nat) : Int := if (acc l 0).f1 = 0 then m else m * (acc l c).f1 / (acc l 0).f1
theorem kids_ge {l : List S43} (ha : ∀ i, i < l.length → amtAt l i) (p : Int) {c : Nat} (h1 : 1 ≤ c) (hp : (acc l c).f0 = p) : ∀ n, n ≤ l.length → c < n → (acc l c).f1 ≤ kidsTo l p n
  | 0, _, h => absurd h (Nat.not_lt_zero _)
  | n + 1, hn, h => by
    have hb := kidsTo_bd ha p n (by omega)
    have hi := (ha n (by omega)).1
    unfold inR at hi
    unfold kidsTo
    rcases Nat.lt_succ_iff_lt_or_eq.1 h with h2 | rfl
    · have := kids_ge ha p h1 hp n (by omega) h2
      split <;> omega
    · rw [if_pos ⟨h1, hp⟩]
      omega
theorem le_root {l : List S43} (ho : Ok l) : ∀ c, c < l.length → (acc l c).f1 ≤ (acc l 0).f1 := by
  intro c
  induction c using Nat.strongRecOn with
  | _ c ih =>
    intro hc
    by_cases h0 : c = 0
    · subst h0; exact Int.le_refl _
    · have hp := ho.par hc h0
      obtain ⟨p, hpe⟩ : ∃ p : Nat, (acc l c).f0 = (p : Int) := ⟨(acc l c).f0.toNat, by omega⟩
      have h1 := kids_ge ho.amt (p : Int) (c := c) (by omega) hpe l.length (Nat.le_refl _) hc
      have h2 := ho.own p (by omega)
      unfold ownAt kids at h2
      have h3 := ih p (by omega) (by omega)
      omega
theorem sv_bd {l : List S43} (ho : Ok l) {m : Int} (h0 : 0 ≤ m) {c : Nat} (hc : c < l.length) : 0 ≤ sv l m c ∧ sv l m c ≤ m := by
  have ha := (ho.amt c hc).1
  have hr := (ho.amt 0 ho.pos).1
  have hl := le_root ho c hc
  unfold inR at ha hr
  unfold sv
  split
  · exact ⟨h0, Int.le_refl _⟩
  · constructor
    · exact Int.ediv_nonneg (Int.mul_nonneg h0 ha.1) hr.1
    · apply Int.ediv_le_of_le_mul (by omega)
      exact Int.mul_le_mul_of_nonneg_left hl h0
theorem share_val {l : List S43} (ho : Ok l) {m : Int} (h0 : 0 ≤ m) (h1 : m ≤ 65535) {c : Nat} (hc : c < l.length) : shr l m (c : Int) = (sv l m c, 0) := by
  have hchk := chk_ok.2 ho
  have ha := (ho.amt c hc).1
  have hr := (ho.amt 0 ho.pos).1
  unfold inR at ha hr
  have hb := sv_bd ho h0 hc
  unfold shr
  rw [if_pos hchk, if_neg (by omega), if_neg (by omega), Int.toNat_natCast]
  unfold sv at hb ⊢
  by_cases hu : (acc l 0).f1 = 0
  · rw [if_pos hu, if_pos hu]
  · rw [if_neg hu] at hb
    rw [if_neg hu, if_neg hu]
    have hm0 : 0 ≤ m * (acc l c).f1 := Int.mul_nonneg h0 ha.1
    have hm1 : m * (acc l c).f1 ≤ 65535 * 1048576 := Int.mul_le_mul h1 ha.2 ha.1 (by omega)
    rw [w64 (x := m * (acc l c).f1) (by omega) (by omega), Int.tdiv_eq_ediv_of_nonneg hm0, w64 (by omega) (by omega)]
def shTo (l : List S43) (m : Int) (p : Int) : Nat → Int
  | 0 => 0
  | n + 1 => shTo l m p n + if n ≥ 1 ∧ (acc l n).f0 = p then sv l m n else 0
theorem shTo_bd {l : List S43} (ho : Ok l) {m : Int} (h0 : 0 ≤ m) (h1 : m ≤ 65535) (p : Int) : ∀ n, n ≤ l.length → 0 ≤ shTo l m p n ∧ shTo l m p n ≤ 65535 * n
  | 0, _ => ⟨Int.le_refl _, by simp [shTo]⟩
  | n + 1, hn => by
    have ih := shTo_bd ho h0 h1 p n (by omega)
    have hb := sv_bd ho h0 (c := n) (by omega)
    unfold shTo
    split <;> omega
/-- The children's shares are at most the share of their sum. -/
theorem shTo_le {l : List S43} (ho : Ok l) {m : Int} (h0 : 0 ≤ m) (hu : (acc l 0).f1 ≠ 0) (p : Int) : ∀ n, n ≤ l.length → shTo l m p n ≤ m * kidsTo l p n / (acc l 0).f1
  | 0, _ => by simp [shTo, kidsTo]
  | n + 1, hn => by
    have hr := (ho.amt 0 ho.pos).1
    unfold inR at hr
    have hpos : 0 < (acc l 0).f1 := by omega
    have ih := shTo_le ho h0 hu p n (by omega)
    unfold shTo kidsTo
    split
    · unfold sv
      rw [if_neg hu]
      apply Int.le_ediv_of_mul_le hpos
      have e1 := Int.ediv_mul_le (m * kidsTo l p n) hu
      have e2 := Int.ediv_mul_le (m * (acc l n).f1) hu
      have e3 : shTo l m p n * (acc l 0).f1 ≤ m * kidsTo l p n / (acc l 0).f1 * (acc l 0).f1 := Int.mul_le_mul_of_nonneg_right ih (by omega)
      rw [Int.add_mul, Int.mul_add]
      omega
    · simpa using ih
theorem shTo_own {l : List S43} (ho : Ok l) {m : Int} (h0 : 0 ≤ m) (hu : (acc l 0).f1 ≠ 0) {p : Nat} (hp : p < l.length) : shTo l m (p : Int) l.length ≤ sv l m p := by
  have hr := (ho.amt 0 ho.pos).1
  unfold inR at hr
  have h1 := shTo_le ho h0 hu (p : Int) l.length (Nat.le_refl _)
  have h2 := ho.own p hp
  unfold ownAt kids at h2
  unfold sv
  rw [if_neg hu]
  refine Int.le_trans h1 (Int.ediv_le_ediv (by omega) ?_)
  exact Int.mul_le_mul_of_nonneg_left h2 h0
theorem sv_root {l : List S43} (m : Int) : sv l m 0 = m := by
  unfold sv
  split
  · rfl
  · rename_i hu
    exact Int.mul_ediv_cancel _ hu
def sumL (l : List S43) (m : Int) (i : Nat) : List Int := (List.range l.length).map fun (p : Nat) => shTo l m (p : Int) i
def ownL (l : List S43) (m : Int) (i : Nat) : List Int := (List.range l.length).map fun p => if p < i then sv l m p else 0
theorem sumL_len (l : List S43) (m : Int) (i : Nat) : (sumL l m i).length = l.length := by simp [sumL]
theorem ownL_len (l : List S43) (m : Int) (i : Nat) : (ownL l m i).length = l.length := by simp [ownL]
theorem sumL_get (l : List S43) (m : Int) (i : Nat) {p : Nat} (hp : p < l.length) : (sumL l m i).getD p 0 = shTo l m (p : Int) i := by
  unfold sumL
  simp [List.getD, hp]
theorem ownL_get (l : List S43) (m : Int) (i : Nat) {p : Nat} (hp : p < l.length) : (ownL l m i).getD p 0 = if p < i then sv l m p else 0 := by
  unfold ownL
  simp [List.getD, hp]
theorem sumL_zero (l : List S43) (m : Int) : sumL l m 0 = List.replicate l.length 0 := by
  unfold sumL
  apply List.ext_getElem?
  intro i
  by_cases hi : i < l.length <;> simp [hi, shTo]
theorem ownL_zero (l : List S43) (m : Int) : ownL l m 0 = List.replicate l.length 0 := by
  unfold ownL
  apply List.ext_getElem?
  intro i
  by_cases hi : i < l.length <;> simp [hi]
theorem ownL_step (l : List S43) (m : Int) {i : Nat} (hi : i < l.length) : (ownL l m i).set i (sv l m i) = ownL l m (i + 1) := by
  apply List.ext_getElem?
  intro p
  by_cases hp : p < l.length
  · by_cases h1 : p = i
    · subst h1
      rw [List.getElem?_set_self (by simp [ownL_len]; omega)]
      simp [ownL, hp]
    · rw [List.getElem?_set_ne (by omega)]
      simp only [ownL, List.getElem?_map, List.getElem?_range hp, Option.map_some]
      congr 1
      by_cases h3 : p < i
      · rw [if_pos h3, if_pos (by omega)]
      · rw [if_neg h3, if_neg (by omega)]
  · simp [ownL, hp]
theorem sumL_step0 (l : List S43) (m : Int) : sumL l m 1 = sumL l m 0 := by
  unfold sumL
  apply List.map_congr_left
  intro p _
  simp [shTo]
theorem sumL_step (l : List S43) (m : Int) {i q : Nat} (h0 : i ≠ 0) (hq : (acc l i).f0 = (q : Int)) (hql : q < l.length) : (sumL l m i).set q ((sumL l m i).getD q 0 + sv l m i) = sumL l m (i + 1) := by
  rw [sumL_get l m i hql]
  apply List.ext_getElem?
  intro p
  by_cases hp : p < l.length
  · by_cases h1 : p = q
    · subst h1
      rw [List.getElem?_set_self (by simp [sumL_len]; omega)]
      simp only [sumL, List.getElem?_map, List.getElem?_range hp, Option.map_some, shTo]
      rw [if_pos ⟨by omega, hq⟩]
    · rw [List.getElem?_set_ne (by omega)]
      simp only [sumL, List.getElem?_map, List.getElem?_range hp, Option.map_some, shTo]
      rw [if_neg (show ¬ (i ≥ 1 ∧ (acc l i).f0 = (p : Int)) by omega), Int.add_zero]
  · simp [sumL, hp]
theorem sum_l1 {l : List S43} (ho : Ok l) {m : Int} (h0 : 0 ≤ m) (h1 : m ≤ 65535) (hu : (acc l 0).f1 ≠ 0) :
    Ev (fun k => estoverslaw30_ThrottleSum.l1 k m (sumL l m l.length) (ownL l m l.length) (l.length : Int) 0) true := by
  have hpos := ho.pos
  have hfew := ho.few
  have key : ∀ d i, i + d = l.length → Ev (fun k => estoverslaw30_ThrottleSum.l1 k m (sumL l m l.length) (ownL l m l.length) (l.length : Int) (i : Int)) true := by
    intro d
    induction d with
    | zero =>
      intro i hi
      obtain rfl : i = l.length := by omega
      refine Ev.step (f := fun _ => some true) (fun k => ?_) (Ev.now _)
      simp only [estoverslaw30_ThrottleSum.l1]
      have e : rd (ownL l m l.length) 0 = m := by
        show (ownL l m l.length).getD 0 0 = m
        rw [ownL_get l m _ hpos, if_pos (show 0 < l.length from hpos), sv_root]
      rw [if_neg (by omega), if_pos (by rw [ownL_len]; omega), e, w64 (by omega) (by omega)]
      simp
    | succ d ih =>
      intro i hi
      have hil : i < l.length := by omega
      refine Ev.step (fun k => ?_) (ih (i + 1) (by omega))
      simp only [estoverslaw30_ThrottleSum.l1]
      have e1 : rd (sumL l m l.length) (i : Int) = shTo l m (i : Int) l.length := sumL_get l m _ hil
      have e2 : rd (ownL l m l.length) (i : Int) = sv l m i := by
        show (ownL l m l.length).getD i 0 = _
        rw [ownL_get l m _ hil, if_pos hil]
      have := shTo_own ho h0 hu hil
      rw [if_pos (by omega), if_pos (by omega), if_pos (by rw [sumL_len]; omega), if_pos (by rw [ownL_len]; omega), e1, e2, if_neg (by omega), w64s hil (by omega)]
  exact key l.length 0 (by omega)
theorem sum_l0 {l : List S43} (ho : Ok l) {m : Int} (h0 : 0 ≤ m) (h1 : m ≤ 65535) :
    Ev (fun k => estoverslaw30_ThrottleSum.l0 k l m (sumL l m 0) (ownL l m 0) (l.length : Int) 0) true := by
  have hpos := ho.pos
  have hfew := ho.few
  have hw : wrap64 m = m := w64 (by omega) (by omega)
  have key : ∀ d i, i + d = l.length → Ev (fun k => estoverslaw30_ThrottleSum.l0 k l m (sumL l m i) (ownL l m i) (l.length : Int) (i : Int)) true := by
    intro d
    induction d with
    | zero =>
      intro i hi
      obtain rfl : i = l.length := by omega
      by_cases hu : (acc l 0).f1 = 0
      · refine Ev.step (f := fun _ => some true) (fun k => ?_) (Ev.now _)
        simp only [estoverslaw30_ThrottleSum.l0]
        have e : rd (ownL l m l.length) 0 = m := by
          show (ownL l m l.length).getD 0 0 = m
          rw [ownL_get l m _ hpos, if_pos (show 0 < l.length from hpos), sv_root]
        rw [if_neg (by omega), if_pos (by omega), show rd_T43 l 0 = acc l 0 from rfl, if_pos hu, if_pos (by rw [ownL_len]; omega), e, hw]
        simp
      · refine Ev.step (fun k => ?_) (sum_l1 ho h0 h1 hu)
        simp only [estoverslaw30_ThrottleSum.l0]
        rw [if_neg (by omega), if_pos (by omega), show rd_T43 l 0 = acc l 0 from rfl, if_neg hu, sumL_len]
    | succ d ih =>
      intro i hi
      have hil : i < l.length := by omega
      have hb := sv_bd ho h0 hil
      have hg := ih (i + 1) (by omega)
      have hj : Ev (fun k => estoverslaw30_ThrottleSum.j2 k l m (sumL l m i) (ownL l m i) (i : Int) (sv l m i) (l.length : Int) (i : Int) false) true := by
        refine Ev.step (fun k => ?_) hg
        simp only [estoverslaw30_ThrottleSum.j2, Bool.false_eq_true, if_false]
        rw [if_pos (by omega), if_pos (by rw [ownL_len]; omega), Int.toNat_natCast, ownL_step l m hil]
        simp only [Option.bind_some]
        rw [w64s hil (by omega)]
        by_cases hz : i = 0
        · subst hz
          rw [if_neg (by omega), sumL_step0]
        · have hp := ho.par hil hz
          obtain ⟨q, hq⟩ : ∃ q : Nat, (acc l i).f0 = (q : Int) := ⟨(acc l i).f0.toNat, by omega⟩
          have hbq := shTo_bd ho h0 h1 (q : Int) i (by omega)
          have e : rd (sumL l m i) (q : Int) = (sumL l m i).getD q 0 := rfl
          rw [if_pos (by omega), if_pos (by omega), rd_acc, hq, if_pos (by omega), if_pos (by rw [sumL_len]; omega), e, w64 (by rw [sumL_get l m i (by omega)]; omega) (by rw [sumL_get l m i (by omega)]; omega), Int.toNat_natCast, sumL_step l m hz hq (by omega)]
      refine Ev.step (f := fun k => (throttle_Share.f k l m (i : Int)).bind fun bt198 => (if bt198.2 = 0 then (if bt198.1 < 0 then (estoverslaw30_ThrottleSum.j2 k l m (sumL l m i) (ownL l m i) (i : Int) bt198.1 (l.length : Int) (i : Int) true) else (estoverslaw30_ThrottleSum.j2 k l m (sumL l m i) (ownL l m i) (i : Int) bt198.1 (l.length : Int) (i : Int) (decide (bt198.1 > m)))) else (estoverslaw30_ThrottleSum.j2 k l m (sumL l m i) (ownL l m i) (i : Int) bt198.1 (l.length : Int) (i : Int) true))) (fun k => ?_) ?_
      · simp only [estoverslaw30_ThrottleSum.l0]
        rw [if_pos (by omega), hw]
      · refine Ev.bindS (prog_share l m (i : Int)) ?_
        rw [share_val ho h0 h1 hil]
        refine Ev.congr (fun k => ?_) hj
        rw [if_pos rfl, if_neg (by omega), decide_eq_false (by omega)]
  exact key l.length 0 (by omega)
theorem ThrottleSum : estoverslaw30_ThrottleSum.Pure := by
  intro l m _ hm
  have hmb := wf_u16 hm
  refine Ev.rounds ?_
  refine Ev.bindS aw30 ?_
  refine Ev.congr (fun k => if_pos rfl) ?_
  refine Ev.bindS (ref_check l) ?_
  by_cases hc : chk l = 0
  · have ho := chk_ok.1 hc
    have hf := ho.few
    rw [hc]
    refine Ev.step (fun k => ?_) (sum_l0 ho hmb.1 hmb.2)
    simp only [estoverslaw30_ThrottleSum.j0]
    rw [if_neg (by decide), if_pos (by omega), if_pos (by omega), Int.toNat_natCast, sumL_zero, ownL_zero]
  · rw [bne_iff_ne.2 hc]
    refine Ev.step (f := fun k => (estoverslaw30_awake.f k).bind fun t => some t) (fun k => by simp [estoverslaw30_ThrottleSum.j0]) ?_
    exact Ev.bindS aw30 (Ev.now _)

end Go.Proofs.Ytpomppjeknmciaa.Pure
