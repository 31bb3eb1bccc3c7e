/- Along any sequence of charges and uncharges the list stays valid, and the own usages sum to the total; no condition. -/
import Derived.Test.YtpomppjeknmciaaPAccountsLimitsx
import Derived.Test.YtpomppjeknmciaaQAccountsLimits
namespace Go.Proofs.Ytpomppjeknmciaa.Pure
open Go.RowKit Go.Proofs.Ytpomppjeknmciaa.PAccountsLimits Go.Proofs.YtpomppjeknmciaaW.PrintWords Go.Proofs.YtpomppjeknmciaaW.PrintLast Go.Proofs.YtpomppjeknmciaaW.PrintMore

theorem Ev.bindS {α β : Type} {g : Nat → Option α} {f : Nat → α → Option β} {a : α} {r : β} (h : Ev g a) (k : Ev (fun n => f n a) r) : Ev (fun n => (g n).bind fun x => f n x) r := Ev.bind h k
theorem Ev.some {α : Type} {g : Nat → Option α} {r : α} (h : ∀ k, g k = Option.some r) : Ev g r := Ev.congr h (Ev.now r)
theorem w64 {x : Int} (h0 : -9223372036854775808 ≤ x) (h1 : x ≤ 9223372036854775807) : wrap64 x = x := by
  unfold wrap64
  omega
theorem w64s {i n : Nat} (h : i < n) (hn : n ≤ 1000000) : wrap64 ((i : Int) + 1) = ((i + 1 : Nat) : Int) := by
  unfold wrap64
  omega
theorem wf_u16 {n : Int} (h : (Lit.int .u16 n).wf = true) : 0 ≤ n ∧ n ≤ 65535 := by
  simp only [Lit.wf, Bool.and_eq_true, decide_eq_true_eq] at h
  exact ⟨h.1, h.2⟩
theorem wf_u8 {n : Int} (h : (Lit.int .u8 n).wf = true) : 0 ≤ n ∧ n ≤ 255 := by
  simp only [Lit.wf, Bool.and_eq_true, decide_eq_true_eq] at h
  exact ⟨h.1, h.2⟩
theorem wf_i64 {n : Int} (h : (Lit.int .i64 n).wf = true) : -9223372036854775808 ≤ n ∧ n ≤ 9223372036854775807 := by
  simp only [Lit.wf, Bool.and_eq_true, decide_eq_true_eq] at h
  exact ⟨h.1, h.2⟩

/-! ### Accounts: what Check computes, told without the program -/

theorem Ev.unique {α : Type} {g : Nat → Option α} {a b : α} (h : Ev g a) (k : Ev g b) : a = b := by
  obtain ⟨K, hK⟩ := h
  obtain ⟨L, hL⟩ := k
  have e1 := hK (max K L) (Nat.le_max_left _ _)
  have e2 := hL (max K L) (Nat.le_max_right _ _)
  exact Option.some.inj (e1.symm.trans e2)
/-- One round, at a number of rounds that is not zero. -/
theorem Ev.stepS {α : Type} {g f : Nat → Option α} {r : α} (h : ∀ k, g (k + 1) = f k) (k : Ev f r) : Ev g r := Ev.step h k
/-- A loop that looks at one place after the other and ends at the first that is wrong. -/
theorem Ev.scan {β : Type} (g : Nat → Int → Option β) (n : Nat) (P : Nat → Prop) [DecidablePred P] (bad r : β)
    (hgo : ∀ i, i < n → P i → ∀ q, Ev (fun k => g k ((i + 1 : Nat) : Int)) q → Ev (fun k => g k (i : Int)) q)
    (hbad : ∀ i, i < n → ¬ P i → Ev (fun k => g k (i : Int)) bad)
    (hend : (∀ i, i < n → P i) → Ev (fun k => g k (n : Int)) r) :
    Ev (fun k => g k 0) (if ∀ i, i < n → P i then r else bad) := by
  have key : ∀ d i, i + d = n → (∀ j, j < i → P j) → Ev (fun k => g k (i : Int)) (if ∀ i, i < n → P i then r else bad) := by
    intro d
    induction d with
    | zero =>
      intro i hi hp
      obtain rfl : i = n := by omega
      rw [if_pos hp]
      exact hend hp
    | succ d ih =>
      intro i hi hp
      by_cases h : P i
      · refine hgo i (by omega) h _ (ih (i + 1) (by omega) ?_)
        intro j hj
        rcases Nat.lt_succ_iff_lt_or_eq.1 hj with h1 | rfl
        · exact hp j h1
        · exact h
      · rw [if_neg (fun h2 => h (h2 i (by omega)))]
        exact hbad i (by omega) h
  exact key n 0 (by omega) (fun j hj => absurd hj (Nat.not_lt_zero _))



/-- The account at a place. -/
def acc (l : List S43) (i : Nat) : S43 := l.getD i z43
theorem rd_acc (l : List S43) (i : Nat) : rd_T43 l (i : Int) = acc l i := rfl
def inR (x : Int) : Prop := 0 ≤ x ∧ x ≤ 1048576
instance (x : Int) : Decidable (inR x) := by unfold inR; infer_instance
def treeAt (l : List S43) (i : Nat) : Prop := if i = 0 then (acc l i).f0 = -1 else 0 ≤ (acc l i).f0 ∧ (acc l i).f0 < i
instance (l : List S43) (i : Nat) : Decidable (treeAt l i) := by unfold treeAt; infer_instance
def amtAt (l : List S43) (i : Nat) : Prop := inR (acc l i).f1 ∧ inR (acc l i).f2 ∧ inR (acc l i).f3 ∧ inR (acc l i).f4
instance (l : List S43) (i : Nat) : Decidable (amtAt l i) := by unfold amtAt; infer_instance
/-- The sum of f over the places j of 1 .. n - 1 whose Parent is i. -/
def kidsTo (l : List S43) (i : Int) : Nat → Int
  | 0 => 0
  | n + 1 => kidsTo l i n + if n ≥ 1 ∧ (acc l n).f0 = i then (acc l n).f1 else 0
def kids (l : List S43) (i : Int) : Int := kidsTo l i l.length
def rootOk (l : List S43) : Prop := (acc l 0).f2 = 0 ∧ (acc l 0).f3 = 0
instance (l : List S43) : Decidable (rootOk l) := by unfold rootOk; infer_instance
def maxAt (l : List S43) (i : Nat) : Prop := (acc l i).f1 ≤ (acc l i).f4
instance (l : List S43) (i : Nat) : Decidable (maxAt l i) := by unfold maxAt; infer_instance
def ownAt (l : List S43) (i : Nat) : Prop := kids l i ≤ (acc l i).f1
instance (l : List S43) (i : Nat) : Decidable (ownAt l i) := by unfold ownAt; infer_instance
/-- The error of a list of accounts. -/
def chk (l : List S43) : Int :=
  if l.length < 1 ∨ l.length > 8 then 9
  else if ∀ i, i < l.length → treeAt l i then
    if ∀ i, i < l.length → amtAt l i then
      if rootOk l then
        if ∀ i, i < l.length → maxAt l i then
          if ∀ i, i < l.length → ownAt l i then 0 else 11
        else 17
      else 2
    else 2
  else 1
/-- The list is valid. -/
structure Ok (l : List S43) : Prop where
  pos : 1 ≤ l.length
  few : l.length ≤ 8
  tree : ∀ i, i < l.length → treeAt l i
  amt : ∀ i, i < l.length → amtAt l i
  root : rootOk l
  max : ∀ i, i < l.length → maxAt l i
  own : ∀ i, i < l.length → ownAt l i
theorem chk_ok {l : List S43} : chk l = 0 ↔ Ok l := by
  unfold chk
  constructor
  · intro h
    split at h
    · exact absurd h (by decide)
    split at h
    · split at h
      · split at h
        · split at h
          · split at h
            · exact ⟨by omega, by omega, ‹_›, ‹_›, ‹_›, ‹_›, ‹_›⟩
            · exact absurd h (by decide)
          · exact absurd h (by decide)
        · exact absurd h (by decide)
      · exact absurd h (by decide)
    · exact absurd h (by decide)
  · intro h
    have := h.pos
    have := h.few
    rw [if_neg (by omega), if_pos h.tree, if_pos h.amt, if_pos h.root, if_pos h.max, if_pos h.own]
theorem Ok.par0 {l : List S43} (h : Ok l) : (acc l 0).f0 = -1 := by
  have := h.tree 0 h.pos
  simpa [treeAt] using this
theorem Ok.par {l : List S43} (h : Ok l) {i : Nat} (hi : i < l.length) (h0 : i ≠ 0) : 0 ≤ (acc l i).f0 ∧ (acc l i).f0 < i := by
  have := h.tree i hi
  simpa [treeAt, h0] using this

/-! the sums -/
theorem kidsTo_bd {l : List S43} (ha : ∀ i, i < l.length → amtAt l i) (p : Int) : ∀ n, n ≤ l.length → 0 ≤ kidsTo l p n ∧ kidsTo l p n ≤ 1048576 * n
  | 0, _ => ⟨Int.le_refl _, by simp [kidsTo]⟩
  | n + 1, h => by
    have ih := kidsTo_bd ha p n (by omega)
    have hn := (ha n (by omega)).1
    unfold inR at hn
    unfold kidsTo
    split <;> omega

/-! ### The program's Check -/
theorem prog_tree (l : List S43) (hn : l.length ≤ 8) : Ev (fun k => accounts_tree.f k l) (decide (∀ i, i < l.length → treeAt l i)) := by
  have h := Ev.scan (fun k i => accounts_tree.l0 k l (l.length : Int) i) l.length (treeAt l) false true ?_ ?_ ?_
  · refine Ev.congr (fun k => rfl) (f := fun k => accounts_tree.l0 k l (l.length : Int) 0) ?_
    by_cases c : ∀ i, i < l.length → treeAt l i
    · rw [if_pos c] at h; rw [decide_eq_true c]; exact h
    · rw [if_neg c] at h; rw [decide_eq_false c]; exact h
  · intro i hi hp q hq
    refine Ev.step (fun k => ?_) hq
    show accounts_tree.l0 (k + 1) l (l.length : Int) (i : Int) = _
    simp only [accounts_tree.l0]
    rw [if_pos (by omega), if_pos (by omega), if_pos (by omega), rd_acc, w64s hi (by omega)]
    unfold treeAt at hp
    by_cases h0 : i = 0
    · subst h0
      rw [if_pos rfl] at hp
      rw [if_pos (by omega), if_pos hp, if_neg (by omega)]
    · rw [if_neg h0] at hp
      rw [if_neg (by omega), if_pos (by omega), if_neg (by omega), if_neg (by omega)]
  · intro i hi hp
    refine Ev.step (f := fun _ => some false) (fun k => ?_) (Ev.now _)
    show accounts_tree.l0 (k + 1) l (l.length : Int) (i : Int) = _
    simp only [accounts_tree.l0]
    rw [if_pos (by omega), if_pos (by omega), if_pos (by omega), rd_acc]
    unfold treeAt at hp
    by_cases h0 : i = 0
    · subst h0
      rw [if_pos rfl] at hp
      rw [if_pos (by omega), if_neg hp]
    · rw [if_neg h0] at hp
      rw [if_neg (by omega), if_pos (by omega)]
      by_cases h1 : (acc l i).f0 < 0
      · rw [if_pos h1]
      · rw [if_neg h1, if_pos (by omega)]
  · intro _
    refine Ev.step (f := fun _ => some true) (fun k => ?_) (Ev.now _)
    show accounts_tree.l0 (k + 1) l (l.length : Int) (l.length : Int) = _
    simp only [accounts_tree.l0]
    rw [if_neg (by omega)]
theorem prog_in (x : Int) : accounts_in.f x = some (decide (inR x)) := by
  unfold accounts_in.f inR
  by_cases h : x ≥ 0
  · rw [if_pos h]
    simp [h]
  · rw [if_neg h]
    simp [h]
theorem prog_amounts (l : List S43) (h1 : 1 ≤ l.length) (hn : l.length ≤ 8) : Ev (fun k => accounts_amounts.f k l) (decide ((∀ i, i < l.length → amtAt l i) ∧ rootOk l)) := by
  have h := Ev.scan (fun k i => accounts_amounts.l0 k l l (l.length : Int) i) l.length (amtAt l) false (decide (rootOk l)) ?_ ?_ ?_
  · refine Ev.congr (fun k => rfl) (f := fun k => accounts_amounts.l0 k l l (l.length : Int) 0) ?_
    by_cases c : ∀ i, i < l.length → amtAt l i
    · rw [if_pos c] at h
      rw [show decide ((∀ i, i < l.length → amtAt l i) ∧ rootOk l) = decide (rootOk l) by simp [eq_true c]]; exact h
    · rw [if_neg c] at h; rw [decide_eq_false (fun z => c z.1)]; exact h
  · intro i hi hp q hq
    refine Ev.step (fun k => ?_) hq
    show accounts_amounts.l0 (k + 1) l l (l.length : Int) (i : Int) = _
    simp only [accounts_amounts.l0, prog_in]
    rw [if_pos (by omega), if_pos (by omega), if_pos (by omega), rd_acc, w64s hi (by omega)]
    obtain ⟨a, b, c, d⟩ := hp
    simp only [decide_eq_true a, decide_eq_true b, decide_eq_true c, decide_eq_true d, Option.bind_some, if_true]
  · intro i hi hp
    refine Ev.step (f := fun _ => some false) (fun k => ?_) (Ev.now _)
    show accounts_amounts.l0 (k + 1) l l (l.length : Int) (i : Int) = _
    simp only [accounts_amounts.l0, prog_in]
    rw [if_pos (by omega), if_pos (by omega), if_pos (by omega), rd_acc]
    unfold amtAt at hp
    by_cases a : inR (acc l i).f1
    · by_cases b : inR (acc l i).f2
      · by_cases c : inR (acc l i).f3
        · by_cases d : inR (acc l i).f4
          · exact absurd ⟨a, b, c, d⟩ hp
          · simp [a, b, c, d]
        · simp [a, b, c]
      · simp [a, b]
    · simp [a]
  · intro _
    refine Ev.step (f := fun _ => some (decide (rootOk l))) (fun k => ?_) (Ev.now _)
    show accounts_amounts.l0 (k + 1) l l (l.length : Int) (l.length : Int) = _
    simp only [accounts_amounts.l0]
    rw [if_neg (by omega), if_pos (by omega), show rd_T43 l 0 = acc l 0 from rfl]
    unfold rootOk
    by_cases c : (acc l 0).f2 = 0
    · rw [if_pos c]
      by_cases d : (acc l 0).f3 = 0
      · simp [c, d]
      · simp [c, d]
    · rw [if_neg c]
      simp [c]
/-- 'Some Usage is above its Max'. -/
theorem prog_index (l : List S43) (hn : l.length ≤ 8) : ∃ r : Int, Ev (fun k => api_Account_61.f k l) r ∧ (0 ≤ r ↔ ¬ ∀ i, i < l.length → maxAt l i) := by
  have key : ∀ d i, i + d = l.length → (∀ j, j < i → maxAt l j) → ∃ r : Int, Ev (fun k => api_Account_61.l0 k l (l.length : Int) (i : Int)) r ∧ (0 ≤ r ↔ ¬ ∀ i, i < l.length → maxAt l i) := by
    intro d
    induction d with
    | zero =>
      intro i hi hp
      obtain rfl : i = l.length := by omega
      refine ⟨-1, Ev.step (f := fun _ => some (-1)) (fun k => ?_) (Ev.now _), ?_⟩
      · simp only [api_Account_61.l0]
        rw [if_neg (by omega)]
      · constructor
        · intro h; omega
        · intro h; exact absurd hp h
    | succ d ih =>
      intro i hi hp
      by_cases h : maxAt l i
      · obtain ⟨r, hr, hq⟩ := ih (i + 1) (by omega) (fun j hj => by
          rcases Nat.lt_succ_iff_lt_or_eq.1 hj with h1 | rfl
          · exact hp j h1
          · exact h)
        refine ⟨r, Ev.step (fun k => ?_) hr, hq⟩
        simp only [api_Account_61.l0, accounts_Check_1.f]
        unfold maxAt at h
        rw [if_pos (by omega), if_pos (by omega), if_pos (by omega), rd_acc, w64s (n := l.length) (by omega) (by omega)]
        rw [decide_eq_false (show ¬ ((acc l i).f1 > (acc l i).f4) by omega)]
        simp
      · refine ⟨i, Ev.step (f := fun _ => some (i : Int)) (fun k => ?_) (Ev.now _), ?_⟩
        · simp only [api_Account_61.l0, accounts_Check_1.f]
          unfold maxAt at h
          rw [if_pos (by omega), if_pos (by omega), if_pos (by omega), rd_acc]
          rw [decide_eq_true (show ((acc l i).f1 > (acc l i).f4) by omega)]
          simp
        · constructor
          · intro _ h2; exact h (h2 i (by omega))
          · intro _; omega
  exact key l.length 0 (by omega) (fun j hj => absurd hj (Nat.not_lt_zero _))
theorem prog_contains (l : List S43) (hn : l.length ≤ 8) : Ev (fun k => api_Account_50.f k l) (!decide (∀ i, i < l.length → maxAt l i)) := by
  obtain ⟨r, hr, hq⟩ := prog_index l hn
  refine Ev.congr (fun k => rfl) (f := fun k => (api_Account_61.f k l).bind fun t => some (decide (t ≥ 0))) ?_
  refine Ev.bindS hr ?_
  by_cases c : ∀ i, i < l.length → maxAt l i
  · rw [decide_eq_true c]
    have : ¬ (r ≥ 0) := fun h => (hq.1 h) c
    rw [show (fun _ : Nat => some (decide (r ≥ 0))) = fun _ => some false by rw [decide_eq_false this]]
    exact Ev.now _
  · rw [decide_eq_false c]
    have : r ≥ 0 := hq.2 c
    rw [show (fun _ : Nat => some (decide (r ≥ 0))) = fun _ => some true by rw [decide_eq_true this]]
    exact Ev.now _
/-- What own's loop holds after i accounts. -/
def ownTo (l : List S43) (i : Nat) : List Int := (List.range l.length).map fun p => (if p < i then (acc l p).f1 else 0) - kidsTo l (p : Int) i
theorem ownTo_len (l : List S43) (i : Nat) : (ownTo l i).length = l.length := by simp [ownTo]
theorem ownTo_get (l : List S43) (i : Nat) {p : Nat} (hp : p < l.length) : (ownTo l i).getD p 0 = (if p < i then (acc l p).f1 else 0) - kidsTo l (p : Int) i := by
  unfold ownTo
  simp [List.getD, hp]
theorem ownTo_zero (l : List S43) : ownTo l 0 = List.replicate l.length 0 := by
  unfold ownTo
  apply List.ext_getElem?
  intro i
  by_cases hi : i < l.length <;> simp [hi, kidsTo]
/-- A Parent is a lower number, so nothing above an account has been taken off it before its own turn. -/
theorem kidsTo_low {l : List S43} (ht : ∀ i, i < l.length → treeAt l i) (p : Nat) : ∀ n, n ≤ l.length → n ≤ p + 1 → kidsTo l (p : Int) n = 0
  | 0, _, _ => rfl
  | n + 1, h, hp => by
    rw [kidsTo, kidsTo_low ht p n (by omega) (by omega)]
    have := ht n (by omega)
    unfold treeAt at this
    split
    · rename_i hc
      rw [if_neg (by omega)] at this
      omega
    · rfl
theorem ownTo_step0 {l : List S43} (hl : 0 < l.length) : (ownTo l 0).set 0 (acc l 0).f1 = ownTo l 1 := by
  apply List.ext_getElem?
  intro p
  by_cases hp : p < l.length
  · by_cases h0 : p = 0
    · subst h0
      simp [ownTo, hl, kidsTo]
    · rw [List.getElem?_set_ne (by omega)]
      simp [ownTo, hp, kidsTo, h0]
  · simp [ownTo, hp]
theorem ownTo_step {l : List S43} {i q : Nat} (hi : i < l.length) (h0 : i ≠ 0) (hq : (acc l i).f0 = (q : Int)) (hqi : q < i) :
    ((ownTo l i).set i ((ownTo l i).getD i 0 + (acc l i).f1)).set q (((ownTo l i).set i ((ownTo l i).getD i 0 + (acc l i).f1)).getD q 0 - (acc l i).f1) = ownTo l (i + 1) := by
  rw [ownTo_get l i hi, if_neg (by omega)]
  have hg : ((ownTo l i).set i (0 - kidsTo l (i : Int) i + (acc l i).f1)).getD q 0 = (acc l q).f1 - kidsTo l (q : Int) i := by
    rw [List.getD_eq_getElem?_getD, List.getElem?_set_ne (by omega), ← List.getD_eq_getElem?_getD, ownTo_get l i (by omega), if_pos hqi]
  rw [hg]
  apply List.ext_getElem?
  intro p
  by_cases hp : p < l.length
  · by_cases h1 : p = q
    · subst h1
      rw [List.getElem?_set_self (by simp [ownTo_len]; omega)]
      simp only [ownTo, List.getElem?_map, List.getElem?_range hp, Option.map_some, kidsTo]
      rw [if_pos (by omega), if_pos ⟨by omega, hq⟩]
      congr 1
      omega
    · rw [List.getElem?_set_ne (by omega)]
      by_cases h2 : p = i
      · subst h2
        rw [List.getElem?_set_self (by simp [ownTo_len]; omega)]
        simp only [ownTo, List.getElem?_map, List.getElem?_range hp, Option.map_some, kidsTo]
        rw [if_pos (by omega), if_neg (by omega)]
        congr 1
        omega
      · rw [List.getElem?_set_ne (by omega)]
        simp only [ownTo, List.getElem?_map, List.getElem?_range hp, Option.map_some, kidsTo]
        rw [if_neg (show ¬ (i ≥ 1 ∧ (acc l i).f0 = (p : Int)) by omega)]
        congr 1
        by_cases h3 : p < i
        · rw [if_pos h3, if_pos (by omega)]; omega
        · rw [if_neg h3, if_neg (by omega)]; omega
  · simp [ownTo, hp]
theorem prog_own (l : List S43) (hn : l.length ≤ 8) (ht : ∀ i, i < l.length → treeAt l i) (ha : ∀ i, i < l.length → amtAt l i) :
    Ev (fun k => accounts_own.f k l) (ownTo l l.length) := by
  have key : ∀ d i, i + d = l.length → Ev (fun k => accounts_own.l0 k (ownTo l i) l (l.length : Int) (i : Int)) (ownTo l l.length) := by
    intro d
    induction d with
    | zero =>
      intro i hi
      obtain rfl : i = l.length := by omega
      refine Ev.step (f := fun _ => some _) (fun k => ?_) (Ev.now _)
      simp only [accounts_own.l0]
      rw [if_neg (by omega)]
    | succ d ih =>
      intro i hi
      have hil : i < l.length := by omega
      have hai := (ha i hil).1
      unfold inR at hai
      have hbd := kidsTo_bd ha (i : Int) i (by omega)
      refine Ev.step (fun k => ?_) (ih (i + 1) (by omega))
      simp only [accounts_own.l0]
      rw [if_pos (by omega), if_pos (by omega), if_pos (by omega), if_pos (by rw [ownTo_len]; omega), rd_acc, w64s (n := l.length) (by omega) (by omega)]
      have hrd : rd (ownTo l i) (i : Int) = (ownTo l i).getD i 0 := rfl
      have hv : (ownTo l i).getD i 0 = 0 - kidsTo l (i : Int) i := by rw [ownTo_get l i hil, if_neg (by omega)]
      rw [hrd, w64 (by omega) (by omega)]
      simp only [Option.bind_some, Int.toNat_natCast]
      have hti := ht i hil
      unfold treeAt at hti
      by_cases h0 : i = 0
      · subst h0
        rw [if_neg (by omega)]
        rw [hv]
        have e : (0 : Int) - kidsTo l ((0 : Nat) : Int) 0 + (acc l 0).f1 = (acc l 0).f1 := by simp [kidsTo]
        rw [e, ownTo_step0 (by omega)]
      · rw [if_neg h0] at hti
        obtain ⟨q, hq⟩ : ∃ q : Nat, (acc l i).f0 = (q : Int) := ⟨(acc l i).f0.toNat, by omega⟩
        rw [hq] at hti
        rw [if_pos (by omega), hq, if_pos (by omega), if_pos (by simp [ownTo_len]; omega)]
        have haq := (ha q (by omega)).1
        unfold inR at haq
        have hbq := kidsTo_bd ha (q : Int) i (by omega)
        have hrq : rd ((ownTo l i).set i ((ownTo l i).getD i 0 + (acc l i).f1)) (q : Int) = ((ownTo l i).set i ((ownTo l i).getD i 0 + (acc l i).f1)).getD q 0 := rfl
        have hgq : ((ownTo l i).set i ((ownTo l i).getD i 0 + (acc l i).f1)).getD q 0 = (acc l q).f1 - kidsTo l (q : Int) i := by
          rw [List.getD_eq_getElem?_getD, List.getElem?_set_ne (by omega), ← List.getD_eq_getElem?_getD, ownTo_get l i (by omega), if_pos (by omega)]
        rw [hrq, w64 (by omega) (by omega), Int.toNat_natCast, ownTo_step hil h0 hq (by omega)]
  refine Ev.congr (f := fun k => accounts_own.l0 k (ownTo l 0) l (l.length : Int) 0) (fun k => ?_) (key l.length 0 (by omega))
  unfold accounts_own.f
  rw [if_pos (by omega), if_pos (by omega), Int.toNat_natCast, ownTo_zero]
theorem prog_min (xs : List Int) (h1 : 1 ≤ xs.length) (hn : xs.length ≤ 8) : ∃ m : Int, Ev (fun k => slices_Min_int_int.f k xs) m ∧ (0 ≤ m ↔ ∀ i, i < xs.length → 0 ≤ xs.getD i 0) := by
  have key : ∀ d i m, i + d = xs.length → (0 ≤ m ↔ ∀ j, j < i → 0 ≤ xs.getD j 0) → ∃ r : Int, Ev (fun k => slices_Min_int_int.l0 k xs m (i : Int)) r ∧ (0 ≤ r ↔ ∀ i, i < xs.length → 0 ≤ xs.getD i 0) := by
    intro d
    induction d with
    | zero =>
      intro i m hi hp
      obtain rfl : i = xs.length := by omega
      refine ⟨m, Ev.step (f := fun _ => some m) (fun k => ?_) (Ev.now _), hp⟩
      simp only [slices_Min_int_int.l0]
      rw [if_neg (by omega)]
    | succ d ih =>
      intro i m hi hp
      obtain ⟨r, hr, hq⟩ := ih (i + 1) (mn m (xs.getD i 0)) (by omega) (by
        unfold mn
        constructor
        · intro h j hj
          rcases Nat.lt_succ_iff_lt_or_eq.1 hj with h3 | rfl
          · refine hp.1 ?_ j h3
            split at h <;> omega
          · split at h <;> omega
        · intro h
          have h2 := hp.2 (fun j hj => h j (by omega))
          have h3 := h i (by omega)
          split <;> omega)
      refine ⟨r, Ev.step (fun k => ?_) hr, hq⟩
      simp only [slices_Min_int_int.l0]
      rw [if_pos (by omega), if_pos (by omega), w64s (n := xs.length) (by omega) (by omega)]
      rfl
  obtain ⟨r, hr, hq⟩ := key (xs.length - 1) 1 (xs.getD 0 0) (by omega) (by
    constructor
    · intro h j hj
      obtain rfl : j = 0 := by omega
      exact h
    · intro h
      exact h 0 (by omega))
  refine ⟨r, Ev.congr (fun k => ?_) hr, hq⟩
  unfold slices_Min_int_int.f
  rw [if_neg (by omega), if_pos (by omega)]
  rfl
theorem prog_check (l : List S43) : Ev (fun k => accounts_Check.f k l) (chk l) := by
  unfold chk
  by_cases hlen : l.length < 1 ∨ l.length > 8
  · rw [if_pos hlen]
    refine Ev.step (f := fun _ => some 9) (fun k => ?_) (Ev.now _)
    unfold accounts_Check.f
    by_cases h1 : (l.length : Int) < 1
    · rw [if_pos h1]; simp [accounts_Check.j0]
    · rw [if_neg h1, decide_eq_true (by omega)]; simp [accounts_Check.j0]
  · rw [if_neg hlen]
    have hp : 1 ≤ l.length := by omega
    have hn : l.length ≤ 8 := by omega
    refine Ev.step (f := fun k => (accounts_tree.f k l).bind fun t126 => (if t126 = true then ((accounts_amounts.f k l).bind fun t127 => (if t127 = true then ((api_Account_50.f k l).bind fun t128 => (if t128 = true then (some 17) else ((accounts_own.f k l).bind fun t129 => ((slices_Min_int_int.f k t129).bind fun t132 => (if t132 < 0 then (some 11) else (some 0)))))) else (some 2))) else (some 1))) (fun k => ?_) ?_
    · unfold accounts_Check.f
      rw [if_neg (by omega), decide_eq_false (by omega)]
      simp [accounts_Check.j0]
    refine Ev.bindS (prog_tree l hn) ?_
    by_cases ht : ∀ i, i < l.length → treeAt l i
    · rw [if_pos ht, decide_eq_true ht]
      simp only [if_true]
      refine Ev.bindS (prog_amounts l hp hn) ?_
      by_cases ha : ∀ i, i < l.length → amtAt l i
      · rw [if_pos ha]
        by_cases hr : rootOk l
        · rw [if_pos hr, decide_eq_true ⟨ha, hr⟩]
          simp only [if_true]
          refine Ev.bindS (prog_contains l hn) ?_
          by_cases hm : ∀ i, i < l.length → maxAt l i
          · rw [if_pos hm, decide_eq_true hm]
            simp only [Bool.not_true, Bool.false_eq_true, if_false]
            refine Ev.bindS (prog_own l hn ht ha) ?_
            obtain ⟨m, hm1, hm2⟩ := prog_min (ownTo l l.length) (by rw [ownTo_len]; omega) (by rw [ownTo_len]; omega)
            refine Ev.bindS hm1 ?_
            have e : 0 ≤ m ↔ ∀ i, i < l.length → ownAt l i := by
              rw [hm2]
              constructor
              · intro h i hi
                have := h i (by rw [ownTo_len]; omega)
                rw [ownTo_get l _ hi, if_pos hi] at this
                unfold ownAt kids
                omega
              · intro h i hi
                rw [ownTo_len] at hi
                rw [ownTo_get l _ hi, if_pos hi]
                have := h i hi
                unfold ownAt kids at this
                omega
            by_cases ho : ∀ i, i < l.length → ownAt l i
            · rw [if_pos ho]
              exact Ev.some (fun k => by rw [if_neg (by have := e.2 ho; omega)])
            · rw [if_neg ho]
              exact Ev.some (fun k => by rw [if_pos (by have h5 : ¬ 0 ≤ m := fun h => ho (e.1 h); omega)])
          · rw [if_neg hm, decide_eq_false hm]
            exact Ev.some (fun k => rfl)
        · rw [if_neg hr, decide_eq_false (fun h => hr h.2)]
          exact Ev.some (fun k => rfl)
      · rw [if_neg ha, decide_eq_false (fun h => ha h.1)]
        exact Ev.some (fun k => rfl)
    · rw [if_neg ht, decide_eq_false ht]
      exact Ev.some (fun k => rfl)

theorem aw19 : Ev (fun k => estoverslaw19_awake.f k) true := Ev.of (fun k => estoverslaw19_awake.mono k) (k := 40) (by kernel_rfl)
theorem few19 (l : List S43) : estoverslaw19_Few.f l = some (decide (l.length ≤ 20)) := by
  unfold estoverslaw19_Few.f
  congr 1
  exact decide_eq_decide.2 (by omega)

/-! ### Paths, and what is added on them -/
def pth (l : List S43) (a : Nat) : List Nat :=
  a :: (if _h : 0 ≤ (acc l a).f0 ∧ (acc l a).f0.toNat < a then pth l (acc l a).f0.toNat else [])
termination_by a
def parOf (l : List S43) (a : Nat) : Nat := (acc l a).f0.toNat
theorem Ok.par_lt {l : List S43} (h : Ok l) {a : Nat} (ha : a < l.length) (h0 : a ≠ 0) : parOf l a < a ∧ (acc l a).f0 = (parOf l a : Int) := by
  have := h.par ha h0
  unfold parOf
  omega
theorem pth_zero {l : List S43} (h : Ok l) : pth l 0 = [0] := by
  rw [pth, dif_neg]
  have := h.par0
  omega
theorem pth_succ {l : List S43} (h : Ok l) {a : Nat} (ha : a < l.length) (h0 : a ≠ 0) : pth l a = a :: pth l (parOf l a) := by
  rw [pth, dif_pos]
  · rfl
  · have := h.par ha h0
    omega
theorem pth_le {l : List S43} (h : Ok l) : ∀ a, a < l.length → ∀ x ∈ pth l a, x ≤ a := by
  intro a
  induction a using Nat.strongRecOn with
  | _ a ih =>
    intro ha x hx
    by_cases h0 : a = 0
    · subst h0
      rw [pth_zero h] at hx
      simp at hx
      omega
    · rw [pth_succ h ha h0] at hx
      have hp := h.par_lt ha h0
      rcases List.mem_cons.1 hx with rfl | hx
      · exact Nat.le_refl _
      · have := ih _ hp.1 (by omega) x hx
        omega
theorem pth_self {l : List S43} (a : Nat) : a ∈ pth l a := by
  rw [pth]
  exact List.mem_cons_self
theorem pth_not {l : List S43} (h : Ok l) {a : Nat} (ha : a < l.length) (h0 : a ≠ 0) : a ∉ pth l (parOf l a) := by
  have hp := h.par_lt ha h0
  intro hx
  have := pth_le h _ (by omega) a hx
  omega
theorem pth_nodup {l : List S43} (h : Ok l) : ∀ a, a < l.length → (pth l a).Nodup := by
  intro a
  induction a using Nat.strongRecOn with
  | _ a ih =>
    intro ha
    by_cases h0 : a = 0
    · subst h0
      rw [pth_zero h]
      simp
    · rw [pth_succ h ha h0]
      have hp := h.par_lt ha h0
      exact List.nodup_cons.2 ⟨pth_not h ha h0, ih _ hp.1 (by omega)⟩
theorem pth_len {l : List S43} (h : Ok l) : ∀ a, a < l.length → (pth l a).length ≤ a + 1 := by
  intro a
  induction a using Nat.strongRecOn with
  | _ a ih =>
    intro ha
    by_cases h0 : a = 0
    · subst h0
      rw [pth_zero h]
      simp
    · rw [pth_succ h ha h0]
      have hp := h.par_lt ha h0
      have := ih _ hp.1 (by omega)
      simp only [List.length_cons]
      omega
theorem pth_lt {l : List S43} (h : Ok l) {a : Nat} (ha : a < l.length) : ∀ x ∈ pth l a, x < l.length := fun x hx => by
  have := pth_le h a ha x hx
  omega
def bump (s : S43) (n : Int) : S43 := ⟨s.f0, s.f1 + n, s.f2, s.f3, s.f4⟩
/-- n is added to the Usages of the accounts of X. -/
def addAt (l : List S43) (X : List Nat) (n : Int) : List S43 := (List.range l.length).map fun (i : Nat) => if i ∈ X then bump (acc l i) n else acc l i
theorem addAt_len (l : List S43) (X : List Nat) (n : Int) : (addAt l X n).length = l.length := by simp [addAt]
theorem map_range_getD {α : Type} (f : Nat → α) (d : α) {n i : Nat} (hi : i < n) : ((List.range n).map f).getD i d = f i := by simp [List.getD, hi]
theorem addAt_acc (l : List S43) (X : List Nat) (n : Int) {i : Nat} (hi : i < l.length) : acc (addAt l X n) i = if i ∈ X then bump (acc l i) n else acc l i := by
  exact map_range_getD (fun (i : Nat) => if i ∈ X then bump (acc l i) n else acc l i) _ hi
theorem acc_ext {l l' : List S43} (hl : l.length = l'.length) (h : ∀ i, i < l.length → acc l i = acc l' i) : l = l' := by
  apply List.ext_getElem hl
  intro i h1 h2
  have := h i h1
  unfold acc at this
  simpa [List.getD, h1, h2] using this
theorem addAt_nil (l : List S43) (n : Int) : addAt l [] n = l := by
  refine acc_ext (addAt_len _ _ _) fun i hi => ?_
  rw [addAt_len] at hi
  rw [addAt_acc l [] n hi, if_neg (by simp)]
theorem addAt_acc_same (l : List S43) (X : List Nat) (n : Int) {i : Nat} (hi : i < l.length) : (acc (addAt l X n) i).f0 = (acc l i).f0 ∧ (acc (addAt l X n) i).f2 = (acc l i).f2 ∧ (acc (addAt l X n) i).f3 = (acc l i).f3 ∧ (acc (addAt l X n) i).f4 = (acc l i).f4 := by
  rw [addAt_acc l X n hi]
  split <;> exact ⟨rfl, rfl, rfl, rfl⟩
theorem addAt_f1 (l : List S43) (X : List Nat) (n : Int) {i : Nat} (hi : i < l.length) : (acc (addAt l X n) i).f1 = (acc l i).f1 + if i ∈ X then n else 0 := by
  rw [addAt_acc l X n hi]
  split
  · rfl
  · simp
/-- One more account, which was not there. -/
theorem addAt_step (l : List S43) (X : List Nat) (n : Int) {x : Nat} (hx : x < l.length) (hn : x ∉ X) : (addAt l X n).set x (bump (acc (addAt l X n) x) n) = addAt l (X ++ [x]) n := by
  refine acc_ext (by simp [addAt_len]) fun i hi => ?_
  rw [List.length_set, addAt_len] at hi
  have hs : acc ((addAt l X n).set x (bump (acc (addAt l X n) x) n)) i = if i = x then bump (acc (addAt l X n) x) n else acc (addAt l X n) i := by
    show ((addAt l X n).set x (bump (acc (addAt l X n) x) n)).getD i z43 = _
    by_cases h : i = x
    · subst h
      rw [if_pos rfl, List.getD_eq_getElem?_getD, List.getElem?_set_self (by rw [addAt_len]; exact hi)]
      rfl
    · rw [if_neg h, List.getD_eq_getElem?_getD, List.getElem?_set_ne (fun e => h e.symm), ← List.getD_eq_getElem?_getD]
      rfl
  rw [hs, addAt_acc l (X ++ [x]) n hi]
  by_cases h : i = x
  · subst h
    rw [if_pos rfl, if_pos (by simp), addAt_acc l X n hi, if_neg hn]
  · rw [if_neg h, addAt_acc l X n hi]
    simp [h]
/-- The children of p in X, below m. -/
def cntC (l : List S43) (X : List Nat) (p : Int) : Nat → Nat
  | 0 => 0
  | c + 1 => cntC l X p c + if c ≥ 1 ∧ (acc l c).f0 = p ∧ c ∈ X then 1 else 0
theorem kidsTo_add (l : List S43) (X : List Nat) (n : Int) (p : Int) : ∀ m, m ≤ l.length → kidsTo (addAt l X n) p m = kidsTo l p m + n * (cntC l X p m : Int)
  | 0, _ => by simp [kidsTo, cntC]
  | c + 1, h => by
    have ih := kidsTo_add l X n p c (by omega)
    unfold kidsTo cntC
    rw [ih, (addAt_acc_same l X n (i := c) (by omega)).1, addAt_f1 l X n (i := c) (by omega)]
    by_cases h1 : c ≥ 1 ∧ (acc l c).f0 = p
    · by_cases h2 : c ∈ X
      · have h3 : c ≥ 1 ∧ (acc l c).f0 = p ∧ c ∈ X := ⟨h1.1, h1.2, h2⟩
        simp only [if_pos h1, if_pos h2, if_pos h3]
        rw [Int.natCast_add, Int.mul_add]
        simp
        omega
      · have h3 : ¬ (c ≥ 1 ∧ (acc l c).f0 = p ∧ c ∈ X) := fun z => h2 z.2.2
        simp only [if_pos h1, if_neg h2, if_neg h3]
        simp
        omega
    · have h3 : ¬ (c ≥ 1 ∧ (acc l c).f0 = p ∧ c ∈ X) := fun z => h1 ⟨z.1, z.2.1⟩
      simp only [if_neg h1, if_neg h3]
      simp
theorem cntC_nil (l : List S43) (p : Int) : ∀ m, cntC l [] p m = 0
  | 0 => rfl
  | c + 1 => by
    unfold cntC
    rw [cntC_nil l p c]
    simp
theorem cntC_cons (l : List S43) (X : List Nat) {a : Nat} (ha : a ∉ X) (p : Int) : ∀ m, cntC l (a :: X) p m = cntC l X p m + if a < m ∧ a ≥ 1 ∧ (acc l a).f0 = p then 1 else 0
  | 0 => by simp [cntC]
  | c + 1 => by
    unfold cntC
    rw [cntC_cons l X ha p c]
    by_cases h : c = a
    · subst h
      have hcc : ¬ (c < c ∧ c ≥ 1 ∧ (acc l c).f0 = p) := fun z => absurd z.1 (Nat.lt_irrefl _)
      have hx : ¬ (c ≥ 1 ∧ (acc l c).f0 = p ∧ c ∈ X) := fun z => ha z.2.2
      by_cases h1 : c ≥ 1 ∧ (acc l c).f0 = p
      · have h2 : c ≥ 1 ∧ (acc l c).f0 = p ∧ c ∈ c :: X := ⟨h1.1, h1.2, List.mem_cons_self⟩
        have h3 : c < c + 1 ∧ c ≥ 1 ∧ (acc l c).f0 = p := ⟨by omega, h1⟩
        simp only [if_neg hcc, if_neg hx, if_pos h2, if_pos h3]
      · have h2 : ¬ (c ≥ 1 ∧ (acc l c).f0 = p ∧ c ∈ c :: X) := fun z => h1 ⟨z.1, z.2.1⟩
        have h3 : ¬ (c < c + 1 ∧ c ≥ 1 ∧ (acc l c).f0 = p) := fun z => h1 z.2
        simp only [if_neg hcc, if_neg hx, if_neg h2, if_neg h3]
    · have e : (c ∈ a :: X) ↔ c ∈ X := by simp [h]
      simp only [e]
      have e2 : a < c + 1 ↔ a < c := by omega
      simp only [e2]
      omega
/-- On a path each account but the first has one child. -/
theorem cntC_pth {l : List S43} (h : Ok l) (p : Nat) : ∀ a, a < l.length → cntC l (pth l a) (p : Int) l.length = if p ∈ pth l a ∧ p ≠ a then 1 else 0 := by
  intro a
  induction a using Nat.strongRecOn with
  | _ a ih =>
    intro ha
    by_cases h0 : a = 0
    · subst h0
      rw [pth_zero h, cntC_cons l [] (by simp), cntC_nil, if_neg (by omega), if_neg (by simp)]
    · have hp := h.par_lt ha h0
      have hn := pth_not h ha h0
      rw [pth_succ h ha h0, cntC_cons l _ hn, ih _ hp.1 (by omega), hp.2]
      have hs := pth_self (l := l) (parOf l a)
      by_cases e : p = parOf l a
      · subst e
        rw [if_neg (by simp), if_pos ⟨ha, by omega, rfl⟩, if_pos ⟨List.mem_cons_of_mem _ hs, by omega⟩]
      · rw [if_neg (show ¬ (a < l.length ∧ a ≥ 1 ∧ ((parOf l a : Nat) : Int) = (p : Int)) by omega), Nat.add_zero]
        by_cases hm : p ∈ pth l (parOf l a)
        · have hpa : p ≠ a := fun z => hn (z ▸ hm)
          rw [if_pos ⟨hm, e⟩, if_pos ⟨List.mem_cons_of_mem _ hm, hpa⟩]
        · rw [if_neg (fun z => hm z.1), if_neg]
          rintro ⟨z1, z2⟩
          rcases List.mem_cons.1 z1 with rfl | z
          · exact z2 rfl
          · exact hm z
def ownU (l : List S43) (p : Nat) : Int := (acc l p).f1 - kids l (p : Int)
/-- The own usages behind a charge of n to a. -/
theorem ownU_add {l : List S43} (h : Ok l) {a : Nat} (ha : a < l.length) (n : Int) {p : Nat} (hp : p < l.length) : ownU (addAt l (pth l a) n) p = ownU l p + if p = a then n else 0 := by
  have hk := kidsTo_add l (pth l a) n (p : Int) l.length (Nat.le_refl _)
  have hc := cntC_pth h p a ha
  unfold ownU kids
  rw [addAt_len, hk, hc, addAt_f1 l _ n hp]
  by_cases e : p = a
  · subst e
    rw [if_pos (pth_self p), if_neg (by simp), if_pos rfl]
    simp
    omega
  · rw [if_neg e]
    by_cases hm : p ∈ pth l a
    · rw [if_pos hm, if_pos ⟨hm, e⟩]
      simp
      omega
    · rw [if_neg hm, if_neg (fun z => hm z.1)]
      simp
/-- A list behind an addition on a path is valid. -/
theorem Ok.add {l : List S43} (h : Ok l) {a : Nat} (ha : a < l.length) {n : Int} (hlo : ∀ x ∈ pth l a, 0 ≤ (acc l x).f1 + n) (hhi : ∀ x ∈ pth l a, (acc l x).f1 + n ≤ (acc l x).f4) (hown : 0 ≤ ownU l a + n) : Ok (addAt l (pth l a) n) := by
  have hlen := addAt_len l (pth l a) n
  refine ⟨by rw [hlen]; exact h.pos, by rw [hlen]; exact h.few, fun i hi => ?_, fun i hi => ?_, ?_, fun i hi => ?_, fun i hi => ?_⟩
  · rw [hlen] at hi
    have := h.tree i hi
    unfold treeAt at this ⊢
    rw [(addAt_acc_same l _ n hi).1]
    exact this
  · rw [hlen] at hi
    obtain ⟨a1, a2, a3, a4⟩ := h.amt i hi
    have hm := h.max i hi
    have hs := addAt_acc_same l (pth l a) n hi
    unfold amtAt
    rw [hs.2.1, hs.2.2.1, hs.2.2.2, addAt_f1 l _ n hi]
    refine ⟨?_, a2, a3, a4⟩
    unfold inR at a1 a4 ⊢
    unfold maxAt at hm
    by_cases hx : i ∈ pth l a
    · have := hlo i hx
      have := hhi i hx
      rw [if_pos hx]
      omega
    · rw [if_neg hx]
      omega
  · have hs := addAt_acc_same l (pth l a) n h.pos
    unfold rootOk
    rw [hs.2.1, hs.2.2.1]
    exact h.root
  · rw [hlen] at hi
    have hm := h.max i hi
    unfold maxAt at hm ⊢
    rw [(addAt_acc_same l _ n hi).2.2.2, addAt_f1 l _ n hi]
    by_cases hx : i ∈ pth l a
    · have := hhi i hx
      rw [if_pos hx]
      omega
    · rw [if_neg hx]
      omega
  · rw [hlen] at hi
    have ho := h.own i hi
    have hu := ownU_add h ha n hi
    unfold ownAt at ho ⊢
    unfold ownU at hu hown
    by_cases e : i = a
    · subst e
      rw [if_pos rfl] at hu
      omega
    · rw [if_neg e] at hu
      omega
/-- Parents stay, so paths stay. -/
theorem pth_add {l : List S43} (X : List Nat) (n : Int) : ∀ a, a < l.length → pth (addAt l X n) a = pth l a := by
  intro a
  induction a using Nat.strongRecOn with
  | _ a ih =>
    intro ha
    have hs := (addAt_acc_same l X n ha).1
    conv => lhs; rw [pth]
    conv => rhs; rw [pth]
    simp only [hs]
    by_cases h0 : 0 ≤ (acc l a).f0 ∧ (acc l a).f0.toNat < a
    · rw [dif_pos h0, dif_pos h0, ih _ h0.2 (by omega)]
    · rw [dif_neg h0, dif_neg h0]

/-! ### The program's and the reference's functions on paths -/
def ints (X : List Nat) : List Int := X.map fun (x : Nat) => (x : Int)
theorem ints_len (X : List Nat) : (ints X).length = X.length := by simp [ints]
theorem ints_get (X : List Nat) {j : Nat} (hj : j < X.length) : rd (ints X) (j : Int) = (X[j] : Int) := by
  show (ints X).getD j 0 = _
  unfold ints
  simp [List.getD, hj]
theorem mem_ints (X : List Nat) (x : Nat) : (x : Int) ∈ ints X ↔ x ∈ X := by
  unfold ints
  constructor
  · intro h
    obtain ⟨y, hy, e⟩ := List.mem_map.1 h
    have : y = x := by omega
    exact this ▸ hy
  · intro h
    exact List.mem_map.2 ⟨x, h, rfl⟩
/-- There is such an account. -/
def isAt (l : List S43) (a : Int) : Prop := chk l = 0 ∧ 0 ≤ a ∧ a < l.length
instance (l : List S43) (a : Int) : Decidable (isAt l a) := by unfold isAt; infer_instance
theorem isAt.nat {l : List S43} {a : Int} (h : isAt l a) : ∃ n : Nat, a = (n : Int) ∧ n < l.length := ⟨a.toNat, by have := h.2; omega, by have := h.2; omega⟩
def pathI (l : List S43) (a : Int) : List Int := if isAt l a then ints (pth l a.toNat) else []
theorem prog_is (l : List S43) (a : Int) : Ev (fun k => accounts_is.f k l a) (decide (isAt l a)) := by
  refine Ev.bindS (prog_check l) ?_
  by_cases h : chk l = 0
  · refine Ev.some (fun k => ?_)
    rw [if_pos h]
    by_cases h1 : a ≥ 0
    · rw [if_pos h1]
      congr 1
      exact decide_eq_decide.2 ⟨fun h2 => ⟨h, h1, h2⟩, fun h2 => h2.2.2⟩
    · rw [if_neg h1, decide_eq_false (show ¬ isAt l a from fun h2 => h1 h2.2.1)]
  · refine Ev.some (fun k => ?_)
    rw [if_neg h, decide_eq_false (show ¬ isAt l a from fun h2 => h h2.1)]
theorem prog_path_l0 {l : List S43} (h : Ok l) : ∀ a, a < l.length → ∀ xs : List Int, xs.length + a ≤ 1000 → Ev (fun k => accounts_Path.l0 k l xs (a : Int)) (xs ++ ints (pth l a)) := by
  intro a
  induction a using Nat.strongRecOn with
  | _ a ih =>
    intro ha xs hx
    by_cases h0 : a = 0
    · subst h0
      refine Ev.step (f := fun k => accounts_Path.l0 k l (xs ++ [0]) (-1)) (fun k => ?_) ?_
      · simp only [accounts_Path.l0]
        rw [if_pos (by omega), if_pos (by omega), if_pos (by omega), if_pos (by omega), rd_acc, h.par0]
        rfl
      · refine Ev.step (f := fun _ => some (xs ++ [0])) (fun k => ?_) ?_
        · simp only [accounts_Path.l0]
          rw [if_neg (by omega)]
        · rw [pth_zero h]
          exact Ev.now _
    · have hp := h.par_lt ha h0
      have hq := ih _ hp.1 (by omega) (xs ++ [(a : Int)]) (by simp; omega)
      rw [pth_succ h ha h0]
      have e : xs ++ ints (a :: pth l (parOf l a)) = xs ++ [(a : Int)] ++ ints (pth l (parOf l a)) := by simp [ints]
      rw [e]
      refine Ev.step (fun k => ?_) hq
      simp only [accounts_Path.l0]
      rw [if_pos (by omega), if_pos (by omega), if_pos (by omega), if_pos (by omega), rd_acc, hp.2]
theorem prog_path (l : List S43) (a : Int) : Ev (fun k => accounts_Path.f k l a) (pathI l a) := by
  refine Ev.bindS (prog_is l a) ?_
  unfold pathI
  by_cases h : isAt l a
  · rw [if_pos h, decide_eq_true h]
    refine Ev.congr (fun k => if_pos rfl) ?_
    obtain ⟨n, rfl, hn⟩ := h.nat
    have ho := chk_ok.1 h.1
    have := ho.few
    exact prog_path_l0 ho n hn [] (by simp; omega)
  · rw [if_neg h, decide_eq_false h]
    exact Ev.some (fun k => rfl)
/-- 'Contains'. -/
theorem prog_cont (xs : List Int) (s : Int) (hn : xs.length ≤ 1000) : Ev (fun k => slices_Contains_int_int.f k xs s) (decide (s ∈ xs)) := by
  have key : ∀ d i, i + d = xs.length → (∀ j, j < i → xs.getD j 0 ≠ s) → ∃ r : Int, Ev (fun k => slices_Index_int_int.l0 k xs s (xs.length : Int) (i : Int)) r ∧ (0 ≤ r ↔ s ∈ xs) := by
    intro d
    induction d with
    | zero =>
      intro i hi hp
      obtain rfl : i = xs.length := by omega
      refine ⟨-1, Ev.step (f := fun _ => some (-1)) (fun k => ?_) (Ev.now _), ?_⟩
      · simp only [slices_Index_int_int.l0]
        rw [if_neg (by omega)]
      · constructor
        · intro h; omega
        · intro h
          obtain ⟨j, hj, e⟩ := List.mem_iff_getElem.1 h
          exact absurd (by simp [List.getD, hj, e]) (hp j hj)
    | succ d ih =>
      intro i hi hp
      have hil : i < xs.length := by omega
      have e : rd xs (i : Int) = xs.getD i 0 := rfl
      by_cases h : s = xs.getD i 0
      · refine ⟨i, Ev.step (f := fun _ => some (i : Int)) (fun k => ?_) (Ev.now _), ?_⟩
        · simp only [slices_Index_int_int.l0]
          rw [if_pos (by omega), if_pos (by omega), if_pos (by omega), e, if_pos h]
        · refine ⟨fun _ => ?_, fun _ => by omega⟩
          rw [h, List.getD_eq_getElem?_getD, List.getElem?_eq_getElem hil]
          exact List.getElem_mem hil
      · obtain ⟨r, hr, hq⟩ := ih (i + 1) (by omega) (fun j hj => by
          rcases Nat.lt_succ_iff_lt_or_eq.1 hj with h1 | rfl
          · exact hp j h1
          · exact fun z => h z.symm)
        refine ⟨r, Ev.step (fun k => ?_) hr, hq⟩
        simp only [slices_Index_int_int.l0]
        rw [if_pos (by omega), if_pos (by omega), if_pos (by omega), e, if_neg h, w64s hil (by omega)]
  obtain ⟨r, hr, hq⟩ := key xs.length 0 (by omega) (fun j hj => absurd hj (Nat.not_lt_zero _))
  refine Ev.bindS (g := fun k => slices_Index_int_int.f k xs s) (f := fun _ t => some (decide (t ≥ 0))) (Ev.congr (fun k => rfl) hr) ?_
  rw [decide_eq_decide.2 (show r ≥ 0 ↔ s ∈ xs from hq)]
  exact Ev.now _
def inside (l : List S43) (a s : Int) : Bool := decide (isAt l a ∧ (s = -1 ∨ s ∈ pathI l a))
theorem pathI_len (l : List S43) (a : Int) : (pathI l a).length ≤ 8 := by
  unfold pathI
  by_cases h : isAt l a
  · rw [if_pos h, ints_len]
    obtain ⟨n, rfl, hn⟩ := h.nat
    have ho := chk_ok.1 h.1
    have := ho.few
    have := pth_len ho n hn
    simp only [Int.toNat_natCast]
    omega
  · rw [if_neg h]
    simp
theorem prog_inside (l : List S43) (a s : Int) : Ev (fun k => accounts_Inside.f k l a s) (inside l a s) := by
  refine Ev.bindS (prog_is l a) ?_
  unfold inside
  by_cases h : isAt l a
  · rw [decide_eq_true h]
    refine Ev.congr (fun k => if_pos rfl) ?_
    by_cases h1 : s = -1
    · rw [decide_eq_true ⟨h, .inl h1⟩]
      exact Ev.some (fun k => if_pos h1)
    · refine Ev.congr (fun k => if_neg h1) ?_
      refine Ev.bindS (prog_path l a) (Ev.bindS (prog_cont _ s (by have := pathI_len l a; omega)) ?_)
      rw [decide_eq_decide.2 (show (isAt l a ∧ (s = -1 ∨ s ∈ pathI l a)) ↔ s ∈ pathI l a from ⟨fun z => z.2.resolve_left h1, fun z => ⟨h, .inr z⟩⟩)]
      exact Ev.now _
  · rw [decide_eq_false h, decide_eq_false (fun z => h z.1)]
    exact Ev.some (fun k => rfl)
def ownI (l : List S43) (a : Int) : Int := if isAt l a then ownU l a.toNat else -1
theorem prog_ownf (l : List S43) (a : Int) : Ev (fun k => accounts_Own.f k l a) (ownI l a) := by
  refine Ev.bindS (prog_is l a) ?_
  unfold ownI
  by_cases h : isAt l a
  · rw [if_pos h, decide_eq_true h]
    refine Ev.congr (fun k => if_pos rfl) ?_
    obtain ⟨n, rfl, hn⟩ := h.nat
    have ho := chk_ok.1 h.1
    refine Ev.bindS (prog_own l ho.few ho.tree ho.amt) ?_
    refine Ev.some (fun k => ?_)
    have e : rd (ownTo l l.length) (n : Int) = ownU l n := by
      show (ownTo l l.length).getD n 0 = _
      rw [ownTo_get l _ hn, if_pos hn]
      rfl
    rw [if_pos (by omega), if_pos (by rw [ownTo_len]; omega), e, Int.toNat_natCast]
  · rw [if_neg h, decide_eq_false h]
    exact Ev.some (fun k => rfl)
/-- The least margin along a path, from what has been found so far. -/
def marL (l : List S43) : List Nat → Int × Int → Int × Int
  | [], b => b
  | x :: X, b => marL l X (if (acc l x).f4 - (acc l x).f1 < b.1 then ((acc l x).f4 - (acc l x).f1, (x : Int)) else b)
def marI (l : List S43) (a : Int) : Int × Int × Int :=
  if chk l = 0 then (if isAt l a then ((marL l (pth l a.toNat) ((acc l a.toNat).f4 - (acc l a.toNat).f1, a)).1, (marL l (pth l a.toNat) ((acc l a.toNat).f4 - (acc l a.toNat).f1, a)).2, 0) else (0, 0, 6)) else (0, 0, chk l)
theorem Ok.w {l : List S43} (h : Ok l) {x : Nat} (hx : x < l.length) : wrap64 ((acc l x).f4 - (acc l x).f1) = (acc l x).f4 - (acc l x).f1 := by
  obtain ⟨a1, _, _, a4⟩ := h.amt x hx
  unfold inR at a1 a4
  exact w64 (by omega) (by omega)
theorem prog_margin (l : List S43) (a : Int) : Ev (fun k => accounts_Margin.f k l a) (marI l a) := by
  refine Ev.bindS (prog_check l) ?_
  unfold marI
  by_cases hc : chk l = 0
  · rw [if_pos hc]
    refine Ev.congr (fun k => if_pos hc) ?_
    refine Ev.bindS (prog_is l a) ?_
    by_cases h : isAt l a
    · rw [if_pos h, decide_eq_true h]
      refine Ev.congr (fun k => if_pos rfl) ?_
      obtain ⟨n, rfl, hn⟩ := h.nat
      have ho := chk_ok.1 h.1
      refine Ev.congr (fun k => by rw [if_pos (by omega), if_pos (by omega)]) ?_
      refine Ev.bindS (prog_path l n) ?_
      have hpl := pathI_len l (n : Int)
      have hpe : pathI l (n : Int) = ints (pth l n) := by unfold pathI; rw [if_pos h, Int.toNat_natCast]
      rw [hpe] at hpl ⊢
      rw [ints_len] at hpl
      have key : ∀ d i (b : Int × Int), i + d = (pth l n).length → Ev (fun k => accounts_Margin.l0 k l b.1 b.2 (ints (pth l n)) ((ints (pth l n)).length : Int) (i : Int)) ((marL l ((pth l n).drop i) b).1, (marL l ((pth l n).drop i) b).2, 0) := by
        intro d
        induction d with
        | zero =>
          intro i b hi
          obtain rfl : i = (pth l n).length := by omega
          rw [List.drop_length]
          refine Ev.step (f := fun _ => some _) (fun k => ?_) (Ev.now _)
          simp only [accounts_Margin.l0]
          rw [if_neg (by rw [ints_len]; omega)]
          rfl
        | succ d ih =>
          intro i b hi
          have hil : i < (pth l n).length := by omega
          have hx := pth_lt ho hn _ (List.getElem_mem hil)
          rw [List.drop_eq_getElem_cons hil]
          refine Ev.step (fun k => ?_) (ih (i + 1) _ (by omega))
          simp only [accounts_Margin.l0]
          rw [if_pos (by rw [ints_len]; omega), if_pos (by omega), if_pos (by rw [ints_len]; omega), ints_get _ hil, if_pos (by omega), if_pos (by omega), rd_acc, ho.w hx, w64s hil (by omega)]
          by_cases h2 : (acc l (pth l n)[i]).f4 - (acc l (pth l n)[i]).f1 < b.1
          · rw [if_pos h2, if_pos h2]
          · rw [if_neg h2, if_neg h2]
      have := key (pth l n).length 0 ((acc l n).f4 - (acc l n).f1, (n : Int)) (by omega)
      rw [List.drop_zero] at this
      rw [rd_acc, ho.w hn, Int.toNat_natCast]
      exact this
    · rw [if_neg h, decide_eq_false h]
      exact Ev.some (fun k => rfl)
  · rw [if_neg hc]
    exact Ev.some (fun k => if_neg hc)

/-! ### Charges of the program -/
theorem prog_clone (l : List S43) (hn : l.length ≤ 1000) : api_Account_63.f l = some l := by
  unfold api_Account_63.f
  simp only [Option.bind_some, List.nil_append]
  rw [if_pos (by simp; omega)]
theorem not_take {X : List Nat} (h : X.Nodup) {i : Nat} (hi : i < X.length) : X[i] ∉ X.take i := by
  intro hm
  obtain ⟨j, hj, e⟩ := List.mem_iff_getElem.1 hm
  rw [List.length_take] at hj
  rw [List.getElem_take] at e
  have := (List.getElem_inj h).1 e
  omega
theorem prog_add_l0 {l : List S43} (h : Ok l) {X : List Nat} (hX : X.Nodup) (hlt : ∀ x ∈ X, x < l.length) (hl : X.length ≤ 8) {n : Int} (h0 : -1048576 ≤ n) (h1 : n ≤ 1048576) :
    Ev (fun k => accounts_add.l0 k n l (ints X) ((ints X).length : Int) 0) (addAt l X n) := by
  have key : ∀ d i, i + d = X.length → Ev (fun k => accounts_add.l0 k n (addAt l (X.take i) n) (ints X) ((ints X).length : Int) (i : Int)) (addAt l X n) := by
    intro d
    induction d with
    | zero =>
      intro i hi
      obtain rfl : i = X.length := by omega
      rw [List.take_length]
      refine Ev.step (f := fun _ => some _) (fun k => ?_) (Ev.now _)
      simp only [accounts_add.l0]
      rw [if_neg (by rw [ints_len]; omega)]
    | succ d ih =>
      intro i hi
      have hil : i < X.length := by omega
      have hx := hlt _ (List.getElem_mem hil)
      have hn := not_take hX hil
      have hb := (h.amt _ hx).1
      unfold inR at hb
      have hf := addAt_f1 l (X.take i) n hx
      rw [if_neg hn] at hf
      refine Ev.step (fun k => ?_) (ih (i + 1) (by omega))
      simp only [accounts_add.l0]
      rw [if_pos (by rw [ints_len]; omega), if_pos (by omega), if_pos (by rw [ints_len]; omega), ints_get _ hil, if_pos (by omega), if_pos (by rw [addAt_len]; omega), rd_acc, Int.toNat_natCast, w64 (x := (acc (addAt l (X.take i) n) X[i]).f1 + n) (by omega) (by omega), w64s hil (by omega), List.take_succ_eq_append_getElem hil, ← addAt_step l (X.take i) n hx hn]
      rfl
  have := key X.length 0 (by omega)
  rw [List.take_zero, addAt_nil] at this
  exact this
theorem prog_add {l : List S43} {a : Nat} (h : isAt l (a : Int)) {n : Int} (h0 : -1048576 ≤ n) (h1 : n ≤ 1048576) : Ev (fun k => accounts_add.f k l (a : Int) n) (addAt l (pth l a) n) := by
  have ho := chk_ok.1 h.1
  have hf := ho.few
  have ha : a < l.length := by have := h.2.2; omega
  have hp := pth_len ho a ha
  have hpe : pathI l (a : Int) = ints (pth l a) := by unfold pathI; rw [if_pos h, Int.toNat_natCast]
  refine Ev.bindS (g := fun _ => api_Account_63.f l) (Ev.some (fun _ => prog_clone l (by omega))) ?_
  refine Ev.bindS (prog_path l (a : Int)) ?_
  rw [hpe]
  exact prog_add_l0 ho (pth_nodup ho a ha) (pth_lt ho ha) (by omega) h0 h1
def req (l : List S43) (a n : Int) : Int := if chk l = 0 then (if isAt l a then (if inR n then 0 else 2) else 6) else chk l
theorem prog_req (l : List S43) (a n : Int) : Ev (fun k => accounts_request.f k l a n) (req l a n) := by
  refine Ev.bindS (prog_check l) ?_
  unfold req
  by_cases hc : chk l = 0
  · rw [if_pos hc]
    refine Ev.congr (fun k => if_pos hc) ?_
    refine Ev.bindS (prog_is l a) ?_
    by_cases h : isAt l a
    · rw [if_pos h, decide_eq_true h]
      refine Ev.congr (fun k => if_pos rfl) ?_
      rw [prog_in]
      by_cases hn : inR n
      · rw [if_pos hn, decide_eq_true hn]
        exact Ev.some (fun k => rfl)
      · rw [if_neg hn, decide_eq_false hn]
        exact Ev.some (fun k => rfl)
    · rw [if_neg h, decide_eq_false h]
      exact Ev.some (fun k => rfl)
  · rw [if_neg hc]
    exact Ev.some (fun k => if_neg hc)
theorem req_zero {l : List S43} {a n : Int} : req l a n = 0 ↔ isAt l a ∧ inR n := by
  unfold req
  by_cases hc : chk l = 0
  · rw [if_pos hc]
    by_cases h : isAt l a
    · rw [if_pos h]
      by_cases hn : inR n
      · simp [hn, h]
      · simp [hn]
    · simp [h]
  · rw [if_neg hc]
    exact ⟨fun z => absurd z hc, fun z => absurd z.1.1 hc⟩
/-- The first account of a path that a charge would take above its Max. -/
def full (l : List S43) (n : Int) (X : List Nat) : Option Nat := X.find? fun x => decide ((acc l x).f1 + n > (acc l x).f4)
def chg (l : List S43) (a n : Int) : List S43 × Int × Int :=
  if req l a n = 0 then
    match full l n (pth l a.toNat) with
    | some x => ([], (x : Int), 17)
    | none => (addAt l (pth l a.toNat) n, -1, 0)
  else ([], -1, req l a n)
theorem prog_charge (l : List S43) (a n : Int) : Ev (fun k => accounts_Charge.f k l a n) (chg l a n) := by
  refine Ev.bindS (prog_req l a n) ?_
  unfold chg
  by_cases hr : req l a n = 0
  · rw [if_pos hr]
    refine Ev.congr (fun k => if_pos hr) ?_
    obtain ⟨h, hn⟩ := req_zero.1 hr
    obtain ⟨a, rfl, ha⟩ := h.nat
    have ho := chk_ok.1 h.1
    have hf := ho.few
    have hp := pth_len ho a ha
    have hpe : pathI l (a : Int) = ints (pth l a) := by unfold pathI; rw [if_pos h, Int.toNat_natCast]
    have hlt := pth_lt ho ha
    have hadd := prog_add h (n := n) (by unfold inR at hn; omega) (by unfold inR at hn; omega)
    refine Ev.bindS (prog_path l (a : Int)) ?_
    rw [hpe, Int.toNat_natCast]
    have key : ∀ d i, i + d = (pth l a).length → (∀ j (hj : j < (pth l a).length), j < i → ¬ ((acc l (pth l a)[j]).f1 + n > (acc l (pth l a)[j]).f4)) →
        Ev (fun k => accounts_Charge.l0 k l (a : Int) n (ints (pth l a)) ((ints (pth l a)).length : Int) (i : Int)) (match full l n ((pth l a).drop i) with | some x => ([], (x : Int), 17) | none => (addAt l (pth l a) n, -1, 0)) := by
      intro d
      induction d with
      | zero =>
        intro i hi hq
        obtain rfl : i = (pth l a).length := by omega
        rw [List.drop_length]
        refine Ev.step (f := fun k => (accounts_add.f k l (a : Int) n).bind fun t => some (t, (-1), 0)) (fun k => ?_) (Ev.bindS hadd (Ev.now _))
        simp only [accounts_Charge.l0]
        rw [if_neg (by rw [ints_len]; omega)]
      | succ d ih =>
        intro i hi hq
        have hil : i < (pth l a).length := by omega
        have hx := hlt _ (List.getElem_mem hil)
        have hb := (ho.amt _ hx).1
        unfold inR at hb hn
        rw [List.drop_eq_getElem_cons hil]
        unfold full
        rw [List.find?_cons]
        by_cases h2 : (acc l (pth l a)[i]).f1 + n > (acc l (pth l a)[i]).f4
        · rw [decide_eq_true h2]
          refine Ev.step (f := fun _ => some _) (fun k => ?_) (Ev.now _)
          simp only [accounts_Charge.l0]
          rw [if_pos (by rw [ints_len]; omega), if_pos (by omega), if_pos (by rw [ints_len]; omega), ints_get _ hil, if_pos (by omega), if_pos (by omega), rd_acc, w64 (x := (acc l (pth l a)[i]).f1 + n) (by omega) (by omega), if_pos h2]
        · rw [decide_eq_false h2]
          refine Ev.step (fun k => ?_) (ih (i + 1) (by omega) (fun j hj hji => by
            rcases Nat.lt_succ_iff_lt_or_eq.1 hji with h3 | rfl
            · exact hq j hj h3
            · exact h2))
          simp only [accounts_Charge.l0]
          rw [if_pos (by rw [ints_len]; omega), if_pos (by omega), if_pos (by rw [ints_len]; omega), ints_get _ hil, if_pos (by omega), if_pos (by omega), rd_acc, w64 (x := (acc l (pth l a)[i]).f1 + n) (by omega) (by omega), if_neg h2, w64s hil (by omega)]
    have := key (pth l a).length 0 (by omega) (fun j _ hj => absurd hj (Nat.not_lt_zero _))
    rw [List.drop_zero] at this
    exact this
  · rw [if_neg hr]
    exact Ev.some (fun k => if_neg hr)
def unc (l : List S43) (a n : Int) : List S43 × Int :=
  if req l a n = 0 then (if n > ownU l a.toNat then ([], 11) else (addAt l (pth l a.toNat) (-n), 0)) else ([], req l a n)
theorem prog_uncharge (l : List S43) (a n : Int) : Ev (fun k => accounts_Uncharge.f k l a n) (unc l a n) := by
  refine Ev.bindS (prog_req l a n) ?_
  unfold unc
  by_cases hr : req l a n = 0
  · rw [if_pos hr]
    refine Ev.congr (fun k => if_pos hr) ?_
    obtain ⟨h, hn⟩ := req_zero.1 hr
    obtain ⟨a, rfl, ha⟩ := h.nat
    refine Ev.bindS (prog_ownf l (a : Int)) ?_
    have ho : ownI l (a : Int) = ownU l a := by unfold ownI; rw [if_pos h, Int.toNat_natCast]
    rw [ho, Int.toNat_natCast]
    unfold inR at hn
    by_cases h2 : n > ownU l a
    · rw [if_pos h2]
      exact Ev.some (fun k => if_pos h2)
    · rw [if_neg h2]
      refine Ev.congr (fun k => if_neg h2) ?_
      rw [w64 (x := -n) (by omega) (by omega)]
      exact Ev.bindS (prog_add h (by omega) (by omega)) (Ev.now _)
  · rw [if_neg hr]
    exact Ev.some (fun k => if_neg hr)
/-- What a charge that succeeds says. -/
theorem chg_ok {l : List S43} {a n : Int} {g : List S43} {b : Int} (h : chg l a n = (g, b, 0)) : ∃ x : Nat, a = (x : Int) ∧ x < l.length ∧ Ok l ∧ inR n ∧ b = -1 ∧ g = addAt l (pth l x) n ∧ (∀ y ∈ pth l x, (acc l y).f1 + n ≤ (acc l y).f4) := by
  unfold chg at h
  by_cases hr : req l a n = 0
  · rw [if_pos hr] at h
    obtain ⟨hi, hn⟩ := req_zero.1 hr
    obtain ⟨x, rfl, hx⟩ := hi.nat
    rw [Int.toNat_natCast] at h
    cases hf : full l n (pth l x) with
    | some y => rw [hf] at h; simp at h
    | none =>
      rw [hf] at h
      simp only [Prod.mk.injEq] at h
      refine ⟨x, rfl, hx, chk_ok.1 hi.1, hn, h.2.1.symm, h.1.symm, fun y hy => ?_⟩
      have := List.find?_eq_none.1 hf y hy
      simp at this
      omega
  · rw [if_neg hr] at h
    simp only [Prod.mk.injEq] at h
    exact absurd h.2.2 hr
theorem chg_of {l : List S43} (ho : Ok l) {x : Nat} (hx : x < l.length) {n : Int} (hn : inR n) (hf : ∀ y ∈ pth l x, (acc l y).f1 + n ≤ (acc l y).f4) : chg l (x : Int) n = (addAt l (pth l x) n, -1, 0) := by
  have hi : isAt l (x : Int) := ⟨chk_ok.2 ho, by omega, by omega⟩
  unfold chg
  rw [if_pos (req_zero.2 ⟨hi, hn⟩), Int.toNat_natCast]
  have : full l n (pth l x) = none := List.find?_eq_none.2 fun y hy => by
    have := hf y hy
    simp
    omega
  rw [this]
/-- What an uncharge that succeeds says. -/
theorem unc_ok {l : List S43} {a n : Int} {g : List S43} (h : unc l a n = (g, 0)) : ∃ x : Nat, a = (x : Int) ∧ x < l.length ∧ Ok l ∧ inR n ∧ g = addAt l (pth l x) (-n) ∧ n ≤ ownU l x := by
  unfold unc at h
  by_cases hr : req l a n = 0
  · rw [if_pos hr] at h
    obtain ⟨hi, hn⟩ := req_zero.1 hr
    obtain ⟨x, rfl, hx⟩ := hi.nat
    rw [Int.toNat_natCast] at h
    by_cases h2 : n > ownU l x
    · rw [if_pos h2] at h
      simp at h
    · rw [if_neg h2] at h
      simp only [Prod.mk.injEq] at h
      exact ⟨x, rfl, hx, chk_ok.1 hi.1, hn, h.1.symm, by omega⟩
  · rw [if_neg hr] at h
    simp only [Prod.mk.injEq] at h
    exact absurd h.2 hr
theorem Ok.own_nonneg {l : List S43} (h : Ok l) {p : Nat} (hp : p < l.length) : 0 ≤ ownU l p := by
  have := h.own p hp
  unfold ownAt at this
  unfold ownU
  omega
/-- Each account's usage is at least its children's, so at least that of each account below. -/
theorem own_le_path {l : List S43} (h : Ok l) : ∀ a, a < l.length → ∀ x ∈ pth l a, ownU l a ≤ (acc l x).f1 := by
  have hk : ∀ c, c < l.length → c ≠ 0 → (acc l c).f1 ≤ (acc l (parOf l c)).f1 := by
    intro c hc h0
    have hp := h.par_lt hc h0
    have ho := h.own (parOf l c) (by omega)
    unfold ownAt kids at ho
    have hge : ∀ m, m ≤ l.length → c < m → (acc l c).f1 ≤ kidsTo l (parOf l c : Int) m := by
      intro m
      induction m with
      | zero => intro _ hm; exact absurd hm (Nat.not_lt_zero _)
      | succ m ih =>
        intro hm hcm
        have hb := kidsTo_bd h.amt (parOf l c : Int) m (by omega)
        have hi := (h.amt m (by omega)).1
        unfold inR at hi
        unfold kidsTo
        rcases Nat.lt_succ_iff_lt_or_eq.1 hcm with h2 | rfl
        · have := ih (by omega) h2
          split <;> omega
        · rw [if_pos ⟨by omega, hp.2⟩]
          omega
    have := hge l.length (Nat.le_refl _) hc
    omega
  have hu : ∀ a, a < l.length → ∀ x ∈ pth l a, (acc l a).f1 ≤ (acc l x).f1 := by
    intro a
    induction a using Nat.strongRecOn with
    | _ a ih =>
      intro ha x hx
      by_cases h0 : a = 0
      · subst h0
        rw [pth_zero h] at hx
        simp at hx
        subst hx
        exact Int.le_refl _
      · rw [pth_succ h ha h0] at hx
        have hp := h.par_lt ha h0
        rcases List.mem_cons.1 hx with rfl | hx
        · exact Int.le_refl _
        · exact Int.le_trans (hk a ha h0) (ih _ hp.1 (by omega) x hx)
  intro a ha x hx
  have h1 := hu a ha x hx
  have hb := kidsTo_bd h.amt (a : Int) l.length (Nat.le_refl _)
  unfold ownU kids
  omega
/-- A charge that succeeds leaves a valid list. -/
theorem Ok.charge {l : List S43} (h : Ok l) {a : Nat} (ha : a < l.length) {n : Int} (hn : 0 ≤ n) (hf : ∀ y ∈ pth l a, (acc l y).f1 + n ≤ (acc l y).f4) : Ok (addAt l (pth l a) n) := by
  refine h.add ha (fun x hx => ?_) hf ?_
  · have := (h.amt x (pth_lt h ha x hx)).1
    unfold inR at this
    omega
  · have := h.own_nonneg ha
    omega
theorem Ok.uncharge {l : List S43} (h : Ok l) {a : Nat} (ha : a < l.length) {n : Int} (hn : 0 ≤ n) (ho : n ≤ ownU l a) : Ok (addAt l (pth l a) (-n)) := by
  refine h.add ha (fun x hx => ?_) (fun x hx => ?_) (by omega)
  · have := own_le_path h a ha x hx
    omega
  · have := h.max x (pth_lt h ha x hx)
    unfold maxAt at this
    omega

-- PARTS: base acc1 acc2 acc3aw acc4 acc5 acc7
def sumTo (f : Nat → Int) : Nat → Int
  | 0 => 0
  | n + 1 => sumTo f n + f n
theorem sumTo_zero : ∀ n, sumTo (fun _ => 0) n = 0
  | 0 => rfl
  | n + 1 => by unfold sumTo; rw [sumTo_zero n]; rfl
theorem sumTo_add (f g : Nat → Int) : ∀ n, sumTo (fun p => f p + g p) n = sumTo f n + sumTo g n
  | 0 => rfl
  | n + 1 => by unfold sumTo; rw [sumTo_add f g n]; omega
theorem sumTo_sub (f g : Nat → Int) : ∀ n, sumTo (fun p => f p - g p) n = sumTo f n - sumTo g n
  | 0 => rfl
  | n + 1 => by unfold sumTo; rw [sumTo_sub f g n]; omega
theorem sumTo_one (v : Int) (x : Nat) : ∀ n, sumTo (fun p => if x = p then v else 0) n = if x < n then v else 0
  | 0 => rfl
  | n + 1 => by
    unfold sumTo
    rw [sumTo_one v x n]
    by_cases h : x < n
    · rw [if_pos h, if_neg (by omega), if_pos (by omega)]
      omega
    · by_cases h2 : x = n
      · rw [if_neg h, if_pos h2, if_pos (by omega)]
        omega
      · rw [if_neg h, if_neg h2, if_neg (by omega)]
        omega
theorem sumTo_kids {l : List S43} (ho : Ok l) : ∀ m, m ≤ l.length → sumTo (fun p => kidsTo l (p : Int) m) l.length = sumTo (fun c => if c ≥ 1 then (acc l c).f1 else 0) m
  | 0, _ => sumTo_zero _
  | m + 1, h => by
    have ih := sumTo_kids ho m (by omega)
    have e : (fun p : Nat => kidsTo l (p : Int) (m + 1)) = fun p : Nat => kidsTo l (p : Int) m + if m ≥ 1 ∧ (acc l m).f0 = (p : Int) then (acc l m).f1 else 0 := rfl
    rw [e, sumTo_add, ih]
    show _ = sumTo (fun c => if c ≥ 1 then (acc l c).f1 else 0) m + if m ≥ 1 then (acc l m).f1 else 0
    congr 1
    by_cases h1 : m ≥ 1
    · have hp := ho.par_lt (a := m) (by omega) (by omega)
      have e2 : (fun p : Nat => if m ≥ 1 ∧ (acc l m).f0 = (p : Int) then (acc l m).f1 else 0) = fun p => if parOf l m = p then (acc l m).f1 else 0 := by
        funext p
        by_cases hq : parOf l m = p
        · rw [if_pos hq, if_pos ⟨h1, by omega⟩]
        · rw [if_neg hq, if_neg (by omega)]
      rw [e2, sumTo_one, if_pos (by omega), if_pos h1]
    · have e2 : (fun p : Nat => if m ≥ 1 ∧ (acc l m).f0 = (p : Int) then (acc l m).f1 else 0) = fun _ => 0 := by
        funext p
        rw [if_neg (fun z => h1 z.1)]
      rw [e2, sumTo_zero, if_neg h1]
theorem sumTo_first (f : Nat → Int) : ∀ n, sumTo f n - sumTo (fun c => if c ≥ 1 then f c else 0) n = if n ≥ 1 then f 0 else 0
  | 0 => rfl
  | n + 1 => by
    have := sumTo_first f n
    unfold sumTo
    by_cases h : n ≥ 1
    · rw [if_pos h] at this ⊢
      rw [if_pos (by omega)]
      omega
    · obtain rfl : n = 0 := by omega
      simp [sumTo]
theorem own_sum {l : List S43} (ho : Ok l) : sumTo (ownU l) l.length = (acc l 0).f1 := by
  have e : ownU l = fun p : Nat => (acc l p).f1 - kidsTo l (p : Int) l.length := rfl
  rw [e, sumTo_sub, sumTo_kids ho l.length (Nat.le_refl _), sumTo_first, if_pos ho.pos]
theorem sumOwn_bd {l : List S43} (ho : Ok l) : ∀ n, n ≤ l.length → 0 ≤ sumTo (ownU l) n ∧ sumTo (ownU l) n ≤ 1048576 * n
  | 0, _ => ⟨Int.le_refl _, by simp [sumTo]⟩
  | n + 1, h => by
    have ih := sumOwn_bd ho n (by omega)
    have h1 := ho.own_nonneg (p := n) (by omega)
    have h2 := kidsTo_bd ho.amt (n : Int) l.length (Nat.le_refl _)
    have h3 := (ho.amt n (by omega)).1
    unfold inR at h3
    have h4 : ownU l n ≤ 1048576 := by unfold ownU kids; omega
    unfold sumTo
    omega
/-- A list that has its parents, bounds and length. -/
structure Like (g l : List S43) : Prop where
  len : g.length = l.length
  same : ∀ i, i < l.length → (acc g i).f0 = (acc l i).f0 ∧ (acc g i).f2 = (acc l i).f2 ∧ (acc g i).f3 = (acc l i).f3 ∧ (acc g i).f4 = (acc l i).f4
theorem Like.addAt (l : List S43) (X : List Nat) (n : Int) : Like (addAt l X n) l := ⟨addAt_len l X n, fun _ hi => addAt_acc_same l X n hi⟩
theorem limits_l2 {l g : List S43} (hg : Ok g) (hs : Like g l) (q : List S52) (x35 x36 s : Int) {i : Nat} (hi : i < g.length)
    (hk : Ev (fun k => estoverslaw19_AccountsLimits.l1 k l g (wrap64 (s + ownU g i)) q x35 x36 g (g.length : Int) ((i + 1 : Nat) : Int)) true) :
    ∀ d j, j + d = g.length → Ev (fun k => estoverslaw19_AccountsLimits.l2 k l g s (i : Int) ((acc g i).f1 - kidsTo g (i : Int) j) q x35 x36 g (g.length : Int) (i : Int) g (g.length : Int) (j : Int) (acc g i).f0 (acc g i).f1 (acc g i).f2 (acc g i).f3 (acc g i).f4) true := by
  have hfew := hg.few
  have h1 := (hg.amt i hi).1
  unfold inR at h1
  intro d
  induction d with
  | zero =>
    intro j hj
    obtain rfl : j = g.length := by omega
    have hm := hg.max i hi
    have hn := hg.own_nonneg hi
    unfold maxAt at hm
    have hat : isAt g (i : Int) := ⟨chk_ok.2 hg, by omega, by omega⟩
    have hsm := hs.same i (by have := hs.len; omega)
    have hlen := hs.len
    have ho : ownI g (i : Int) = ownU g i := by unfold ownI; rw [if_pos hat, Int.toNat_natCast]
    have e : (acc g i).f1 - kidsTo g (i : Int) g.length = ownU g i := rfl
    rw [e]
    refine Ev.stepS (fun k => by simp only [estoverslaw19_AccountsLimits.l2]; rw [if_neg (by omega), if_neg (by omega), if_neg (by omega)]) ?_
    refine Ev.bindS (prog_ownf g (i : Int)) ?_
    rw [ho]
    refine Ev.congr (fun k => if_pos rfl) ?_
    refine Ev.congr (fun k => if_pos (show 0 ≤ (i : Int) by omega)) ?_
    refine Ev.congr (fun k => if_pos (show (i : Int) < (l.length : Int) by omega)) ?_
    refine Ev.congr (fun k => if_pos (show (acc g i).f2 = (rd_T43 l (i : Int)).f2 from hsm.2.1)) ?_
    refine Ev.congr (fun k => if_pos (show (acc g i).f3 = (rd_T43 l (i : Int)).f3 from hsm.2.2.1)) ?_
    refine Ev.congr (fun k => if_pos (show (acc g i).f4 = (rd_T43 l (i : Int)).f4 from hsm.2.2.2)) ?_
    refine Ev.congr (fun k => if_pos (show (acc g i).f0 = (rd_T43 l (i : Int)).f0 from hsm.1)) ?_
    rw [w64s (n := g.length) hi (by omega)]
    exact hk
  | succ d ih =>
    intro j hj
    have hjl : j < g.length := by omega
    have hb := kidsTo_bd hg.amt (i : Int) j (by omega)
    have hb2 := kidsTo_bd hg.amt (i : Int) (j + 1) (by omega)
    have h2 := (hg.amt j hjl).1
    unfold inR at h2
    refine Ev.step (fun k => ?_) (ih (j + 1) (by omega))
    simp only [estoverslaw19_AccountsLimits.l2]
    rw [if_pos (by omega), if_pos (by omega), if_pos (by omega), w64s (n := g.length) hjl (by omega), rd_acc]
    show _ = estoverslaw19_AccountsLimits.l2 _ _ _ _ _ ((acc g i).f1 - (kidsTo g (i : Int) j + if j ≥ 1 ∧ (acc g j).f0 = (i : Int) then (acc g j).f1 else 0)) _ _ _ _ _ _ _ _ _ _ _ _ _ _
    by_cases c1 : j ≥ 1
    · rw [if_pos (show (j : Int) > 0 by omega)]
      by_cases c2 : (acc g j).f0 = (i : Int)
      · rw [if_pos c2, if_pos ⟨c1, c2⟩, w64 (x := (acc g i).f1 - kidsTo g (i : Int) j - (acc g j).f1) (by omega) (by omega)]
        congr 1
        omega
      · rw [if_neg c2, if_neg (fun z => c2 z.2)]
        congr 1
        omega
    · rw [if_neg (show ¬ (j : Int) > 0 by omega), if_neg (fun z => c1 z.1)]
      congr 1
      omega
theorem limits_tot {g : List S43} (hg : Ok g) : Ev (fun k => accounts_Total.f k g) (acc g 0).f1 := by
  refine Ev.bindS (prog_check g) ?_
  have h0 := hg.pos
  refine Ev.congr (fun k => if_pos (chk_ok.2 hg)) ?_
  exact Ev.some (fun k => by rw [if_pos (by omega)]; rfl)
theorem limits_l1 {l g : List S43} (hg : Ok g) (hs : Like g l) (q : List S52) (x35 x36 : Int)
    (hk : Ev (fun k => estoverslaw19_AccountsLimits.l0 k g q x35 (wrap64 (x36 + 1))) true) :
    ∀ d i, i + d = g.length → Ev (fun k => estoverslaw19_AccountsLimits.l1 k l g (sumTo (ownU g) i) q x35 x36 g (g.length : Int) (i : Int)) true := by
  have hfew := hg.few
  intro d
  induction d with
  | zero =>
    intro i hi
    obtain rfl : i = g.length := by omega
    refine Ev.stepS (fun k => by simp only [estoverslaw19_AccountsLimits.l1]; rw [if_neg (by omega)]) ?_
    refine Ev.bindS (limits_tot hg) ?_
    refine Ev.congr (fun k => if_pos (own_sum hg)) ?_
    exact hk
  | succ d ih =>
    intro i hi
    have hil : i < g.length := by omega
    have hb := sumOwn_bd hg (i + 1) (by omega)
    have e : sumTo (ownU g) (i + 1) = sumTo (ownU g) i + ownU g i := rfl
    have hn := ih (i + 1) (by omega)
    rw [e] at hn
    refine Ev.stepS (fun k => by simp only [estoverslaw19_AccountsLimits.l1]; rw [if_pos (by omega), if_pos (by omega), if_pos (by omega)]) ?_
    have := limits_l2 hg hs q x35 x36 (sumTo (ownU g) i) hil (by rw [w64 (x := sumTo (ownU g) i + ownU g i) (by omega) (by omega)]; exact hn) g.length 0 (by omega)
    have e0 : (acc g i).f1 - kidsTo g (i : Int) 0 = (acc g i).f1 := by simp [kidsTo]
    rw [e0] at this
    exact this
theorem limits_l0 (q : List S52) (hq : q.length ≤ 1000) : ∀ d i (l : List S43), Ok l → i + d = q.length → Ev (fun k => estoverslaw19_AccountsLimits.l0 k l q (q.length : Int) (i : Int)) true := by
  intro d
  induction d with
  | zero =>
    intro i l _ hi
    refine Ev.step (f := fun _ => some true) (fun k => ?_) (Ev.now _)
    simp only [estoverslaw19_AccountsLimits.l0]
    rw [if_neg (by omega)]
  | succ d ih =>
    intro i l ho hi
    have hil : i < q.length := by omega
    have hgo : ∀ (g : List S43) (e : Int), (e = 0 → Ok g ∧ Like g l) → Ev (fun k => estoverslaw19_AccountsLimits.j2 k l g e q (q.length : Int) (i : Int)) true := by
      intro g e hge
      by_cases he : e = 0
      · obtain ⟨hg, hs⟩ := hge he
        subst he
        refine Ev.stepS (f := fun k => (accounts_Check.f k g).bind fun t249 => (estoverslaw19_AccountsLimits.j3 k l g q (q.length : Int) (i : Int) (t249 != 0))) (fun k => ?_) ?_
        · simp only [estoverslaw19_AccountsLimits.j2, if_true]
          rw [if_pos (by rw [hs.len])]
        refine Ev.bindS (prog_check g) ?_
        rw [chk_ok.2 hg]
        refine Ev.stepS (fun k => by simp only [estoverslaw19_AccountsLimits.j3]; rw [if_neg (by decide)]) ?_
        have := limits_l1 hg hs q (q.length : Int) (i : Int) (by rw [w64s hil (by omega)]; exact ih (i + 1) g hg (by omega)) g.length 0 (by omega)
        exact this
      · refine Ev.step (fun k => ?_) (ih (i + 1) l ho (by omega))
        simp only [estoverslaw19_AccountsLimits.j2]
        rw [if_neg he, w64s hil (by omega)]
    refine Ev.stepS (fun k => by simp only [estoverslaw19_AccountsLimits.l0]; rw [if_pos (by omega), if_pos (by omega), if_pos (by omega)]) ?_
    refine Ev.bindS (prog_charge l _ _) ?_
    by_cases ht : (rd_T52 q (i : Int)).f0 = true
    · refine Ev.congr (fun k => if_pos ht) ?_
      refine Ev.bindS (prog_uncharge l _ _) ?_
      refine hgo _ _ fun h => ?_
      obtain ⟨x, hx, hxl, _, hn, he, hle⟩ := unc_ok (g := (unc l (rd_T52 q (i : Int)).f1 (rd_T52 q (i : Int)).f2).1) (Prod.ext rfl h)
      rw [he]
      exact ⟨ho.uncharge hxl hn.1 hle, Like.addAt _ _ _⟩
    · refine Ev.congr (fun k => if_neg ht) ?_
      refine hgo _ _ fun h => ?_
      obtain ⟨x, hx, hxl, _, hn, _, he, hle⟩ := chg_ok (g := (chg l (rd_T52 q (i : Int)).f1 (rd_T52 q (i : Int)).f2).1) (b := (chg l (rd_T52 q (i : Int)).f1 (rd_T52 q (i : Int)).f2).2.1) (Prod.ext rfl (Prod.ext rfl h))
      rw [he]
      exact ⟨ho.charge hxl hn.1 hle, Like.addAt _ _ _⟩
theorem limits_aw (l : List S43) (q : List S52) : Ev (fun k => estoverslaw19_AccountsLimits.j0 k l q true) true := by
  refine Ev.step (f := fun k => (estoverslaw19_awake.f k).bind fun t => some t) (fun k => by simp [estoverslaw19_AccountsLimits.j0]) ?_
  exact Ev.bindS aw19 (Ev.now _)
theorem AccountsLimits : estoverslaw19_AccountsLimits.Pure := by
  intro l q _ _
  refine Ev.rounds ?_
  refine Ev.bindS aw19 ?_
  refine Ev.congr (fun k => if_pos rfl) ?_
  rw [few19]
  by_cases hl : l.length ≤ 20
  · rw [decide_eq_true hl]
    refine Ev.bindS (g := fun _ => Option.some true) (Ev.now _) ?_
    refine Ev.congr (fun k => if_pos rfl) ?_
    by_cases hq : (q.length : Int) > 40
    · exact Ev.congr (fun k => if_pos hq) (limits_aw l q)
    · refine Ev.congr (fun k => if_neg hq) ?_
      refine Ev.bindS (prog_check l) ?_
      by_cases hc : chk l = 0
      · rw [hc]
        refine Ev.stepS (fun k => by simp only [estoverslaw19_AccountsLimits.j0]; rw [if_neg (by decide)]) ?_
        exact limits_l0 q (by omega) q.length 0 l (chk_ok.1 hc) (by omega)
      · have hne : (chk l != 0) = true := by simp [hc]
        rw [hne]
        exact limits_aw l q
  · rw [decide_eq_false hl]
    exact Ev.congr (fun k => rfl) (limits_aw l q)

end Go.Proofs.Ytpomppjeknmciaa.Pure
