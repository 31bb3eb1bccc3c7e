/- Plain laws of the queue of estoverstop: what an operation does to it keeps what its right asks, and giving back and serving again empties the queue. -/
import Derived.Test.YtimlodcdfekbhaaPTopGrantsEndx
namespace Go.Proofs.Ytimlodcdfekbhaa.Pure
open Go.RowKit Go.Proofs.Ytimlodcdfekbhaa.PTopGrantsEnd Go.Proofs.YtimlodcdfekbhaaW.PrintWords Go.Proofs.YtimlodcdfekbhaaW.PrintLast Go.Proofs.YtimlodcdfekbhaaW.PrintMore

theorem Ev.bindS {α β : Type} {g : Nat → Option α} {f : Nat → α → Option β} {a : α} {r : β} (h : Ev g a) (k : Ev (fun n => f n a) r) : Ev (fun n => (g n).bind fun x => f n x) r := Ev.bind h k
theorem Ev.some {α : Type} {g : Nat → Option α} {r : α} (h : ∀ k, g k = Option.some r) : Ev g r := Ev.congr h (Ev.now r)
theorem w64 {x : Int} (h0 : -9223372036854775808 ≤ x) (h1 : x ≤ 9223372036854775807) : wrap64 x = x := by
  unfold wrap64
  omega
theorem w64s {i n : Nat} (h : i < n) (hn : n ≤ 1000000) : wrap64 ((i : Int) + 1) = ((i + 1 : Nat) : Int) := by
  unfold wrap64
  omega
/-! ### Accounts: what Check computes, told without the program -/

/-- One round, at a number of rounds that is not zero. -/
theorem Ev.stepS {α : Type} {g f : Nat → Option α} {r : α} (h : ∀ k, g (k + 1) = f k) (k : Ev f r) : Ev g r := Ev.step h k
/-- A loop that looks at one place after the other and ends at the first that is wrong. -/
theorem Ev.scan {β : Type} (g : Nat → Int → Option β) (n : Nat) (P : Nat → Prop) [DecidablePred P] (bad r : β)
    (hgo : ∀ i, i < n → P i → ∀ q, Ev (fun k => g k ((i + 1 : Nat) : Int)) q → Ev (fun k => g k (i : Int)) q)
    (hbad : ∀ i, i < n → ¬ P i → Ev (fun k => g k (i : Int)) bad)
    (hend : (∀ i, i < n → P i) → Ev (fun k => g k (n : Int)) r) :
    Ev (fun k => g k 0) (if ∀ i, i < n → P i then r else bad) := by
  have key : ∀ d i, i + d = n → (∀ j, j < i → P j) → Ev (fun k => g k (i : Int)) (if ∀ i, i < n → P i then r else bad) := by
    intro d
    induction d with
    | zero =>
      intro i hi hp
      obtain rfl : i = n := by omega
      rw [if_pos hp]
      exact hend hp
    | succ d ih =>
      intro i hi hp
      by_cases h : P i
      · refine hgo i (by omega) h _ (ih (i + 1) (by omega) ?_)
        intro j hj
        rcases Nat.lt_succ_iff_lt_or_eq.1 hj with h1 | rfl
        · exact hp j h1
        · exact h
      · rw [if_neg (fun h2 => h (h2 i (by omega)))]
        exact hbad i (by omega) h
  exact key n 0 (by omega) (fun j hj => absurd hj (Nat.not_lt_zero _))



/-- The account at a place. -/
def acc (l : List S59) (i : Nat) : S59 := l.getD i z59
theorem rd_acc (l : List S59) (i : Nat) : rd_T59 l (i : Int) = acc l i := rfl
def inR (x : Int) : Prop := 0 ≤ x ∧ x ≤ 1048576
instance (x : Int) : Decidable (inR x) := by unfold inR; infer_instance
def treeAt (l : List S59) (i : Nat) : Prop := if i = 0 then (acc l i).f0 = -1 else 0 ≤ (acc l i).f0 ∧ (acc l i).f0 < i
instance (l : List S59) (i : Nat) : Decidable (treeAt l i) := by unfold treeAt; infer_instance
def amtAt (l : List S59) (i : Nat) : Prop := inR (acc l i).f1 ∧ inR (acc l i).f2 ∧ inR (acc l i).f3 ∧ inR (acc l i).f4
instance (l : List S59) (i : Nat) : Decidable (amtAt l i) := by unfold amtAt; infer_instance
/-- The sum of f over the places j of 1 .. n - 1 whose Parent is i. -/
def kidsTo (l : List S59) (i : Int) : Nat → Int
  | 0 => 0
  | n + 1 => kidsTo l i n + if n ≥ 1 ∧ (acc l n).f0 = i then (acc l n).f1 else 0
def kids (l : List S59) (i : Int) : Int := kidsTo l i l.length
def rootOk (l : List S59) : Prop := (acc l 0).f2 = 0 ∧ (acc l 0).f3 = 0
instance (l : List S59) : Decidable (rootOk l) := by unfold rootOk; infer_instance
def maxAt (l : List S59) (i : Nat) : Prop := (acc l i).f1 ≤ (acc l i).f4
instance (l : List S59) (i : Nat) : Decidable (maxAt l i) := by unfold maxAt; infer_instance
def ownAt (l : List S59) (i : Nat) : Prop := kids l i ≤ (acc l i).f1
instance (l : List S59) (i : Nat) : Decidable (ownAt l i) := by unfold ownAt; infer_instance
/-- The error of a list of accounts. -/
def chk (l : List S59) : Int :=
  if l.length < 1 ∨ l.length > 8 then 9
  else if ∀ i, i < l.length → treeAt l i then
    if ∀ i, i < l.length → amtAt l i then
      if rootOk l then
        if ∀ i, i < l.length → maxAt l i then
          if ∀ i, i < l.length → ownAt l i then 0 else 11
        else 17
      else 2
    else 2
  else 1
/-- The list is valid. -/
structure Ok (l : List S59) : Prop where
  pos : 1 ≤ l.length
  few : l.length ≤ 8
  tree : ∀ i, i < l.length → treeAt l i
  amt : ∀ i, i < l.length → amtAt l i
  root : rootOk l
  max : ∀ i, i < l.length → maxAt l i
  own : ∀ i, i < l.length → ownAt l i
theorem chk_ok {l : List S59} : chk l = 0 ↔ Ok l := by
  unfold chk
  constructor
  · intro h
    split at h
    · exact absurd h (by decide)
    split at h
    · split at h
      · split at h
        · split at h
          · split at h
            · exact ⟨by omega, by omega, ‹_›, ‹_›, ‹_›, ‹_›, ‹_›⟩
            · exact absurd h (by decide)
          · exact absurd h (by decide)
        · exact absurd h (by decide)
      · exact absurd h (by decide)
    · exact absurd h (by decide)
  · intro h
    have := h.pos
    have := h.few
    rw [if_neg (by omega), if_pos h.tree, if_pos h.amt, if_pos h.root, if_pos h.max, if_pos h.own]
theorem Ok.par0 {l : List S59} (h : Ok l) : (acc l 0).f0 = -1 := by
  have := h.tree 0 h.pos
  simpa [treeAt] using this
theorem Ok.par {l : List S59} (h : Ok l) {i : Nat} (hi : i < l.length) (h0 : i ≠ 0) : 0 ≤ (acc l i).f0 ∧ (acc l i).f0 < i := by
  have := h.tree i hi
  simpa [treeAt, h0] using this

/-! the sums -/
theorem kidsTo_bd {l : List S59} (ha : ∀ i, i < l.length → amtAt l i) (p : Int) : ∀ n, n ≤ l.length → 0 ≤ kidsTo l p n ∧ kidsTo l p n ≤ 1048576 * n
  | 0, _ => ⟨Int.le_refl _, by simp [kidsTo]⟩
  | n + 1, h => by
    have ih := kidsTo_bd ha p n (by omega)
    have hn := (ha n (by omega)).1
    unfold inR at hn
    unfold kidsTo
    split <;> omega

/-! ### The program's Check -/
theorem prog_tree (l : List S59) (hn : l.length ≤ 8) : Ev (fun k => accounts_tree.f k l) (decide (∀ i, i < l.length → treeAt l i)) := by
  have h := Ev.scan (fun k i => accounts_tree.l0 k l (l.length : Int) i) l.length (treeAt l) false true ?_ ?_ ?_
  · refine Ev.congr (fun k => rfl) (f := fun k => accounts_tree.l0 k l (l.length : Int) 0) ?_
    by_cases c : ∀ i, i < l.length → treeAt l i
    · rw [if_pos c] at h; rw [decide_eq_true c]; exact h
    · rw [if_neg c] at h; rw [decide_eq_false c]; exact h
  · intro i hi hp q hq
    refine Ev.step (fun k => ?_) hq
    show accounts_tree.l0 (k + 1) l (l.length : Int) (i : Int) = _
    simp only [accounts_tree.l0]
    rw [if_pos (by omega), if_pos (by omega), if_pos (by omega), rd_acc, w64s hi (by omega)]
    unfold treeAt at hp
    by_cases h0 : i = 0
    · subst h0
      rw [if_pos rfl] at hp
      rw [if_pos (by omega), if_pos hp, if_neg (by omega)]
    · rw [if_neg h0] at hp
      rw [if_neg (by omega), if_pos (by omega), if_neg (by omega), if_neg (by omega)]
  · intro i hi hp
    refine Ev.step (f := fun _ => some false) (fun k => ?_) (Ev.now _)
    show accounts_tree.l0 (k + 1) l (l.length : Int) (i : Int) = _
    simp only [accounts_tree.l0]
    rw [if_pos (by omega), if_pos (by omega), if_pos (by omega), rd_acc]
    unfold treeAt at hp
    by_cases h0 : i = 0
    · subst h0
      rw [if_pos rfl] at hp
      rw [if_pos (by omega), if_neg hp]
    · rw [if_neg h0] at hp
      rw [if_neg (by omega), if_pos (by omega)]
      by_cases h1 : (acc l i).f0 < 0
      · rw [if_pos h1]
      · rw [if_neg h1, if_pos (by omega)]
  · intro _
    refine Ev.step (f := fun _ => some true) (fun k => ?_) (Ev.now _)
    show accounts_tree.l0 (k + 1) l (l.length : Int) (l.length : Int) = _
    simp only [accounts_tree.l0]
    rw [if_neg (by omega)]
theorem prog_in (x : Int) : accounts_in.f x = some (decide (inR x)) := by
  unfold accounts_in.f inR
  by_cases h : x ≥ 0
  · rw [if_pos h]
    simp [h]
  · rw [if_neg h]
    simp [h]
theorem prog_amounts (l : List S59) (h1 : 1 ≤ l.length) (hn : l.length ≤ 8) : Ev (fun k => accounts_amounts.f k l) (decide ((∀ i, i < l.length → amtAt l i) ∧ rootOk l)) := by
  have h := Ev.scan (fun k i => accounts_amounts.l0 k l l (l.length : Int) i) l.length (amtAt l) false (decide (rootOk l)) ?_ ?_ ?_
  · refine Ev.congr (fun k => rfl) (f := fun k => accounts_amounts.l0 k l l (l.length : Int) 0) ?_
    by_cases c : ∀ i, i < l.length → amtAt l i
    · rw [if_pos c] at h
      rw [show decide ((∀ i, i < l.length → amtAt l i) ∧ rootOk l) = decide (rootOk l) by simp [eq_true c]]; exact h
    · rw [if_neg c] at h; rw [decide_eq_false (fun z => c z.1)]; exact h
  · intro i hi hp q hq
    refine Ev.step (fun k => ?_) hq
    show accounts_amounts.l0 (k + 1) l l (l.length : Int) (i : Int) = _
    simp only [accounts_amounts.l0, prog_in]
    rw [if_pos (by omega), if_pos (by omega), if_pos (by omega), rd_acc, w64s hi (by omega)]
    obtain ⟨a, b, c, d⟩ := hp
    simp only [decide_eq_true a, decide_eq_true b, decide_eq_true c, decide_eq_true d, Option.bind_some, if_true]
  · intro i hi hp
    refine Ev.step (f := fun _ => some false) (fun k => ?_) (Ev.now _)
    show accounts_amounts.l0 (k + 1) l l (l.length : Int) (i : Int) = _
    simp only [accounts_amounts.l0, prog_in]
    rw [if_pos (by omega), if_pos (by omega), if_pos (by omega), rd_acc]
    unfold amtAt at hp
    by_cases a : inR (acc l i).f1
    · by_cases b : inR (acc l i).f2
      · by_cases c : inR (acc l i).f3
        · by_cases d : inR (acc l i).f4
          · exact absurd ⟨a, b, c, d⟩ hp
          · simp [a, b, c, d]
        · simp [a, b, c]
      · simp [a, b]
    · simp [a]
  · intro _
    refine Ev.step (f := fun _ => some (decide (rootOk l))) (fun k => ?_) (Ev.now _)
    show accounts_amounts.l0 (k + 1) l l (l.length : Int) (l.length : Int) = _
    simp only [accounts_amounts.l0]
    rw [if_neg (by omega), if_pos (by omega), show rd_T59 l 0 = acc l 0 from rfl]
    unfold rootOk
    by_cases c : (acc l 0).f2 = 0
    · rw [if_pos c]
      by_cases d : (acc l 0).f3 = 0
      · simp [c, d]
      · simp [c, d]
    · rw [if_neg c]
      simp [c]
/-- 'Some Usage is above its Max'. -/
theorem prog_index (l : List S59) (hn : l.length ≤ 8) : ∃ r : Int, Ev (fun k => api_Account_69.f k l) r ∧ (0 ≤ r ↔ ¬ ∀ i, i < l.length → maxAt l i) := by
  have key : ∀ d i, i + d = l.length → (∀ j, j < i → maxAt l j) → ∃ r : Int, Ev (fun k => api_Account_69.l0 k l (l.length : Int) (i : Int)) r ∧ (0 ≤ r ↔ ¬ ∀ i, i < l.length → maxAt l i) := by
    intro d
    induction d with
    | zero =>
      intro i hi hp
      obtain rfl : i = l.length := by omega
      refine ⟨-1, Ev.step (f := fun _ => some (-1)) (fun k => ?_) (Ev.now _), ?_⟩
      · simp only [api_Account_69.l0]
        rw [if_neg (by omega)]
      · constructor
        · intro h; omega
        · intro h; exact absurd hp h
    | succ d ih =>
      intro i hi hp
      by_cases h : maxAt l i
      · obtain ⟨r, hr, hq⟩ := ih (i + 1) (by omega) (fun j hj => by
          rcases Nat.lt_succ_iff_lt_or_eq.1 hj with h1 | rfl
          · exact hp j h1
          · exact h)
        refine ⟨r, Ev.step (fun k => ?_) hr, hq⟩
        simp only [api_Account_69.l0, accounts_Check_1.f]
        unfold maxAt at h
        rw [if_pos (by omega), if_pos (by omega), if_pos (by omega), rd_acc, w64s (n := l.length) (by omega) (by omega)]
        rw [decide_eq_false (show ¬ ((acc l i).f1 > (acc l i).f4) by omega)]
        simp
      · refine ⟨i, Ev.step (f := fun _ => some (i : Int)) (fun k => ?_) (Ev.now _), ?_⟩
        · simp only [api_Account_69.l0, accounts_Check_1.f]
          unfold maxAt at h
          rw [if_pos (by omega), if_pos (by omega), if_pos (by omega), rd_acc]
          rw [decide_eq_true (show ((acc l i).f1 > (acc l i).f4) by omega)]
          simp
        · constructor
          · intro _ h2; exact h (h2 i (by omega))
          · intro _; omega
  exact key l.length 0 (by omega) (fun j hj => absurd hj (Nat.not_lt_zero _))
theorem prog_contains (l : List S59) (hn : l.length ≤ 8) : Ev (fun k => api_Account_50.f k l) (!decide (∀ i, i < l.length → maxAt l i)) := by
  obtain ⟨r, hr, hq⟩ := prog_index l hn
  refine Ev.congr (fun k => rfl) (f := fun k => (api_Account_69.f k l).bind fun t => some (decide (t ≥ 0))) ?_
  refine Ev.bindS hr ?_
  by_cases c : ∀ i, i < l.length → maxAt l i
  · rw [decide_eq_true c]
    have : ¬ (r ≥ 0) := fun h => (hq.1 h) c
    rw [show (fun _ : Nat => some (decide (r ≥ 0))) = fun _ => some false by rw [decide_eq_false this]]
    exact Ev.now _
  · rw [decide_eq_false c]
    have : r ≥ 0 := hq.2 c
    rw [show (fun _ : Nat => some (decide (r ≥ 0))) = fun _ => some true by rw [decide_eq_true this]]
    exact Ev.now _
/-- What own's loop holds after i accounts. -/
def ownTo (l : List S59) (i : Nat) : List Int := (List.range l.length).map fun p => (if p < i then (acc l p).f1 else 0) - kidsTo l (p : Int) i
theorem ownTo_len (l : List S59) (i : Nat) : (ownTo l i).length = l.length := by simp [ownTo]
theorem ownTo_get (l : List S59) (i : Nat) {p : Nat} (hp : p < l.length) : (ownTo l i).getD p 0 = (if p < i then (acc l p).f1 else 0) - kidsTo l (p : Int) i := by
  unfold ownTo
  simp [List.getD, hp]
theorem ownTo_zero (l : List S59) : ownTo l 0 = List.replicate l.length 0 := by
  unfold ownTo
  apply List.ext_getElem?
  intro i
  by_cases hi : i < l.length <;> simp [hi, kidsTo]
theorem ownTo_step0 {l : List S59} (hl : 0 < l.length) : (ownTo l 0).set 0 (acc l 0).f1 = ownTo l 1 := by
  apply List.ext_getElem?
  intro p
  by_cases hp : p < l.length
  · by_cases h0 : p = 0
    · subst h0
      simp [ownTo, hl, kidsTo]
    · rw [List.getElem?_set_ne (by omega)]
      simp [ownTo, hp, kidsTo, h0]
  · simp [ownTo, hp]
theorem ownTo_step {l : List S59} {i q : Nat} (hi : i < l.length) (h0 : i ≠ 0) (hq : (acc l i).f0 = (q : Int)) (hqi : q < i) :
    ((ownTo l i).set i ((ownTo l i).getD i 0 + (acc l i).f1)).set q (((ownTo l i).set i ((ownTo l i).getD i 0 + (acc l i).f1)).getD q 0 - (acc l i).f1) = ownTo l (i + 1) := by
  rw [ownTo_get l i hi, if_neg (by omega)]
  have hg : ((ownTo l i).set i (0 - kidsTo l (i : Int) i + (acc l i).f1)).getD q 0 = (acc l q).f1 - kidsTo l (q : Int) i := by
    rw [List.getD_eq_getElem?_getD, List.getElem?_set_ne (by omega), ← List.getD_eq_getElem?_getD, ownTo_get l i (by omega), if_pos hqi]
  rw [hg]
  apply List.ext_getElem?
  intro p
  by_cases hp : p < l.length
  · by_cases h1 : p = q
    · subst h1
      rw [List.getElem?_set_self (by simp [ownTo_len]; omega)]
      simp only [ownTo, List.getElem?_map, List.getElem?_range hp, Option.map_some, kidsTo]
      rw [if_pos (by omega), if_pos ⟨by omega, hq⟩]
      congr 1
      omega
    · rw [List.getElem?_set_ne (by omega)]
      by_cases h2 : p = i
      · subst h2
        rw [List.getElem?_set_self (by simp [ownTo_len]; omega)]
        simp only [ownTo, List.getElem?_map, List.getElem?_range hp, Option.map_some, kidsTo]
        rw [if_pos (by omega), if_neg (by omega)]
        congr 1
        omega
      · rw [List.getElem?_set_ne (by omega)]
        simp only [ownTo, List.getElem?_map, List.getElem?_range hp, Option.map_some, kidsTo]
        rw [if_neg (show ¬ (i ≥ 1 ∧ (acc l i).f0 = (p : Int)) by omega)]
        congr 1
        by_cases h3 : p < i
        · rw [if_pos h3, if_pos (by omega)]; omega
        · rw [if_neg h3, if_neg (by omega)]; omega
  · simp [ownTo, hp]
theorem prog_own (l : List S59) (hn : l.length ≤ 8) (ht : ∀ i, i < l.length → treeAt l i) (ha : ∀ i, i < l.length → amtAt l i) :
    Ev (fun k => accounts_own.f k l) (ownTo l l.length) := by
  have key : ∀ d i, i + d = l.length → Ev (fun k => accounts_own.l0 k (ownTo l i) l (l.length : Int) (i : Int)) (ownTo l l.length) := by
    intro d
    induction d with
    | zero =>
      intro i hi
      obtain rfl : i = l.length := by omega
      refine Ev.step (f := fun _ => some _) (fun k => ?_) (Ev.now _)
      simp only [accounts_own.l0]
      rw [if_neg (by omega)]
    | succ d ih =>
      intro i hi
      have hil : i < l.length := by omega
      have hai := (ha i hil).1
      unfold inR at hai
      have hbd := kidsTo_bd ha (i : Int) i (by omega)
      refine Ev.step (fun k => ?_) (ih (i + 1) (by omega))
      simp only [accounts_own.l0]
      rw [if_pos (by omega), if_pos (by omega), if_pos (by omega), if_pos (by rw [ownTo_len]; omega), rd_acc, w64s (n := l.length) (by omega) (by omega)]
      have hrd : rd (ownTo l i) (i : Int) = (ownTo l i).getD i 0 := rfl
      have hv : (ownTo l i).getD i 0 = 0 - kidsTo l (i : Int) i := by rw [ownTo_get l i hil, if_neg (by omega)]
      rw [hrd, w64 (by omega) (by omega)]
      simp only [Option.bind_some, Int.toNat_natCast]
      have hti := ht i hil
      unfold treeAt at hti
      by_cases h0 : i = 0
      · subst h0
        rw [if_neg (by omega)]
        rw [hv]
        have e : (0 : Int) - kidsTo l ((0 : Nat) : Int) 0 + (acc l 0).f1 = (acc l 0).f1 := by simp [kidsTo]
        rw [e, ownTo_step0 (by omega)]
      · rw [if_neg h0] at hti
        obtain ⟨q, hq⟩ : ∃ q : Nat, (acc l i).f0 = (q : Int) := ⟨(acc l i).f0.toNat, by omega⟩
        rw [hq] at hti
        rw [if_pos (by omega), hq, if_pos (by omega), if_pos (by simp [ownTo_len]; omega)]
        have haq := (ha q (by omega)).1
        unfold inR at haq
        have hbq := kidsTo_bd ha (q : Int) i (by omega)
        have hrq : rd ((ownTo l i).set i ((ownTo l i).getD i 0 + (acc l i).f1)) (q : Int) = ((ownTo l i).set i ((ownTo l i).getD i 0 + (acc l i).f1)).getD q 0 := rfl
        have hgq : ((ownTo l i).set i ((ownTo l i).getD i 0 + (acc l i).f1)).getD q 0 = (acc l q).f1 - kidsTo l (q : Int) i := by
          rw [List.getD_eq_getElem?_getD, List.getElem?_set_ne (by omega), ← List.getD_eq_getElem?_getD, ownTo_get l i (by omega), if_pos (by omega)]
        rw [hrq, w64 (by omega) (by omega), Int.toNat_natCast, ownTo_step hil h0 hq (by omega)]
  refine Ev.congr (f := fun k => accounts_own.l0 k (ownTo l 0) l (l.length : Int) 0) (fun k => ?_) (key l.length 0 (by omega))
  unfold accounts_own.f
  rw [if_pos (by omega), if_pos (by omega), Int.toNat_natCast, ownTo_zero]
theorem prog_min (xs : List Int) (h1 : 1 ≤ xs.length) (hn : xs.length ≤ 8) : ∃ m : Int, Ev (fun k => slices_Min_int_int.f k xs) m ∧ (0 ≤ m ↔ ∀ i, i < xs.length → 0 ≤ xs.getD i 0) := by
  have key : ∀ d i m, i + d = xs.length → (0 ≤ m ↔ ∀ j, j < i → 0 ≤ xs.getD j 0) → ∃ r : Int, Ev (fun k => slices_Min_int_int.l0 k xs m (i : Int)) r ∧ (0 ≤ r ↔ ∀ i, i < xs.length → 0 ≤ xs.getD i 0) := by
    intro d
    induction d with
    | zero =>
      intro i m hi hp
      obtain rfl : i = xs.length := by omega
      refine ⟨m, Ev.step (f := fun _ => some m) (fun k => ?_) (Ev.now _), hp⟩
      simp only [slices_Min_int_int.l0]
      rw [if_neg (by omega)]
    | succ d ih =>
      intro i m hi hp
      obtain ⟨r, hr, hq⟩ := ih (i + 1) (mn m (xs.getD i 0)) (by omega) (by
        unfold mn
        constructor
        · intro h j hj
          rcases Nat.lt_succ_iff_lt_or_eq.1 hj with h3 | rfl
          · refine hp.1 ?_ j h3
            split at h <;> omega
          · split at h <;> omega
        · intro h
          have h2 := hp.2 (fun j hj => h j (by omega))
          have h3 := h i (by omega)
          split <;> omega)
      refine ⟨r, Ev.step (fun k => ?_) hr, hq⟩
      simp only [slices_Min_int_int.l0]
      rw [if_pos (by omega), if_pos (by omega), w64s (n := xs.length) (by omega) (by omega)]
      rfl
  obtain ⟨r, hr, hq⟩ := key (xs.length - 1) 1 (xs.getD 0 0) (by omega) (by
    constructor
    · intro h j hj
      obtain rfl : j = 0 := by omega
      exact h
    · intro h
      exact h 0 (by omega))
  refine ⟨r, Ev.congr (fun k => ?_) hr, hq⟩
  unfold slices_Min_int_int.f
  rw [if_neg (by omega), if_pos (by omega)]
  rfl
theorem prog_check (l : List S59) : Ev (fun k => accounts_Check.f k l) (chk l) := by
  unfold chk
  by_cases hlen : l.length < 1 ∨ l.length > 8
  · rw [if_pos hlen]
    refine Ev.step (f := fun _ => some 9) (fun k => ?_) (Ev.now _)
    unfold accounts_Check.f
    by_cases h1 : (l.length : Int) < 1
    · rw [if_pos h1]; simp [accounts_Check.j0]
    · rw [if_neg h1, decide_eq_true (by omega)]; simp [accounts_Check.j0]
  · rw [if_neg hlen]
    have hp : 1 ≤ l.length := by omega
    have hn : l.length ≤ 8 := by omega
    refine Ev.step (f := fun k => (accounts_tree.f k l).bind fun t126 => (if t126 = true then ((accounts_amounts.f k l).bind fun t127 => (if t127 = true then ((api_Account_50.f k l).bind fun t128 => (if t128 = true then (some 17) else ((accounts_own.f k l).bind fun t129 => ((slices_Min_int_int.f k t129).bind fun t132 => (if t132 < 0 then (some 11) else (some 0)))))) else (some 2))) else (some 1))) (fun k => ?_) ?_
    · unfold accounts_Check.f
      rw [if_neg (by omega), decide_eq_false (by omega)]
      simp [accounts_Check.j0]
    refine Ev.bindS (prog_tree l hn) ?_
    by_cases ht : ∀ i, i < l.length → treeAt l i
    · rw [if_pos ht, decide_eq_true ht]
      simp only [if_true]
      refine Ev.bindS (prog_amounts l hp hn) ?_
      by_cases ha : ∀ i, i < l.length → amtAt l i
      · rw [if_pos ha]
        by_cases hr : rootOk l
        · rw [if_pos hr, decide_eq_true ⟨ha, hr⟩]
          simp only [if_true]
          refine Ev.bindS (prog_contains l hn) ?_
          by_cases hm : ∀ i, i < l.length → maxAt l i
          · rw [if_pos hm, decide_eq_true hm]
            simp only [Bool.not_true, Bool.false_eq_true, if_false]
            refine Ev.bindS (prog_own l hn ht ha) ?_
            obtain ⟨m, hm1, hm2⟩ := prog_min (ownTo l l.length) (by rw [ownTo_len]; omega) (by rw [ownTo_len]; omega)
            refine Ev.bindS hm1 ?_
            have e : 0 ≤ m ↔ ∀ i, i < l.length → ownAt l i := by
              rw [hm2]
              constructor
              · intro h i hi
                have := h i (by rw [ownTo_len]; omega)
                rw [ownTo_get l _ hi, if_pos hi] at this
                unfold ownAt kids
                omega
              · intro h i hi
                rw [ownTo_len] at hi
                rw [ownTo_get l _ hi, if_pos hi]
                have := h i hi
                unfold ownAt kids at this
                omega
            by_cases ho : ∀ i, i < l.length → ownAt l i
            · rw [if_pos ho]
              exact Ev.some (fun k => by rw [if_neg (by have := e.2 ho; omega)])
            · rw [if_neg ho]
              exact Ev.some (fun k => by rw [if_pos (by have h5 : ¬ 0 ≤ m := fun h => ho (e.1 h); omega)])
          · rw [if_neg hm, decide_eq_false hm]
            exact Ev.some (fun k => rfl)
        · rw [if_neg hr, decide_eq_false (fun h => hr h.2)]
          exact Ev.some (fun k => rfl)
      · rw [if_neg ha, decide_eq_false (fun h => ha h.1)]
        exact Ev.some (fun k => rfl)
    · rw [if_neg ht, decide_eq_false ht]
      exact Ev.some (fun k => rfl)

/-! ### The reference's Check -/
/-! ### Paths, and what is added on them -/
def pth (l : List S59) (a : Nat) : List Nat :=
  a :: (if _h : 0 ≤ (acc l a).f0 ∧ (acc l a).f0.toNat < a then pth l (acc l a).f0.toNat else [])
termination_by a
def parOf (l : List S59) (a : Nat) : Nat := (acc l a).f0.toNat
theorem Ok.par_lt {l : List S59} (h : Ok l) {a : Nat} (ha : a < l.length) (h0 : a ≠ 0) : parOf l a < a ∧ (acc l a).f0 = (parOf l a : Int) := by
  have := h.par ha h0
  unfold parOf
  omega
theorem pth_zero {l : List S59} (h : Ok l) : pth l 0 = [0] := by
  rw [pth, dif_neg]
  have := h.par0
  omega
theorem pth_succ {l : List S59} (h : Ok l) {a : Nat} (ha : a < l.length) (h0 : a ≠ 0) : pth l a = a :: pth l (parOf l a) := by
  rw [pth, dif_pos]
  · rfl
  · have := h.par ha h0
    omega
theorem pth_le {l : List S59} (h : Ok l) : ∀ a, a < l.length → ∀ x ∈ pth l a, x ≤ a := by
  intro a
  induction a using Nat.strongRecOn with
  | _ a ih =>
    intro ha x hx
    by_cases h0 : a = 0
    · subst h0
      rw [pth_zero h] at hx
      simp at hx
      omega
    · rw [pth_succ h ha h0] at hx
      have hp := h.par_lt ha h0
      rcases List.mem_cons.1 hx with rfl | hx
      · exact Nat.le_refl _
      · have := ih _ hp.1 (by omega) x hx
        omega
theorem pth_self {l : List S59} (a : Nat) : a ∈ pth l a := by
  rw [pth]
  exact List.mem_cons_self
theorem pth_not {l : List S59} (h : Ok l) {a : Nat} (ha : a < l.length) (h0 : a ≠ 0) : a ∉ pth l (parOf l a) := by
  have hp := h.par_lt ha h0
  intro hx
  have := pth_le h _ (by omega) a hx
  omega
theorem pth_nodup {l : List S59} (h : Ok l) : ∀ a, a < l.length → (pth l a).Nodup := by
  intro a
  induction a using Nat.strongRecOn with
  | _ a ih =>
    intro ha
    by_cases h0 : a = 0
    · subst h0
      rw [pth_zero h]
      simp
    · rw [pth_succ h ha h0]
      have hp := h.par_lt ha h0
      exact List.nodup_cons.2 ⟨pth_not h ha h0, ih _ hp.1 (by omega)⟩
theorem pth_len {l : List S59} (h : Ok l) : ∀ a, a < l.length → (pth l a).length ≤ a + 1 := by
  intro a
  induction a using Nat.strongRecOn with
  | _ a ih =>
    intro ha
    by_cases h0 : a = 0
    · subst h0
      rw [pth_zero h]
      simp
    · rw [pth_succ h ha h0]
      have hp := h.par_lt ha h0
      have := ih _ hp.1 (by omega)
      simp only [List.length_cons]
      omega
theorem pth_lt {l : List S59} (h : Ok l) {a : Nat} (ha : a < l.length) : ∀ x ∈ pth l a, x < l.length := fun x hx => by
  have := pth_le h a ha x hx
  omega
def bump (s : S59) (n : Int) : S59 := ⟨s.f0, s.f1 + n, s.f2, s.f3, s.f4⟩
/-- n is added to the Usages of the accounts of X. -/
def addAt (l : List S59) (X : List Nat) (n : Int) : List S59 := (List.range l.length).map fun (i : Nat) => if i ∈ X then bump (acc l i) n else acc l i
theorem addAt_len (l : List S59) (X : List Nat) (n : Int) : (addAt l X n).length = l.length := by simp [addAt]
theorem map_range_getD {α : Type} (f : Nat → α) (d : α) {n i : Nat} (hi : i < n) : ((List.range n).map f).getD i d = f i := by simp [List.getD, hi]
theorem addAt_acc (l : List S59) (X : List Nat) (n : Int) {i : Nat} (hi : i < l.length) : acc (addAt l X n) i = if i ∈ X then bump (acc l i) n else acc l i := by
  exact map_range_getD (fun (i : Nat) => if i ∈ X then bump (acc l i) n else acc l i) _ hi
theorem acc_ext {l l' : List S59} (hl : l.length = l'.length) (h : ∀ i, i < l.length → acc l i = acc l' i) : l = l' := by
  apply List.ext_getElem hl
  intro i h1 h2
  have := h i h1
  unfold acc at this
  simpa [List.getD, h1, h2] using this
theorem addAt_nil (l : List S59) (n : Int) : addAt l [] n = l := by
  refine acc_ext (addAt_len _ _ _) fun i hi => ?_
  rw [addAt_len] at hi
  rw [addAt_acc l [] n hi, if_neg (by simp)]
theorem addAt_acc_same (l : List S59) (X : List Nat) (n : Int) {i : Nat} (hi : i < l.length) : (acc (addAt l X n) i).f0 = (acc l i).f0 ∧ (acc (addAt l X n) i).f2 = (acc l i).f2 ∧ (acc (addAt l X n) i).f3 = (acc l i).f3 ∧ (acc (addAt l X n) i).f4 = (acc l i).f4 := by
  rw [addAt_acc l X n hi]
  split <;> exact ⟨rfl, rfl, rfl, rfl⟩
theorem addAt_f1 (l : List S59) (X : List Nat) (n : Int) {i : Nat} (hi : i < l.length) : (acc (addAt l X n) i).f1 = (acc l i).f1 + if i ∈ X then n else 0 := by
  rw [addAt_acc l X n hi]
  split
  · rfl
  · simp
/-- One more account, which was not there. -/
theorem addAt_step (l : List S59) (X : List Nat) (n : Int) {x : Nat} (hx : x < l.length) (hn : x ∉ X) : (addAt l X n).set x (bump (acc (addAt l X n) x) n) = addAt l (X ++ [x]) n := by
  refine acc_ext (by simp [addAt_len]) fun i hi => ?_
  rw [List.length_set, addAt_len] at hi
  have hs : acc ((addAt l X n).set x (bump (acc (addAt l X n) x) n)) i = if i = x then bump (acc (addAt l X n) x) n else acc (addAt l X n) i := by
    show ((addAt l X n).set x (bump (acc (addAt l X n) x) n)).getD i z59 = _
    by_cases h : i = x
    · subst h
      rw [if_pos rfl, List.getD_eq_getElem?_getD, List.getElem?_set_self (by rw [addAt_len]; exact hi)]
      rfl
    · rw [if_neg h, List.getD_eq_getElem?_getD, List.getElem?_set_ne (fun e => h e.symm), ← List.getD_eq_getElem?_getD]
      rfl
  rw [hs, addAt_acc l (X ++ [x]) n hi]
  by_cases h : i = x
  · subst h
    rw [if_pos rfl, if_pos (by simp), addAt_acc l X n hi, if_neg hn]
  · rw [if_neg h, addAt_acc l X n hi]
    simp [h]
/-- The children of p in X, below m. -/
def cntC (l : List S59) (X : List Nat) (p : Int) : Nat → Nat
  | 0 => 0
  | c + 1 => cntC l X p c + if c ≥ 1 ∧ (acc l c).f0 = p ∧ c ∈ X then 1 else 0
theorem kidsTo_add (l : List S59) (X : List Nat) (n : Int) (p : Int) : ∀ m, m ≤ l.length → kidsTo (addAt l X n) p m = kidsTo l p m + n * (cntC l X p m : Int)
  | 0, _ => by simp [kidsTo, cntC]
  | c + 1, h => by
    have ih := kidsTo_add l X n p c (by omega)
    unfold kidsTo cntC
    rw [ih, (addAt_acc_same l X n (i := c) (by omega)).1, addAt_f1 l X n (i := c) (by omega)]
    by_cases h1 : c ≥ 1 ∧ (acc l c).f0 = p
    · by_cases h2 : c ∈ X
      · have h3 : c ≥ 1 ∧ (acc l c).f0 = p ∧ c ∈ X := ⟨h1.1, h1.2, h2⟩
        simp only [if_pos h1, if_pos h2, if_pos h3]
        rw [Int.natCast_add, Int.mul_add]
        simp
        omega
      · have h3 : ¬ (c ≥ 1 ∧ (acc l c).f0 = p ∧ c ∈ X) := fun z => h2 z.2.2
        simp only [if_pos h1, if_neg h2, if_neg h3]
        simp
        omega
    · have h3 : ¬ (c ≥ 1 ∧ (acc l c).f0 = p ∧ c ∈ X) := fun z => h1 ⟨z.1, z.2.1⟩
      simp only [if_neg h1, if_neg h3]
      simp
theorem cntC_nil (l : List S59) (p : Int) : ∀ m, cntC l [] p m = 0
  | 0 => rfl
  | c + 1 => by
    unfold cntC
    rw [cntC_nil l p c]
    simp
theorem cntC_cons (l : List S59) (X : List Nat) {a : Nat} (ha : a ∉ X) (p : Int) : ∀ m, cntC l (a :: X) p m = cntC l X p m + if a < m ∧ a ≥ 1 ∧ (acc l a).f0 = p then 1 else 0
  | 0 => by simp [cntC]
  | c + 1 => by
    unfold cntC
    rw [cntC_cons l X ha p c]
    by_cases h : c = a
    · subst h
      have hcc : ¬ (c < c ∧ c ≥ 1 ∧ (acc l c).f0 = p) := fun z => absurd z.1 (Nat.lt_irrefl _)
      have hx : ¬ (c ≥ 1 ∧ (acc l c).f0 = p ∧ c ∈ X) := fun z => ha z.2.2
      by_cases h1 : c ≥ 1 ∧ (acc l c).f0 = p
      · have h2 : c ≥ 1 ∧ (acc l c).f0 = p ∧ c ∈ c :: X := ⟨h1.1, h1.2, List.mem_cons_self⟩
        have h3 : c < c + 1 ∧ c ≥ 1 ∧ (acc l c).f0 = p := ⟨by omega, h1⟩
        simp only [if_neg hcc, if_neg hx, if_pos h2, if_pos h3]
      · have h2 : ¬ (c ≥ 1 ∧ (acc l c).f0 = p ∧ c ∈ c :: X) := fun z => h1 ⟨z.1, z.2.1⟩
        have h3 : ¬ (c < c + 1 ∧ c ≥ 1 ∧ (acc l c).f0 = p) := fun z => h1 z.2
        simp only [if_neg hcc, if_neg hx, if_neg h2, if_neg h3]
    · have e : (c ∈ a :: X) ↔ c ∈ X := by simp [h]
      simp only [e]
      have e2 : a < c + 1 ↔ a < c := by omega
      simp only [e2]
      omega
/-- On a path each account but the first has one child. -/
theorem cntC_pth {l : List S59} (h : Ok l) (p : Nat) : ∀ a, a < l.length → cntC l (pth l a) (p : Int) l.length = if p ∈ pth l a ∧ p ≠ a then 1 else 0 := by
  intro a
  induction a using Nat.strongRecOn with
  | _ a ih =>
    intro ha
    by_cases h0 : a = 0
    · subst h0
      rw [pth_zero h, cntC_cons l [] (by simp), cntC_nil, if_neg (by omega), if_neg (by simp)]
    · have hp := h.par_lt ha h0
      have hn := pth_not h ha h0
      rw [pth_succ h ha h0, cntC_cons l _ hn, ih _ hp.1 (by omega), hp.2]
      have hs := pth_self (l := l) (parOf l a)
      by_cases e : p = parOf l a
      · subst e
        rw [if_neg (by simp), if_pos ⟨ha, by omega, rfl⟩, if_pos ⟨List.mem_cons_of_mem _ hs, by omega⟩]
      · rw [if_neg (show ¬ (a < l.length ∧ a ≥ 1 ∧ ((parOf l a : Nat) : Int) = (p : Int)) by omega), Nat.add_zero]
        by_cases hm : p ∈ pth l (parOf l a)
        · have hpa : p ≠ a := fun z => hn (z ▸ hm)
          rw [if_pos ⟨hm, e⟩, if_pos ⟨List.mem_cons_of_mem _ hm, hpa⟩]
        · rw [if_neg (fun z => hm z.1), if_neg]
          rintro ⟨z1, z2⟩
          rcases List.mem_cons.1 z1 with rfl | z
          · exact z2 rfl
          · exact hm z
def ownU (l : List S59) (p : Nat) : Int := (acc l p).f1 - kids l (p : Int)
/-- The own usages behind a charge of n to a. -/
theorem ownU_add {l : List S59} (h : Ok l) {a : Nat} (ha : a < l.length) (n : Int) {p : Nat} (hp : p < l.length) : ownU (addAt l (pth l a) n) p = ownU l p + if p = a then n else 0 := by
  have hk := kidsTo_add l (pth l a) n (p : Int) l.length (Nat.le_refl _)
  have hc := cntC_pth h p a ha
  unfold ownU kids
  rw [addAt_len, hk, hc, addAt_f1 l _ n hp]
  by_cases e : p = a
  · subst e
    rw [if_pos (pth_self p), if_neg (by simp), if_pos rfl]
    simp
    omega
  · rw [if_neg e]
    by_cases hm : p ∈ pth l a
    · rw [if_pos hm, if_pos ⟨hm, e⟩]
      simp
      omega
    · rw [if_neg hm, if_neg (fun z => hm z.1)]
      simp
/-- A list behind an addition on a path is valid. -/
theorem Ok.add {l : List S59} (h : Ok l) {a : Nat} (ha : a < l.length) {n : Int} (hlo : ∀ x ∈ pth l a, 0 ≤ (acc l x).f1 + n) (hhi : ∀ x ∈ pth l a, (acc l x).f1 + n ≤ (acc l x).f4) (hown : 0 ≤ ownU l a + n) : Ok (addAt l (pth l a) n) := by
  have hlen := addAt_len l (pth l a) n
  refine ⟨by rw [hlen]; exact h.pos, by rw [hlen]; exact h.few, fun i hi => ?_, fun i hi => ?_, ?_, fun i hi => ?_, fun i hi => ?_⟩
  · rw [hlen] at hi
    have := h.tree i hi
    unfold treeAt at this ⊢
    rw [(addAt_acc_same l _ n hi).1]
    exact this
  · rw [hlen] at hi
    obtain ⟨a1, a2, a3, a4⟩ := h.amt i hi
    have hm := h.max i hi
    have hs := addAt_acc_same l (pth l a) n hi
    unfold amtAt
    rw [hs.2.1, hs.2.2.1, hs.2.2.2, addAt_f1 l _ n hi]
    refine ⟨?_, a2, a3, a4⟩
    unfold inR at a1 a4 ⊢
    unfold maxAt at hm
    by_cases hx : i ∈ pth l a
    · have := hlo i hx
      have := hhi i hx
      rw [if_pos hx]
      omega
    · rw [if_neg hx]
      omega
  · have hs := addAt_acc_same l (pth l a) n h.pos
    unfold rootOk
    rw [hs.2.1, hs.2.2.1]
    exact h.root
  · rw [hlen] at hi
    have hm := h.max i hi
    unfold maxAt at hm ⊢
    rw [(addAt_acc_same l _ n hi).2.2.2, addAt_f1 l _ n hi]
    by_cases hx : i ∈ pth l a
    · have := hhi i hx
      rw [if_pos hx]
      omega
    · rw [if_neg hx]
      omega
  · rw [hlen] at hi
    have ho := h.own i hi
    have hu := ownU_add h ha n hi
    unfold ownAt at ho ⊢
    unfold ownU at hu hown
    by_cases e : i = a
    · subst e
      rw [if_pos rfl] at hu
      omega
    · rw [if_neg e] at hu
      omega
/-! ### The program's and the reference's functions on paths -/
def ints (X : List Nat) : List Int := X.map fun (x : Nat) => (x : Int)
theorem ints_len (X : List Nat) : (ints X).length = X.length := by simp [ints]
theorem ints_get (X : List Nat) {j : Nat} (hj : j < X.length) : rd (ints X) (j : Int) = (X[j] : Int) := by
  show (ints X).getD j 0 = _
  unfold ints
  simp [List.getD, hj]
/-- There is such an account. -/
def isAt (l : List S59) (a : Int) : Prop := chk l = 0 ∧ 0 ≤ a ∧ a < l.length
instance (l : List S59) (a : Int) : Decidable (isAt l a) := by unfold isAt; infer_instance
theorem isAt.nat {l : List S59} {a : Int} (h : isAt l a) : ∃ n : Nat, a = (n : Int) ∧ n < l.length := ⟨a.toNat, by have := h.2; omega, by have := h.2; omega⟩
def pathI (l : List S59) (a : Int) : List Int := if isAt l a then ints (pth l a.toNat) else []
theorem prog_is (l : List S59) (a : Int) : Ev (fun k => accounts_is.f k l a) (decide (isAt l a)) := by
  refine Ev.bindS (prog_check l) ?_
  by_cases h : chk l = 0
  · refine Ev.some (fun k => ?_)
    rw [if_pos h]
    by_cases h1 : a ≥ 0
    · rw [if_pos h1]
      congr 1
      exact decide_eq_decide.2 ⟨fun h2 => ⟨h, h1, h2⟩, fun h2 => h2.2.2⟩
    · rw [if_neg h1, decide_eq_false (show ¬ isAt l a from fun h2 => h1 h2.2.1)]
  · refine Ev.some (fun k => ?_)
    rw [if_neg h, decide_eq_false (show ¬ isAt l a from fun h2 => h h2.1)]
theorem prog_path_l0 {l : List S59} (h : Ok l) : ∀ a, a < l.length → ∀ xs : List Int, xs.length + a ≤ 1000 → Ev (fun k => accounts_Path.l0 k l xs (a : Int)) (xs ++ ints (pth l a)) := by
  intro a
  induction a using Nat.strongRecOn with
  | _ a ih =>
    intro ha xs hx
    by_cases h0 : a = 0
    · subst h0
      refine Ev.step (f := fun k => accounts_Path.l0 k l (xs ++ [0]) (-1)) (fun k => ?_) ?_
      · simp only [accounts_Path.l0]
        rw [if_pos (by omega), if_pos (by omega), if_pos (by omega), if_pos (by omega), rd_acc, h.par0]
        rfl
      · refine Ev.step (f := fun _ => some (xs ++ [0])) (fun k => ?_) ?_
        · simp only [accounts_Path.l0]
          rw [if_neg (by omega)]
        · rw [pth_zero h]
          exact Ev.now _
    · have hp := h.par_lt ha h0
      have hq := ih _ hp.1 (by omega) (xs ++ [(a : Int)]) (by simp; omega)
      rw [pth_succ h ha h0]
      have e : xs ++ ints (a :: pth l (parOf l a)) = xs ++ [(a : Int)] ++ ints (pth l (parOf l a)) := by simp [ints]
      rw [e]
      refine Ev.step (fun k => ?_) hq
      simp only [accounts_Path.l0]
      rw [if_pos (by omega), if_pos (by omega), if_pos (by omega), if_pos (by omega), rd_acc, hp.2]
theorem prog_path (l : List S59) (a : Int) : Ev (fun k => accounts_Path.f k l a) (pathI l a) := by
  refine Ev.bindS (prog_is l a) ?_
  unfold pathI
  by_cases h : isAt l a
  · rw [if_pos h, decide_eq_true h]
    refine Ev.congr (fun k => if_pos rfl) ?_
    obtain ⟨n, rfl, hn⟩ := h.nat
    have ho := chk_ok.1 h.1
    have := ho.few
    exact prog_path_l0 ho n hn [] (by simp; omega)
  · rw [if_neg h, decide_eq_false h]
    exact Ev.some (fun k => rfl)
def ownI (l : List S59) (a : Int) : Int := if isAt l a then ownU l a.toNat else -1
theorem prog_ownf (l : List S59) (a : Int) : Ev (fun k => accounts_Own.f k l a) (ownI l a) := by
  refine Ev.bindS (prog_is l a) ?_
  unfold ownI
  by_cases h : isAt l a
  · rw [if_pos h, decide_eq_true h]
    refine Ev.congr (fun k => if_pos rfl) ?_
    obtain ⟨n, rfl, hn⟩ := h.nat
    have ho := chk_ok.1 h.1
    refine Ev.bindS (prog_own l ho.few ho.tree ho.amt) ?_
    refine Ev.some (fun k => ?_)
    have e : rd (ownTo l l.length) (n : Int) = ownU l n := by
      show (ownTo l l.length).getD n 0 = _
      rw [ownTo_get l _ hn, if_pos hn]
      rfl
    rw [if_pos (by omega), if_pos (by rw [ownTo_len]; omega), e, Int.toNat_natCast]
  · rw [if_neg h, decide_eq_false h]
    exact Ev.some (fun k => rfl)
theorem Ok.w {l : List S59} (h : Ok l) {x : Nat} (hx : x < l.length) : wrap64 ((acc l x).f4 - (acc l x).f1) = (acc l x).f4 - (acc l x).f1 := by
  obtain ⟨a1, _, _, a4⟩ := h.amt x hx
  unfold inR at a1 a4
  exact w64 (by omega) (by omega)
/-! ### The reference's functions on paths -/
/-! ### Charges of the program -/
theorem prog_clone (l : List S59) (hn : l.length ≤ 1000) : api_Account_44.f l = some l := by
  unfold api_Account_44.f
  simp only [Option.bind_some, List.nil_append]
  rw [if_pos (by simp; omega)]
theorem not_take {X : List Nat} (h : X.Nodup) {i : Nat} (hi : i < X.length) : X[i] ∉ X.take i := by
  intro hm
  obtain ⟨j, hj, e⟩ := List.mem_iff_getElem.1 hm
  rw [List.length_take] at hj
  rw [List.getElem_take] at e
  have := (List.getElem_inj h).1 e
  omega
theorem prog_add_l0 {l : List S59} (h : Ok l) {X : List Nat} (hX : X.Nodup) (hlt : ∀ x ∈ X, x < l.length) (hl : X.length ≤ 8) {n : Int} (h0 : -1048576 ≤ n) (h1 : n ≤ 1048576) :
    Ev (fun k => accounts_add.l0 k n l (ints X) ((ints X).length : Int) 0) (addAt l X n) := by
  have key : ∀ d i, i + d = X.length → Ev (fun k => accounts_add.l0 k n (addAt l (X.take i) n) (ints X) ((ints X).length : Int) (i : Int)) (addAt l X n) := by
    intro d
    induction d with
    | zero =>
      intro i hi
      obtain rfl : i = X.length := by omega
      rw [List.take_length]
      refine Ev.step (f := fun _ => some _) (fun k => ?_) (Ev.now _)
      simp only [accounts_add.l0]
      rw [if_neg (by rw [ints_len]; omega)]
    | succ d ih =>
      intro i hi
      have hil : i < X.length := by omega
      have hx := hlt _ (List.getElem_mem hil)
      have hn := not_take hX hil
      have hb := (h.amt _ hx).1
      unfold inR at hb
      have hf := addAt_f1 l (X.take i) n hx
      rw [if_neg hn] at hf
      refine Ev.step (fun k => ?_) (ih (i + 1) (by omega))
      simp only [accounts_add.l0]
      rw [if_pos (by rw [ints_len]; omega), if_pos (by omega), if_pos (by rw [ints_len]; omega), ints_get _ hil, if_pos (by omega), if_pos (by rw [addAt_len]; omega), rd_acc, Int.toNat_natCast, w64 (x := (acc (addAt l (X.take i) n) X[i]).f1 + n) (by omega) (by omega), w64s hil (by omega), List.take_succ_eq_append_getElem hil, ← addAt_step l (X.take i) n hx hn]
      rfl
  have := key X.length 0 (by omega)
  rw [List.take_zero, addAt_nil] at this
  exact this
theorem prog_add {l : List S59} {a : Nat} (h : isAt l (a : Int)) {n : Int} (h0 : -1048576 ≤ n) (h1 : n ≤ 1048576) : Ev (fun k => accounts_add.f k l (a : Int) n) (addAt l (pth l a) n) := by
  have ho := chk_ok.1 h.1
  have hf := ho.few
  have ha : a < l.length := by have := h.2.2; omega
  have hp := pth_len ho a ha
  have hpe : pathI l (a : Int) = ints (pth l a) := by unfold pathI; rw [if_pos h, Int.toNat_natCast]
  refine Ev.bindS (g := fun _ => api_Account_44.f l) (Ev.some (fun _ => prog_clone l (by omega))) ?_
  refine Ev.bindS (prog_path l (a : Int)) ?_
  rw [hpe]
  exact prog_add_l0 ho (pth_nodup ho a ha) (pth_lt ho ha) (by omega) h0 h1
def req (l : List S59) (a n : Int) : Int := if chk l = 0 then (if isAt l a then (if inR n then 0 else 2) else 6) else chk l
theorem prog_req (l : List S59) (a n : Int) : Ev (fun k => accounts_request.f k l a n) (req l a n) := by
  refine Ev.bindS (prog_check l) ?_
  unfold req
  by_cases hc : chk l = 0
  · rw [if_pos hc]
    refine Ev.congr (fun k => if_pos hc) ?_
    refine Ev.bindS (prog_is l a) ?_
    by_cases h : isAt l a
    · rw [if_pos h, decide_eq_true h]
      refine Ev.congr (fun k => if_pos rfl) ?_
      rw [prog_in]
      by_cases hn : inR n
      · rw [if_pos hn, decide_eq_true hn]
        exact Ev.some (fun k => rfl)
      · rw [if_neg hn, decide_eq_false hn]
        exact Ev.some (fun k => rfl)
    · rw [if_neg h, decide_eq_false h]
      exact Ev.some (fun k => rfl)
  · rw [if_neg hc]
    exact Ev.some (fun k => if_neg hc)
theorem req_zero {l : List S59} {a n : Int} : req l a n = 0 ↔ isAt l a ∧ inR n := by
  unfold req
  by_cases hc : chk l = 0
  · rw [if_pos hc]
    by_cases h : isAt l a
    · rw [if_pos h]
      by_cases hn : inR n
      · simp [hn, h]
      · simp [hn]
    · simp [h]
  · rw [if_neg hc]
    exact ⟨fun z => absurd z hc, fun z => absurd z.1.1 hc⟩
/-- The first account of a path that a charge would take above its Max. -/
def full (l : List S59) (n : Int) (X : List Nat) : Option Nat := X.find? fun x => decide ((acc l x).f1 + n > (acc l x).f4)
def chg (l : List S59) (a n : Int) : List S59 × Int × Int :=
  if req l a n = 0 then
    match full l n (pth l a.toNat) with
    | some x => ([], (x : Int), 17)
    | none => (addAt l (pth l a.toNat) n, -1, 0)
  else ([], -1, req l a n)
theorem prog_charge (l : List S59) (a n : Int) : Ev (fun k => accounts_Charge.f k l a n) (chg l a n) := by
  refine Ev.bindS (prog_req l a n) ?_
  unfold chg
  by_cases hr : req l a n = 0
  · rw [if_pos hr]
    refine Ev.congr (fun k => if_pos hr) ?_
    obtain ⟨h, hn⟩ := req_zero.1 hr
    obtain ⟨a, rfl, ha⟩ := h.nat
    have ho := chk_ok.1 h.1
    have hf := ho.few
    have hp := pth_len ho a ha
    have hpe : pathI l (a : Int) = ints (pth l a) := by unfold pathI; rw [if_pos h, Int.toNat_natCast]
    have hlt := pth_lt ho ha
    have hadd := prog_add h (n := n) (by unfold inR at hn; omega) (by unfold inR at hn; omega)
    refine Ev.bindS (prog_path l (a : Int)) ?_
    rw [hpe, Int.toNat_natCast]
    have key : ∀ d i, i + d = (pth l a).length → (∀ j (hj : j < (pth l a).length), j < i → ¬ ((acc l (pth l a)[j]).f1 + n > (acc l (pth l a)[j]).f4)) →
        Ev (fun k => accounts_Charge.l0 k l (a : Int) n (ints (pth l a)) ((ints (pth l a)).length : Int) (i : Int)) (match full l n ((pth l a).drop i) with | some x => ([], (x : Int), 17) | none => (addAt l (pth l a) n, -1, 0)) := by
      intro d
      induction d with
      | zero =>
        intro i hi hq
        obtain rfl : i = (pth l a).length := by omega
        rw [List.drop_length]
        refine Ev.step (f := fun k => (accounts_add.f k l (a : Int) n).bind fun t => some (t, (-1), 0)) (fun k => ?_) (Ev.bindS hadd (Ev.now _))
        simp only [accounts_Charge.l0]
        rw [if_neg (by rw [ints_len]; omega)]
      | succ d ih =>
        intro i hi hq
        have hil : i < (pth l a).length := by omega
        have hx := hlt _ (List.getElem_mem hil)
        have hb := (ho.amt _ hx).1
        unfold inR at hb hn
        rw [List.drop_eq_getElem_cons hil]
        unfold full
        rw [List.find?_cons]
        by_cases h2 : (acc l (pth l a)[i]).f1 + n > (acc l (pth l a)[i]).f4
        · rw [decide_eq_true h2]
          refine Ev.step (f := fun _ => some _) (fun k => ?_) (Ev.now _)
          simp only [accounts_Charge.l0]
          rw [if_pos (by rw [ints_len]; omega), if_pos (by omega), if_pos (by rw [ints_len]; omega), ints_get _ hil, if_pos (by omega), if_pos (by omega), rd_acc, w64 (x := (acc l (pth l a)[i]).f1 + n) (by omega) (by omega), if_pos h2]
        · rw [decide_eq_false h2]
          refine Ev.step (fun k => ?_) (ih (i + 1) (by omega) (fun j hj hji => by
            rcases Nat.lt_succ_iff_lt_or_eq.1 hji with h3 | rfl
            · exact hq j hj h3
            · exact h2))
          simp only [accounts_Charge.l0]
          rw [if_pos (by rw [ints_len]; omega), if_pos (by omega), if_pos (by rw [ints_len]; omega), ints_get _ hil, if_pos (by omega), if_pos (by omega), rd_acc, w64 (x := (acc l (pth l a)[i]).f1 + n) (by omega) (by omega), if_neg h2, w64s hil (by omega)]
    have := key (pth l a).length 0 (by omega) (fun j _ hj => absurd hj (Nat.not_lt_zero _))
    rw [List.drop_zero] at this
    exact this
  · rw [if_neg hr]
    exact Ev.some (fun k => if_neg hr)
def unc (l : List S59) (a n : Int) : List S59 × Int :=
  if req l a n = 0 then (if n > ownU l a.toNat then ([], 11) else (addAt l (pth l a.toNat) (-n), 0)) else ([], req l a n)
theorem prog_uncharge (l : List S59) (a n : Int) : Ev (fun k => accounts_Uncharge.f k l a n) (unc l a n) := by
  refine Ev.bindS (prog_req l a n) ?_
  unfold unc
  by_cases hr : req l a n = 0
  · rw [if_pos hr]
    refine Ev.congr (fun k => if_pos hr) ?_
    obtain ⟨h, hn⟩ := req_zero.1 hr
    obtain ⟨a, rfl, ha⟩ := h.nat
    refine Ev.bindS (prog_ownf l (a : Int)) ?_
    have ho : ownI l (a : Int) = ownU l a := by unfold ownI; rw [if_pos h, Int.toNat_natCast]
    rw [ho, Int.toNat_natCast]
    unfold inR at hn
    by_cases h2 : n > ownU l a
    · rw [if_pos h2]
      exact Ev.some (fun k => if_pos h2)
    · rw [if_neg h2]
      refine Ev.congr (fun k => if_neg h2) ?_
      rw [w64 (x := -n) (by omega) (by omega)]
      exact Ev.bindS (prog_add h (by omega) (by omega)) (Ev.now _)
  · rw [if_neg hr]
    exact Ev.some (fun k => if_neg hr)
theorem chg_of {l : List S59} (ho : Ok l) {x : Nat} (hx : x < l.length) {n : Int} (hn : inR n) (hf : ∀ y ∈ pth l x, (acc l y).f1 + n ≤ (acc l y).f4) : chg l (x : Int) n = (addAt l (pth l x) n, -1, 0) := by
  have hi : isAt l (x : Int) := ⟨chk_ok.2 ho, by omega, by omega⟩
  unfold chg
  rw [if_pos (req_zero.2 ⟨hi, hn⟩), Int.toNat_natCast]
  have : full l n (pth l x) = none := List.find?_eq_none.2 fun y hy => by
    have := hf y hy
    simp
    omega
  rw [this]
theorem Ok.own_nonneg {l : List S59} (h : Ok l) {p : Nat} (hp : p < l.length) : 0 ≤ ownU l p := by
  have := h.own p hp
  unfold ownAt at this
  unfold ownU
  omega
/-- A charge that succeeds leaves a valid list. -/
theorem Ok.charge {l : List S59} (h : Ok l) {a : Nat} (ha : a < l.length) {n : Int} (hn : 0 ≤ n) (hf : ∀ y ∈ pth l a, (acc l y).f1 + n ≤ (acc l y).f4) : Ok (addAt l (pth l a) n) := by
  refine h.add ha (fun x hx => ?_) hf ?_
  · have := (h.amt x (pth_lt h ha x hx)).1
    unfold inR at this
    omega
  · have := h.own_nonneg ha
    omega
/-! ### Same -/
/-! ### Charges of the reference -/
/-! ### Asks -/
def ask (q : List S37) (i : Nat) : S37 := q.getD i z37
theorem rd_ask (q : List S37) (i : Nat) : rd_T37 q (i : Int) = ask q i := rfl
theorem ask_get {q : List S37} {i : Nat} (h : i < q.length) : ask q i = q[i] := by
  unfold ask
  rw [List.getD_eq_getElem?_getD, List.getElem?_eq_getElem h]
  rfl
theorem ask_mem {q : List S37} {i : Nat} (h : i < q.length) : ask q i ∈ q := by
  rw [ask_get h]
  exact List.getElem_mem h
def vA (x : S37) : Prop := 0 ≤ x.f0 ∧ x.f0 < 8 ∧ 0 ≤ x.f1 ∧ inR x.f2 ∧ inR x.f3
instance (x : S37) : Decidable (vA x) := by unfold vA; infer_instance
def tot (x : S37) : Int := x.f2 + x.f3
theorem vA.amt {x : S37} (h : vA x) : wrap64 (x.f2 + x.f3) = tot x ∧ 0 ≤ tot x ∧ tot x ≤ 2097152 ∧ x.f2 ≤ tot x ∧ 0 ≤ x.f2 ∧ x.f2 ≤ 1048576 := by
  obtain ⟨_, _, _, h2, h3⟩ := h
  unfold inR at h2 h3
  unfold tot
  exact ⟨w64 (by omega) (by omega), by omega, by omega, by omega, by omega, by omega⟩
theorem prog_gin (x : Int) : grant_in.f x = some (decide (inR x)) := by
  unfold grant_in.f inR
  by_cases h : x ≥ 0
  · rw [if_pos h]
    congr 1
    exact decide_eq_decide.2 (by omega)
  · rw [if_neg h]
    congr 1
    exact (decide_eq_false (by omega)).symm
theorem prog_valid (x : S37) : grant_valid.f x.f0 x.f1 x.f2 x.f3 = some (decide (vA x)) := by
  unfold grant_valid.f
  simp only [prog_gin, Option.bind_some]
  by_cases h0 : x.f0 ≥ 0
  · rw [if_pos h0]
    by_cases h1 : x.f0 < 8
    · rw [if_pos h1]
      by_cases h2 : x.f1 ≥ 0
      · rw [if_pos h2]
        by_cases h3 : inR x.f2
        · rw [if_pos (decide_eq_true h3)]
          congr 1
          exact decide_eq_decide.2 ⟨fun h => ⟨h0, h1, h2, h3, h⟩, fun h => h.2.2.2.2⟩
        · rw [if_neg (by simp [h3]), decide_eq_false (fun h : vA x => h3 h.2.2.2.1)]
      · rw [if_neg h2, decide_eq_false (fun h : vA x => h2 h.2.2.1)]
    · rw [if_neg h1, decide_eq_false (fun h : vA x => h1 h.2.1)]
  · rw [if_neg h0, decide_eq_false (fun h : vA x => h0 h.1)]
/-! the first place -/
def fst (p : S37 → Bool) : List S37 → Nat → Int
  | [], _ => -1
  | x :: q, i => if p x = true then (i : Int) else fst p q (i + 1)
theorem fst_eq (p : S37 → Bool) : ∀ (q : List S37) (i j : Nat) (_ : j < q.length), p (ask q j) = true → (∀ m, m < j → p (ask q m) = false) → fst p q i = ((i + j : Nat) : Int)
  | [], _, _, h, _, _ => absurd h (Nat.not_lt_zero _)
  | x :: q, i, 0, _, hp, _ => by
    have hx : p x = true := hp
    unfold fst
    rw [if_pos hx]
    rfl
  | x :: q, i, j + 1, h, hp, hn => by
    unfold fst
    have h0 : p x = false := hn 0 (by omega)
    rw [h0, if_neg (by decide), fst_eq p q (i + 1) j (Nat.lt_of_succ_lt_succ h) hp (fun m hm => hn (m + 1) (by omega))]
    omega
theorem fst_le (p : S37 → Bool) : ∀ (q : List S37) (i j : Nat) (_ : j < q.length), p (ask q j) = true → (i : Int) ≤ fst p q i ∧ fst p q i ≤ ((i + j : Nat) : Int)
  | [], _, _, h, _ => absurd h (Nat.not_lt_zero _)
  | x :: q, i, 0, _, hp => by
    have hx : p x = true := hp
    unfold fst
    rw [if_pos hx]
    omega
  | x :: q, i, j + 1, h, hp => by
    have ih := fst_le p q (i + 1) j (Nat.lt_of_succ_lt_succ h) hp
    unfold fst
    split <;> omega
theorem fst_none (p : S37 → Bool) : ∀ (q : List S37) (i : Nat), (∀ x ∈ q, p x = false) → fst p q i = -1
  | [], _, _ => rfl
  | x :: q, i, h => by
    unfold fst
    rw [h x List.mem_cons_self, if_neg (by decide)]
    exact fst_none p q (i + 1) fun y hy => h y (List.mem_cons_of_mem _ hy)
theorem fst_some (p : S37 → Bool) (q : List S37) (i : Nat) : fst p q i ≥ 0 ↔ ∃ x ∈ q, p x = true := by
  constructor
  · intro h
    by_cases hn : ∀ x ∈ q, p x = false
    · rw [fst_none p q i hn] at h
      omega
    · simp only [Classical.not_forall] at hn
      obtain ⟨x, hx, hp⟩ := hn
      exact ⟨x, hx, by simpa using hp⟩
  · rintro ⟨x, hx, hp⟩
    obtain ⟨j, hj, rfl⟩ := List.mem_iff_getElem.1 hx
    have := fst_le p q i j hj (by rw [ask_get hj]; exact hp)
    omega
theorem drop_ask {q : List S37} {i : Nat} (h : i < q.length) : q.drop i = ask q i :: q.drop (i + 1) := by
  rw [List.drop_eq_getElem_cons h, ask_get h]
theorem prog_idx (p : S37 → Bool) (q : List S37) (hq : q.length ≤ 1000) : Ev (fun k => idxAsk.l0 k p q (q.length : Int) 0) (fst p q 0) := by
  have key : ∀ d i, i + d = q.length → Ev (fun k => idxAsk.l0 k p q (q.length : Int) (i : Int)) (fst p (q.drop i) i) := by
    intro d
    induction d with
    | zero =>
      intro i hi
      obtain rfl : i = q.length := by omega
      rw [List.drop_length]
      refine Ev.step (f := fun _ => some (-1)) (fun k => ?_) (Ev.now _)
      simp only [idxAsk.l0]
      rw [if_neg (by omega)]
    | succ d ih =>
      intro i hi
      have hil : i < q.length := by omega
      rw [drop_ask hil]
      unfold fst
      by_cases hp : p (ask q i) = true
      · rw [if_pos hp]
        refine Ev.step (f := fun _ => some (i : Int)) (fun k => ?_) (Ev.now _)
        simp only [idxAsk.l0]
        rw [if_pos (by omega), if_pos (by omega), if_pos (by omega), rd_ask, if_pos hp]
      · rw [if_neg hp]
        refine Ev.step (fun k => ?_) (ih (i + 1) (by omega))
        simp only [idxAsk.l0]
        rw [if_pos (by omega), if_pos (by omega), if_pos (by omega), rd_ask, if_neg hp, w64s hil (by omega)]
  have := key q.length 0 (by omega)
  rw [List.drop_zero] at this
  exact this
def pl (q : List S37) (n : Int) : Int := fst (fun x => x.f0 == n) q 0
theorem prog_of (q : List S37) (hq : q.length ≤ 1000) (n : Int) : Ev (fun k => grant_of.f k q n) (pl q n) := prog_idx _ q hq
theorem prog_con (q : List S37) (hq : q.length ≤ 1000) (l : List S59) : Ev (fun k => api_Ask_42.f k q l) (decide (∃ x ∈ q, x.f1 ≥ (l.length : Int))) := by
  refine Ev.bindS (prog_idx _ q hq) ?_
  refine Ev.some (fun k => ?_)
  congr 1
  refine decide_eq_decide.2 ((fst_some _ q 0).trans ?_)
  simp
/-! Check -/
def dq (q : List S37) : Prop := ∀ i, i < q.length → pl q (ask q i).f0 = (i : Int)
instance (q : List S37) : Decidable (dq q) := by unfold dq; infer_instance
def cq (q : List S37) : Int := if ∀ i, i < q.length → vA (ask q i) then (if dq q then 0 else 7) else 2
theorem prog_cq (q : List S37) (hq : q.length ≤ 1000) : Ev (fun k => grant_Check.f k q) (cq q) := by
  unfold cq dq
  refine Ev.scan (fun k i => grant_Check.l0 k q q (q.length : Int) i) q.length (fun i => vA (ask q i)) 2 _ ?_ ?_ ?_
  · intro i hi hp r hr
    refine Ev.step (fun k => ?_) hr
    simp only [grant_Check.l0]
    rw [if_pos (by omega), if_pos (by omega), if_pos (by omega), rd_ask, prog_valid, decide_eq_true hp, w64s hi (by omega)]
    rfl
  · intro i hi hp
    refine Ev.step (f := fun _ => some 2) (fun k => ?_) (Ev.now _)
    simp only [grant_Check.l0]
    rw [if_pos (by omega), if_pos (by omega), if_pos (by omega), rd_ask, prog_valid, decide_eq_false hp]
    rfl
  · intro _
    refine Ev.step (f := fun k => grant_Check.l1 k q q (q.length : Int) 0) (fun k => ?_) ?_
    · simp only [grant_Check.l0]
      rw [if_neg (by omega)]
    refine Ev.scan (fun k i => grant_Check.l1 k q q (q.length : Int) i) q.length (fun i => pl q (ask q i).f0 = (i : Int)) 7 0 ?_ ?_ ?_
    · intro i hi hp r hr
      refine Ev.stepS (fun k => by simp only [grant_Check.l1]; rw [if_pos (by omega), if_pos (by omega), if_pos (by omega), rd_ask]) ?_
      refine Ev.bindS (prog_of q hq _) ?_
      refine Ev.congr (fun k => if_pos hp) ?_
      rw [w64s hi (by omega)]
      exact hr
    · intro i hi hp
      refine Ev.stepS (fun k => by simp only [grant_Check.l1]; rw [if_pos (by omega), if_pos (by omega), if_pos (by omega), rd_ask]) ?_
      refine Ev.bindS (prog_of q hq _) ?_
      exact Ev.congr (fun k => if_neg hp) (Ev.now _)
    · intro _
      refine Ev.step (f := fun _ => some 0) (fun k => ?_) (Ev.now _)
      simp only [grant_Check.l1]
      rw [if_neg (by omega)]
/-- What a queue without an error is. -/
structure OkQ (q : List S37) : Prop where
  val : ∀ x ∈ q, vA x
  dist : (q.map (·.f0)).Nodup
theorem cq_ok {q : List S37} : cq q = 0 ↔ OkQ q := by
  unfold cq
  constructor
  · intro h
    split at h
    · rename_i hv
      split at h
      · rename_i hd
        refine ⟨fun x hx => ?_, ?_⟩
        · obtain ⟨i, hi, rfl⟩ := List.mem_iff_getElem.1 hx
          have := hv i hi
          rwa [ask_get hi] at this
        · rw [List.nodup_iff_pairwise_ne, List.pairwise_iff_getElem]
          intro i j hi hj hij e
          rw [List.length_map] at hi hj
          rw [List.getElem_map, List.getElem_map] at e
          have h1 := hd j hj
          have h2 := (fst_le (fun x => x.f0 == (ask q j).f0) q 0 i hi (by rw [ask_get hi, ask_get hj, e]; simp)).2
          unfold pl at h1
          omega
      · exact absurd h (by decide)
    · exact absurd h (by decide)
  · intro h
    rw [if_pos (fun i hi => h.val _ (ask_mem hi)), if_pos]
    intro i hi
    have := fst_eq (fun x => x.f0 == (ask q i).f0) q 0 i hi (by simp) (fun m hm => by
      have hn := (List.pairwise_iff_getElem.1 (List.nodup_iff_pairwise_ne.1 h.dist)) m i (by rw [List.length_map]; omega) (by rw [List.length_map]; omega) hm
      rw [List.getElem_map, List.getElem_map] at hn
      have hml : m < q.length := by omega
      rw [ask_get hml, ask_get hi]
      simpa using hn)
    unfold pl
    rw [this]
    omega
theorem OkQ.drop {q : List S37} (h : OkQ q) (i : Nat) : OkQ (q.drop i) := by
  refine ⟨fun x hx => h.val x (List.mem_of_mem_drop hx), ?_⟩
  rw [List.map_drop]
  exact h.dist.sublist (List.drop_sublist _ _)
/-! Short -/
def big (l : List S59) (t : Int) (X : List Nat) : Option Nat := X.find? fun y => decide (t > (acc l y).f4 - (acc l y).f1)
def shE (x : S37) (n a : Int) : Int × Int × Bool × Int :=
  if x.f2 > mx n (-1048576) then (x.f2 - mx n (-1048576), -1, true, 0)
  else if tot x > mx a (-1048576) then (tot x - mx a (-1048576), -1, false, 0) else (0, -1, false, 0)
def shA (x : S37) (l : List S59) (n a : Int) : Int × Int × Bool × Int :=
  match big l (tot x) (pth l x.f1.toNat) with
  | some y => (tot x - ((acc l y).f4 - (acc l y).f1), (y : Int), false, 0)
  | none => shE x n a
def sh (x : S37) (l : List S59) (n a : Int) : Int × Int × Bool × Int :=
  if vA x then (if chk l = 0 then (if x.f1 ≥ (l.length : Int) then (0, 0, false, 6) else shA x l n a) else (0, 0, false, chk l)) else (0, 0, false, 2)
theorem mx_ge (a b : Int) : b ≤ mx a b ∧ a ≤ mx a b := by
  unfold mx
  split <;> omega
theorem prog_short (x : S37) (l : List S59) (n a : Int) : Ev (fun k => grant_Short.f k x.f0 x.f1 x.f2 x.f3 l n a) (sh x l n a) := by

  unfold sh
  refine Ev.congr (fun k => by unfold grant_Short.f; rw [prog_valid]) ?_
  by_cases hv : vA x
  · rw [if_pos hv, decide_eq_true hv]
    refine Ev.bindS (g := fun _ => Option.some true) (Ev.now _) ?_
    refine Ev.congr (fun k => if_pos rfl) ?_
    refine Ev.bindS (prog_check l) ?_
    by_cases hc : chk l = 0
    · rw [if_pos hc]
      refine Ev.congr (fun k => if_pos hc) ?_
      by_cases hl : x.f1 ≥ (l.length : Int)
      · rw [if_pos hl]
        exact Ev.congr (fun k => if_pos hl) (Ev.now _)
      · rw [if_neg hl]
        refine Ev.congr (fun k => if_neg hl) ?_
        have hi : isAt l x.f1 := ⟨hc, hv.2.2.1, by omega⟩
        obtain ⟨p, hp, hpl⟩ := hi.nat
        have ho := chk_ok.1 hc
        have hlt := pth_lt ho hpl
        have hle := pth_len ho p hpl
        have hf := ho.few
        refine Ev.bindS (prog_path l x.f1) ?_
        have hpe : pathI l x.f1 = ints (pth l p) := by unfold pathI; rw [if_pos hi, hp, Int.toNat_natCast]
        rw [hpe]
        have hpx : pth l x.f1.toNat = pth l p := by rw [hp, Int.toNat_natCast]
        unfold shA
        rw [hpx, hv.amt.1]
        obtain ⟨_, t0, t1, _, k0, k1⟩ := hv.amt
        have key : ∀ d i, i + d = (pth l p).length → Ev (fun k => grant_Short.l0 k l n a (tot x) (ints (pth l p)) ((ints (pth l p)).length : Int) (i : Int) x.f0 x.f1 x.f2 x.f3) (match big l (tot x) ((pth l p).drop i) with | some y => (tot x - ((acc l y).f4 - (acc l y).f1), (y : Int), false, 0) | none => shE x n a) := by
          intro d
          induction d with
          | zero =>
            intro i hi
            obtain rfl : i = (pth l p).length := by omega
            rw [List.drop_length]
            refine Ev.stepS (fun k => by simp only [grant_Short.l0]; rw [if_neg (by rw [ints_len]; omega)]) ?_
            show Ev _ (shE x n a)
            have m1 := mx_ge n (-1048576)
            have m2 := mx_ge a (-1048576)
            unfold shE
            by_cases h1 : x.f2 > mx n (-1048576)
            · rw [if_pos h1, if_pos h1]
              rw [w64 (x := x.f2 - mx n (-1048576)) (by omega) (by omega)]
              exact Ev.now _
            · rw [if_neg h1, if_neg h1]
              by_cases h2 : tot x > mx a (-1048576)
              · rw [if_pos h2, if_pos h2]
                rw [w64 (x := tot x - mx a (-1048576)) (by omega) (by omega)]
                exact Ev.now _
              · rw [if_neg h2, if_neg h2]
                exact Ev.now _
          | succ d ih =>
            intro i hi
            have hil : i < (pth l p).length := by omega
            have hx := hlt _ (List.getElem_mem hil)
            have hw := ho.w hx
            obtain ⟨b1, _, _, b4⟩ := ho.amt _ hx
            unfold inR at b1 b4
            rw [List.drop_eq_getElem_cons hil]
            unfold big
            rw [List.find?_cons]
            by_cases h2 : tot x > (acc l (pth l p)[i]).f4 - (acc l (pth l p)[i]).f1
            · rw [decide_eq_true h2]
              refine Ev.step (f := fun _ => some _) (fun k => ?_) (Ev.now _)
              simp only [grant_Short.l0]
              rw [if_pos (by rw [ints_len]; omega), if_pos (by omega), if_pos (by rw [ints_len]; omega), ints_get _ hil, if_pos (by omega), if_pos (by omega), rd_acc, hw, if_pos h2, w64 (x := tot x - ((acc l (pth l p)[i]).f4 - (acc l (pth l p)[i]).f1)) (by omega) (by omega)]
            · rw [decide_eq_false h2]
              refine Ev.step (fun k => ?_) (ih (i + 1) (by omega))
              simp only [grant_Short.l0]
              rw [if_pos (by rw [ints_len]; omega), if_pos (by omega), if_pos (by rw [ints_len]; omega), ints_get _ hil, if_pos (by omega), if_pos (by omega), rd_acc, hw, if_neg h2, w64s hil (by omega)]
        have := key (pth l p).length 0 (by omega)
        rw [List.drop_zero] at this
        exact this
    · rw [if_neg hc]
      exact Ev.congr (fun k => if_neg hc) (Ev.now _)
  · rw [if_neg hv, decide_eq_false hv]
    exact Ev.congr (fun k => rfl) (Ev.now _)

/-! ### Serve -/
/-- The ask can be granted now. -/
def fit (x : S37) (l : List S59) (n a : Int) : Prop := (∀ y ∈ pth l x.f1.toNat, (acc l y).f1 + tot x ≤ (acc l y).f4) ∧ x.f2 ≤ n ∧ tot x ≤ a
instance (x : S37) (l : List S59) (n a : Int) : Decidable (fit x l n a) := by unfold fit; infer_instance
theorem sh_shA {x : S37} {l : List S59} (hv : vA x) (ho : Ok l) (hl : x.f1 < (l.length : Int)) (n a : Int) : sh x l n a = shA x l n a := by
  unfold sh
  rw [if_pos hv, if_pos (chk_ok.2 ho), if_neg (by omega)]
theorem shA_fit {x : S37} {l : List S59} (hv : vA x) (n a : Int) : (shA x l n a).2.2.2 = 0 ∧ 0 ≤ (shA x l n a).1 ∧ ((shA x l n a).1 > 0 ↔ ¬ fit x l n a) := by
  obtain ⟨_, t0, t1, t2, k0, k1⟩ := hv.amt
  unfold shA
  cases hb : big l (tot x) (pth l x.f1.toNat) with
  | some y =>
    have hm := List.mem_of_find?_eq_some hb
    have hp := List.find?_some hb
    simp only [decide_eq_true_eq] at hp
    refine ⟨rfl, by show 0 ≤ tot x - _; omega, ?_⟩
    refine ⟨fun _ hf => ?_, fun _ => by show tot x - _ > 0; omega⟩
    have := hf.1 y hm
    omega
  | none =>
    have hall : ∀ y ∈ pth l x.f1.toNat, (acc l y).f1 + tot x ≤ (acc l y).f4 := fun y hy => by
      have := List.find?_eq_none.1 hb y hy
      simp only [decide_eq_true_eq] at this
      omega
    show (shE x n a).2.2.2 = 0 ∧ 0 ≤ (shE x n a).1 ∧ ((shE x n a).1 > 0 ↔ ¬ fit x l n a)
    unfold shE
    have e1 : x.f2 > mx n (-1048576) ↔ ¬ x.f2 ≤ n := by unfold mx; split <;> omega
    have e2 : tot x > mx a (-1048576) ↔ ¬ tot x ≤ a := by unfold mx; split <;> omega
    by_cases h1 : x.f2 > mx n (-1048576)
    · rw [if_pos h1]
      exact ⟨rfl, by show 0 ≤ x.f2 - _; omega, fun _ hf => e1.1 h1 hf.2.1, fun _ => by show x.f2 - _ > 0; omega⟩
    · rw [if_neg h1]
      by_cases h2 : tot x > mx a (-1048576)
      · rw [if_pos h2]
        exact ⟨rfl, by show 0 ≤ tot x - _; omega, fun _ hf => e2.1 h2 hf.2.2, fun _ => by show tot x - _ > 0; omega⟩
      · rw [if_neg h2]
        refine ⟨rfl, Int.le_refl _, fun h => absurd h (by show ¬ (0 : Int) > 0; omega), fun h => absurd ⟨hall, ?_, ?_⟩ h⟩
        · exact Classical.byContradiction fun z => h1 (e1.2 z)
        · exact Classical.byContradiction fun z => h2 (e2.2 z)
def chq (l : List S59) (x : S37) : List S59 := addAt l (pth l x.f1.toNat) (tot x)
theorem chq_len (l : List S59) (x : S37) : (chq l x).length = l.length := addAt_len _ _ _
theorem fit_chg {x : S37} {l : List S59} {n a : Int} (hv : vA x) (ho : Ok l) (hl : x.f1 < (l.length : Int)) (hf : fit x l n a) : chg l x.f1 (tot x) = (chq l x, -1, 0) ∧ Ok (chq l x) := by
  obtain ⟨_, t0, t1, t2, k0, k1⟩ := hv.amt
  obtain ⟨p, hp⟩ : ∃ p : Nat, x.f1 = (p : Int) := ⟨x.f1.toNat, by have := hv.2.2.1; omega⟩
  have hpl : p < l.length := by omega
  have hfp : ∀ y ∈ pth l p, (acc l y).f1 + tot x ≤ (acc l y).f4 := by have := hf.1; rwa [hp, Int.toNat_natCast] at this
  have hin : inR (tot x) := by
    have h1 := hfp p (pth_self p)
    obtain ⟨b1, _, _, b4⟩ := ho.amt p hpl
    unfold inR at b1 b4 ⊢
    omega
  unfold chq
  rw [hp, Int.toNat_natCast]
  exact ⟨chg_of ho hpl hin hfp, ho.charge hpl t0 hfp⟩
/-- How many asks are granted, and the accounts behind it. -/
def srv : List S37 → List S59 → Int → Int → Nat × List S59
  | [], l, _, _ => (0, l)
  | x :: q, l, n, a => if fit x l n a then ((srv q (chq l x) (n - x.f2) (a - tot x)).1 + 1, (srv q (chq l x) (n - x.f2) (a - tot x)).2) else (0, l)
/-- All asks are valid, and of accounts that are there. -/
def okA (q : List S37) (m : Nat) : Prop := ∀ x ∈ q, vA x ∧ x.f1 < (m : Int)
def i64 (x : Int) : Prop := -9223372036854775808 ≤ x ∧ x ≤ 9223372036854775807
theorem prog_serve_l0 {q : List S37} (hql : q.length ≤ 1000) : ∀ d i (g : List S59) (n a : Int), Ok g → okA q g.length → i64 n → i64 a → i + d = q.length →
    Ev (fun k => grant_Serve.l0 k q n a q (q.length : Int) (i : Int) g) ((i : Int) + ((srv (q.drop i) g n a).1 : Nat), (srv (q.drop i) g n a).2, 0) := by
  intro d
  induction d with
  | zero =>
    intro i g n a ho hq hn ha hi
    obtain rfl : i = q.length := by omega
    rw [List.drop_length]
    refine Ev.step (f := fun _ => some _) (fun k => ?_) (Ev.now _)
    simp only [grant_Serve.l0]
    rw [if_neg (by omega)]
    simp [srv]
  | succ d ih =>
    intro i g n a ho hq hn ha hi
    have hil : i < q.length := by omega
    obtain ⟨hv, hl⟩ := hq _ (ask_mem hil)
    obtain ⟨ht, t0, t1, t2, k0, k1⟩ := hv.amt
    have hsh := shA_fit (l := g) hv n a
    rw [drop_ask hil]
    refine Ev.stepS (fun k => by simp only [grant_Serve.l0]; rw [if_pos (by omega), if_pos (by omega), if_pos (by omega), rd_ask]) ?_
    refine Ev.bindS (prog_short (ask q i) g n a) ?_
    rw [sh_shA hv ho hl]
    unfold srv
    by_cases hf : fit (ask q i) g n a
    · rw [if_pos hf]
      refine Ev.congr (fun k => if_neg (fun h => hsh.2.2.1 h hf)) ?_
      obtain ⟨hc, hok⟩ := fit_chg hv ho hl hf
      rw [ht]
      refine Ev.bindS (prog_charge g (ask q i).f1 (tot (ask q i))) ?_
      rw [hc]
      obtain ⟨_, f2, f3⟩ := hf
      unfold i64 at hn ha
      rw [w64 (x := n - (ask q i).f2) (by omega) (by omega), w64 (x := a - tot (ask q i)) (by omega) (by omega), w64s hil (by omega)]
      have := ih (i + 1) (chq g (ask q i)) (n - (ask q i).f2) (a - tot (ask q i)) hok (by rw [chq_len]; exact hq) (by unfold i64; omega) (by unfold i64; omega) (by omega)
      have e : ((i + 1 : Nat) : Int) + ((srv (q.drop (i + 1)) (chq g (ask q i)) (n - (ask q i).f2) (a - tot (ask q i))).1 : Nat) = (i : Int) + (((srv (q.drop (i + 1)) (chq g (ask q i)) (n - (ask q i).f2) (a - tot (ask q i))).1 + 1 : Nat) : Int) := by omega
      rw [e] at this
      exact this
    · rw [if_neg hf]
      refine Ev.congr (fun k => if_pos (hsh.2.2.2 hf)) ?_
      simp only [Int.natCast_zero, Int.add_zero]
      exact Ev.now _
def svF (q : List S37) (l : List S59) (n a : Int) : Int × List S59 × Int :=
  if cq q = 0 then (if chk l = 0 then (if ∃ x ∈ q, x.f1 ≥ (l.length : Int) then (0, [], 6) else (((srv q l n a).1 : Int), (srv q l n a).2, 0)) else (0, [], chk l)) else (0, [], cq q)
theorem okA_of {q : List S37} {l : List S59} (h : OkQ q) (hn : ¬ ∃ x ∈ q, x.f1 ≥ (l.length : Int)) : okA q l.length := fun x hx => ⟨h.val x hx, by
  by_cases hl : x.f1 < (l.length : Int)
  · exact hl
  · exact absurd ⟨x, hx, by omega⟩ hn⟩
theorem prog_serve {q : List S37} (hq : q.length ≤ 1000) (l : List S59) {n a : Int} (hn : i64 n) (ha : i64 a) : Ev (fun k => grant_Serve.f k q l n a) (svF q l n a) := by
  refine Ev.bindS (prog_cq q hq) ?_
  unfold svF
  by_cases hc : cq q = 0
  · rw [if_pos hc]
    refine Ev.congr (fun k => if_pos hc) ?_
    refine Ev.bindS (prog_check l) ?_
    by_cases hl : chk l = 0
    · rw [if_pos hl]
      refine Ev.congr (fun k => if_pos hl) ?_
      have ho := chk_ok.1 hl
      have hf := ho.few
      refine Ev.bindS (prog_con q hq l) ?_
      by_cases he : ∃ x ∈ q, x.f1 ≥ (l.length : Int)
      · rw [if_pos he, decide_eq_true he]
        exact Ev.congr (fun k => if_pos rfl) (Ev.now _)
      · rw [if_neg he, decide_eq_false he]
        refine Ev.congr (fun k => if_neg (by decide)) ?_
        refine Ev.bindS (g := fun _ => api_Account_44.f l) (Ev.some (fun _ => prog_clone l (by omega))) ?_
        have := prog_serve_l0 hq q.length 0 l n a ho (okA_of (cq_ok.1 hc) he) hn ha (by omega)
        rw [List.drop_zero] at this
        simp only [Int.natCast_zero, Int.zero_add] at this
        exact this
    · rw [if_neg hl]
      exact Ev.congr (fun k => if_neg hl) (Ev.now _)
  · rw [if_neg hc]
    exact Ev.congr (fun k => if_neg hc) (Ev.now _)
theorem svF_ok {q : List S37} {l : List S59} (hq : OkQ q) (ho : Ok l) (ha : okA q l.length) (n a : Int) : svF q l n a = (((srv q l n a).1 : Int), (srv q l n a).2, 0) := by
  unfold svF
  rw [if_pos (cq_ok.2 hq), if_pos (chk_ok.2 ho), if_neg]
  rintro ⟨x, hx, h⟩
  have := (ha x hx).2
  omega
/-! ### What Serve grants: plain laws -/
def sumK (q : List S37) : Int := (q.map (·.f2)).sum
def sumT (q : List S37) : Int := (q.map tot).sum
theorem sumK_cons (x : S37) (q : List S37) : sumK (x :: q) = x.f2 + sumK q := by simp [sumK]
theorem sumT_cons (x : S37) (q : List S37) : sumT (x :: q) = tot x + sumT q := by simp [sumT]
theorem pth_congr {l g : List S59} (h : ∀ i, (acc l i).f0 = (acc g i).f0) : ∀ a, pth l a = pth g a := by
  intro a
  induction a using Nat.strongRecOn with
  | _ a ih =>
    rw [pth.eq_1 l a, pth.eq_1 g a]
    congr 1
    by_cases c : 0 ≤ (acc l a).f0 ∧ (acc l a).f0.toNat < a
    · rw [dif_pos c, dif_pos (by rw [← h a]; exact c), ih _ c.2, h a]
    · rw [dif_neg c, dif_neg (by rw [← h a]; exact c)]
/-- The same tree and bounds, with usages at most as great. -/
structure Less (l g : List S59) : Prop where
  len : l.length = g.length
  par : ∀ i, i < l.length → (acc l i).f0 = (acc g i).f0
  top : ∀ i, i < l.length → (acc l i).f4 = (acc g i).f4
  use : ∀ i, i < l.length → (acc l i).f1 ≤ (acc g i).f1
theorem acc_out {l : List S59} {i : Nat} (h : l.length ≤ i) : acc l i = z59 := by
  unfold acc
  rw [List.getD_eq_getElem?_getD, List.getElem?_eq_none h]
  rfl
theorem Less.pth {l g : List S59} (h : Less l g) (a : Nat) : pth l a = pth g a := by
  refine pth_congr (fun i => ?_) a
  by_cases hi : i < l.length
  · exact h.par i hi
  · have hl := h.len
    rw [acc_out (by omega), acc_out (by omega)]
theorem Less.fit {l g : List S59} (h : Less l g) (hg : Ok g) {x : S37} (hv : vA x) (hx : x.f1 < (g.length : Int)) {n a n' a' : Int} (hn : n ≤ n') (ha : a ≤ a') (hf : fit x g n a) : fit x l n' a' := by
  refine ⟨fun y hy => ?_, by have := hf.2.1; omega, by have := hf.2.2; omega⟩
  rw [h.pth] at hy
  have hp := hv.2.2.1
  have hl := h.len
  have hy' := pth_lt hg (a := x.f1.toNat) (by omega) y hy
  have h1 := hf.1 y hy
  have h2 := h.use y (by omega)
  have h3 := h.top y (by omega)
  omega
theorem Less.chq {l g : List S59} (h : Less l g) (x : S37) : Less (chq l x) (chq g x) := by
  have hl := h.len
  have hp := h.pth x.f1.toNat
  refine ⟨by rw [chq_len, chq_len, hl], fun i hi => ?_, fun i hi => ?_, fun i hi => ?_⟩
  · rw [chq_len] at hi
    unfold Pure.chq
    rw [(addAt_acc_same l _ _ hi).1, (addAt_acc_same g _ _ (by omega)).1]
    exact h.par i hi
  · rw [chq_len] at hi
    unfold Pure.chq
    rw [(addAt_acc_same l _ _ hi).2.2.2, (addAt_acc_same g _ _ (by omega)).2.2.2]
    exact h.top i hi
  · rw [chq_len] at hi
    unfold Pure.chq
    rw [addAt_f1 l _ _ hi, addAt_f1 g _ _ (by omega), hp]
    have := h.use i hi
    split <;> omega
/-! ### Hopeless -/
def hpA (x : S37) (l : List S59) (n a : Int) : Bool :=
  match (pth l x.f1.toNat).find? fun y => decide (tot x > (acc l y).f4) with
  | some _ => true
  | none => if x.f2 > n then true else decide (tot x > a)
def hop (x : S37) (l : List S59) (n a : Int) : Bool := if vA x then (if chk l = 0 then (if x.f1 ≥ (l.length : Int) then true else hpA x l n a) else true) else true
theorem prog_hop (x : S37) (l : List S59) (n a : Int) : Ev (fun k => grant_Hopeless.f k x.f0 x.f1 x.f2 x.f3 l n a) (hop x l n a) := by
  have hbad : Ev (fun k => grant_Hopeless.j0 k l n a true x.f0 x.f1 x.f2 x.f3) true := Ev.step (f := fun _ => some true) (fun k => by simp [grant_Hopeless.j0]) (Ev.now _)
  unfold hop
  refine Ev.congr (fun k => by unfold grant_Hopeless.f; rw [prog_valid]) ?_
  by_cases hv : vA x
  · rw [if_pos hv, decide_eq_true hv]
    refine Ev.bindS (g := fun _ => Option.some true) (Ev.now _) ?_
    refine Ev.congr (fun k => if_pos rfl) ?_
    refine Ev.bindS (prog_check l) ?_
    by_cases hc : chk l = 0
    · rw [if_pos hc]
      refine Ev.congr (fun k => if_pos hc) ?_
      by_cases hl : x.f1 ≥ (l.length : Int)
      · rw [if_pos hl, decide_eq_true hl]
        exact hbad
      · rw [if_neg hl, decide_eq_false hl]
        have hi : isAt l x.f1 := ⟨hc, hv.2.2.1, by omega⟩
        obtain ⟨p, hp, hpl⟩ := hi.nat
        have ho := chk_ok.1 hc
        have hlt := pth_lt ho hpl
        have hle := pth_len ho p hpl
        have hf := ho.few
        have hpe : pathI l x.f1 = ints (pth l p) := by unfold pathI; rw [if_pos hi, hp, Int.toNat_natCast]
        have hpx : pth l x.f1.toNat = pth l p := by rw [hp, Int.toNat_natCast]
        refine Ev.stepS (fun k => by simp only [grant_Hopeless.j0]; rw [if_neg (by decide)]) ?_
        refine Ev.bindS (prog_path l x.f1) ?_
        unfold hpA
        rw [hpe, hpx, hv.amt.1]
        have key : ∀ d i, i + d = (pth l p).length → Ev (fun k => grant_Hopeless.l0 k l n a (tot x) (ints (pth l p)) ((ints (pth l p)).length : Int) (i : Int) x.f0 x.f1 x.f2 x.f3) (match ((pth l p).drop i).find? fun y => decide (tot x > (acc l y).f4) with | some _ => true | none => if x.f2 > n then true else decide (tot x > a)) := by
          intro d
          induction d with
          | zero =>
            intro i hi
            obtain rfl : i = (pth l p).length := by omega
            rw [List.drop_length]
            refine Ev.stepS (fun k => by simp only [grant_Hopeless.l0]; rw [if_neg (by rw [ints_len]; omega)]) ?_
            show Ev _ (if x.f2 > n then true else decide (tot x > a))
            by_cases h1 : x.f2 > n
            · exact Ev.some (fun k => by rw [if_pos h1, if_pos h1])
            · exact Ev.some (fun k => by rw [if_neg h1, if_neg h1])
          | succ d ih =>
            intro i hi
            have hil : i < (pth l p).length := by omega
            have hx := hlt _ (List.getElem_mem hil)
            rw [List.drop_eq_getElem_cons hil, List.find?_cons]
            by_cases h2 : tot x > (acc l (pth l p)[i]).f4
            · rw [decide_eq_true h2]
              refine Ev.step (f := fun _ => some _) (fun k => ?_) (Ev.now _)
              simp only [grant_Hopeless.l0]
              rw [if_pos (by rw [ints_len]; omega), if_pos (by omega), if_pos (by rw [ints_len]; omega), ints_get _ hil, if_pos (by omega), if_pos (by omega), rd_acc, if_pos h2]
            · rw [decide_eq_false h2]
              refine Ev.step (fun k => ?_) (ih (i + 1) (by omega))
              simp only [grant_Hopeless.l0]
              rw [if_pos (by rw [ints_len]; omega), if_pos (by omega), if_pos (by rw [ints_len]; omega), ints_get _ hil, if_pos (by omega), if_pos (by omega), rd_acc, if_neg h2, w64s hil (by omega)]
        have := key (pth l p).length 0 (by omega)
        rw [List.drop_zero] at this
        exact this
    · rw [if_neg hc]
      exact Ev.congr (fun k => if_neg hc) hbad
  · rw [if_neg hv, decide_eq_false hv]
    exact Ev.congr (fun k => rfl) hbad

/-! Push and Cancel -/
theorem clone_ask {q : List S37} (hq : q.length ≤ 1000) : api_Ask_56.f q = some q := by
  simp only [api_Ask_56.f, Option.bind_some, List.length_nil, List.nil_append]
  rw [if_pos (by omega)]
def psh (q : List S37) (x : S37) : List S37 × Int := if cq q = 0 then (if vA x then (if pl q x.f0 ≥ 0 then ([], 7) else (q ++ [x], 0)) else ([], 2)) else ([], cq q)
def can (q : List S37) (n : Int) : List S37 × Int := if cq q = 0 then (if pl q n < 0 then ([], 6) else (q.take (pl q n).toNat ++ q.drop ((pl q n).toNat + 1), 0)) else ([], cq q)
theorem prog_push {q : List S37} (hq : q.length ≤ 999) (x : S37) : Ev (fun k => grant_Push.f k q x.f0 x.f1 x.f2 x.f3) (psh q x) := by
  refine Ev.bindS (prog_cq q (by omega)) ?_
  unfold psh
  by_cases h : cq q = 0
  · rw [if_pos h]
    refine Ev.congr (fun k => if_pos h) ?_
    refine Ev.bindS (Ev.some fun k => prog_valid x) ?_
    by_cases hv : vA x
    · rw [if_pos hv]
      refine Ev.congr (fun k => if_pos (decide_eq_true hv)) ?_
      refine Ev.bindS (prog_of q (by omega) x.f0) ?_
      by_cases hp : pl q x.f0 ≥ 0
      · simp only [if_pos hp]
        exact Ev.now _
      · simp only [if_neg hp]
        refine Ev.bindS (Ev.some fun k => clone_ask (by omega)) ?_
        refine Ev.bindS (g := fun _ => Option.some [x]) (Ev.now _) ?_
        refine Ev.congr (fun k => if_pos ?_) (Ev.now _)
        simp only [List.length_cons, List.length_nil]
        omega
    · rw [if_neg hv]
      exact Ev.congr (fun k => if_neg (by rw [decide_eq_false hv]; decide)) (Ev.now _)
  · rw [if_neg h]
    exact Ev.congr (fun k => if_neg h) (Ev.now _)
theorem prog_cancel {q : List S37} (hq : q.length ≤ 999) (n : Int) : Ev (fun k => grant_Cancel.f k q n) (can q n) := by
  refine Ev.bindS (prog_cq q (by omega)) ?_
  unfold can
  by_cases h : cq q = 0
  · rw [if_pos h]
    refine Ev.congr (fun k => if_pos h) ?_
    refine Ev.bindS (prog_of q (by omega) n) ?_
    by_cases hp : pl q n < 0
    · simp only [if_pos hp]
      exact Ev.now _
    · simp only [if_neg hp]
      refine Ev.bindS (Ev.some fun k => clone_ask (by omega)) ?_
      refine Ev.congr (fun k => if_pos ⟨?_, by omega⟩) (Ev.now _)
      obtain ⟨x, hx, hxn⟩ := (fst_some (fun x => x.f0 == n) q 0).1 (by unfold pl at hp; omega)
      obtain ⟨j, hj, rfl⟩ := List.mem_iff_getElem.1 hx
      have := (fst_le (fun x => x.f0 == n) q 0 j hj (by rw [ask_get hj]; exact hxn)).2
      unfold pl
      omega
  · rw [if_neg h]
    exact Ev.congr (fun k => if_neg h) (Ev.now _)
-- needs prog_push prog_cancel prog_serve prog_uncharge prog_path prog_hop svF_ok okA cq_ok OkQ
-- PARTS: base acc1 acc2 acc3 acc4 acc5 acc6 acc7 same acc8 grant1 grant2 grant4 grant6 grant8
/-- A queue with its accounts and supplies. -/
structure BQ where
  q : List S37
  l : List S59
  n : Int
  a : Int
  nums : Int → Int
  nx : Int
  la : Int
  out : List S39
def bq0 : BQ := ⟨[], [⟨-1, 0, 0, 0, 9⟩, ⟨0, 0, 0, 0, 6⟩, ⟨1, 0, 0, 0, 4⟩], 4, 10, fun _ => 0, 1, 0, []⟩
def lF (u v t : Int) : List S59 := [⟨-1, u, 0, 0, 9⟩, ⟨0, v, 0, 0, 6⟩, ⟨1, t, 0, 0, 4⟩]
def uS (j : Int) (o : List S39) : Int := (o.map fun x => if j ≤ x.f1.f1 then tot x.f1 else 0).sum
def kS (o : List S39) : Int := (o.map fun x => x.f1.f2).sum
def smA (x : S37) : Prop := vA x ∧ x.f1 ≤ 2 ∧ x.f2 ≤ 2 ∧ x.f3 ≤ 3
def lO (o : List S39) : List S59 := lF (uS 0 o) (uS 1 o) (uS 2 o)
theorem smA.b {x : S37} (h : smA x) : 0 ≤ tot x ∧ tot x ≤ 5 ∧ 0 ≤ x.f2 ∧ x.f2 ≤ 2 ∧ x.f2 ≤ tot x ∧ 0 ≤ x.f1 ∧ x.f1 ≤ 2 := by
  obtain ⟨⟨h0, h1, h2, h3, h4⟩, h5, h6, h7⟩ := h
  unfold inR at h3 h4
  unfold tot
  omega
theorem uS_app (j : Int) (o p : List S39) : uS j (o ++ p) = uS j o + uS j p := by simp [uS, List.sum_append]
theorem kS_app (o p : List S39) : kS (o ++ p) = kS o + kS p := by simp [kS, List.sum_append]
theorem uS_cons (j : Int) (x : S39) (o : List S39) : uS j (x :: o) = (if j ≤ x.f1.f1 then tot x.f1 else 0) + uS j o := by simp [uS]
theorem kS_cons (x : S39) (o : List S39) : kS (x :: o) = x.f1.f2 + kS o := by simp [kS]
theorem uS_nn (j : Int) : ∀ o : List S39, (∀ x ∈ o, smA x.f1) → 0 ≤ uS j o
  | [], _ => by simp [uS]
  | x :: o, h => by
    have := uS_nn j o (fun y hy => h y (List.mem_cons_of_mem _ hy))
    have := (h x List.mem_cons_self).b
    rw [uS_cons]
    split <;> omega
theorem kS_le : ∀ o : List S39, (∀ x ∈ o, smA x.f1) → 0 ≤ kS o ∧ kS o ≤ uS 0 o
  | [], _ => by simp [uS, kS]
  | x :: o, h => by
    have := kS_le o (fun y hy => h y (List.mem_cons_of_mem _ hy))
    have := (h x List.mem_cons_self).b
    rw [uS_cons, kS_cons, if_pos (by omega)]
    omega
theorem uS_mono {i j : Int} (hij : j ≤ i) : ∀ o : List S39, (∀ x ∈ o, smA x.f1) → uS i o ≤ uS j o
  | [], _ => by simp [uS]
  | x :: o, h => by
    have := uS_mono hij o (fun y hy => h y (List.mem_cons_of_mem _ hy))
    have := (h x List.mem_cons_self).b
    rw [uS_cons, uS_cons]
    split <;> split <;> omega
/-- What is granted, within the limits. -/
structure Lim (o : List S39) : Prop where
  sm : ∀ x ∈ o, smA x.f1
  h0 : uS 0 o ≤ 9
  h1 : uS 1 o ≤ 6
  h2 : uS 2 o ≤ 4
theorem acc_lF0 (u v t : Int) : acc (lF u v t) 0 = ⟨-1, u, 0, 0, 9⟩ := rfl
theorem acc_lF1 (u v t : Int) : acc (lF u v t) 1 = ⟨0, v, 0, 0, 6⟩ := rfl
theorem acc_lF2 (u v t : Int) : acc (lF u v t) 2 = ⟨1, t, 0, 0, 4⟩ := rfl
theorem kids_lF (u v t : Int) : kids (lF u v t) 0 = v ∧ kids (lF u v t) 1 = t ∧ kids (lF u v t) 2 = 0 := by
  refine ⟨?_, ?_, ?_⟩ <;> simp [kids, kidsTo, lF, acc]
theorem lF_ok {u v t : Int} (h0 : 0 ≤ t) (h1 : t ≤ v) (h2 : v ≤ u) (h3 : u ≤ 9) (h4 : v ≤ 6) (h5 : t ≤ 4) : Ok (lF u v t) := by
  have hc : ∀ i, i < (lF u v t).length → i = 0 ∨ i = 1 ∨ i = 2 := fun i hi => by
    have : i < 3 := hi
    omega
  obtain ⟨k0, k1, k2⟩ := kids_lF u v t
  refine ⟨by simp [lF], by simp [lF], fun i hi => ?_, fun i hi => ?_, ⟨rfl, rfl⟩, fun i hi => ?_, fun i hi => ?_⟩
  · rcases hc i hi with rfl | rfl | rfl
    · exact rfl
    · unfold treeAt
      rw [if_neg (by decide), acc_lF1]
      simp
    · unfold treeAt
      rw [if_neg (by decide), acc_lF2]
      simp
  · rcases hc i hi with rfl | rfl | rfl <;> simp only [amtAt, acc_lF0, acc_lF1, acc_lF2, inR] <;> omega
  · rcases hc i hi with rfl | rfl | rfl <;> simp only [maxAt, acc_lF0, acc_lF1, acc_lF2] <;> omega
  · rcases hc i hi with rfl | rfl | rfl
    · show kids (lF u v t) ((0 : Nat) : Int) ≤ u
      rw [Int.natCast_zero, k0]
      exact h2
    · show kids (lF u v t) ((1 : Nat) : Int) ≤ v
      rw [Int.natCast_one, k1]
      exact h1
    · show kids (lF u v t) ((2 : Nat) : Int) ≤ t
      rw [show ((2 : Nat) : Int) = 2 from rfl, k2]
      exact h0
theorem Lim.ok {o : List S39} (h : Lim o) : Ok (lO o) := lF_ok (uS_nn 2 o h.sm) (uS_mono (by decide) o h.sm) (uS_mono (by decide) o h.sm) h.h0 h.h1 h.h2
theorem pth_lF0 (u v t : Int) : pth (lF u v t) 0 = [0] := by
  rw [pth, dif_neg (by rw [acc_lF0]; simp)]
theorem pth_lF1 (u v t : Int) : pth (lF u v t) 1 = [1, 0] := by
  rw [pth, dif_pos (by rw [acc_lF1]; simp), acc_lF1, show ((0 : Int)).toNat = 0 from rfl, pth_lF0]
theorem pth_lF2 (u v t : Int) : pth (lF u v t) 2 = [2, 1, 0] := by
  rw [pth, dif_pos (by rw [acc_lF2]; simp), acc_lF2, show ((1 : Int)).toNat = 1 from rfl, pth_lF1]
theorem add_lF0 (u v t n : Int) : addAt (lF u v t) [0] n = lF (u + n) v t := rfl
theorem add_lF1 (u v t n : Int) : addAt (lF u v t) [1, 0] n = lF (u + n) (v + n) t := rfl
theorem add_lF2 (u v t n : Int) : addAt (lF u v t) [2, 1, 0] n = lF (u + n) (v + n) (t + n) := rfl
theorem smA.cases {x : S37} (h : smA x) : x.f1 = 0 ∨ x.f1 = 1 ∨ x.f1 = 2 := by
  have := h.b
  omega
/-- What a change of n on the path of an account does. -/
theorem add_path {x : S37} (h : smA x) (u v t n : Int) : addAt (lF u v t) (pth (lF u v t) x.f1.toNat) n = lF (u + if 0 ≤ x.f1 then n else 0) (v + if 1 ≤ x.f1 then n else 0) (t + if 2 ≤ x.f1 then n else 0) := by
  rcases h.cases with e | e | e <;> rw [e]
  · rw [show ((0 : Int)).toNat = 0 from rfl, pth_lF0, add_lF0]
    simp
  · rw [show ((1 : Int)).toNat = 1 from rfl, pth_lF1, add_lF1]
    simp
  · rw [show ((2 : Int)).toNat = 2 from rfl, pth_lF2, add_lF2]
    simp
theorem uS_one (j k : Int) (x : S37) : uS j [(⟨k, x⟩ : S39)] = if j ≤ x.f1 then tot x else 0 := by simp [uS]
theorem chq_lO {x : S37} (h : smA x) (k : Int) (o : List S39) : chq (lO o) x = lO (o ++ [⟨k, x⟩]) := by
  unfold chq lO
  rw [add_path h]
  simp only [uS_app, uS_one]
theorem fit_lO {x : S37} (h : smA x) {o : List S39} (ho : Lim o) {n a : Int} (hf : fit x (lO o) n a) (k : Int) : Lim (o ++ [⟨k, x⟩]) := by
  obtain ⟨h1, _, _⟩ := hf
  refine ⟨fun y hy => ?_, ?_, ?_, ?_⟩
  · rcases List.mem_append.1 hy with hy | hy
    · exact ho.sm y hy
    · rw [List.mem_singleton.1 hy]
      exact h
  all_goals
    rw [uS_app, uS_one]
    have := ho.h0
    have := ho.h1
    have := ho.h2
    unfold lO at h1
    rcases h.cases with e | e | e <;> rw [e] at h1 ⊢
  · rw [show ((0 : Int)).toNat = 0 from rfl, pth_lF0] at h1
    have := h1 0 (by simp)
    simp only [acc_lF0] at this
    simp
    omega
  · rw [show ((1 : Int)).toNat = 1 from rfl, pth_lF1] at h1
    have := h1 0 (by simp)
    simp only [acc_lF0] at this
    simp
    omega
  · rw [show ((2 : Int)).toNat = 2 from rfl, pth_lF2] at h1
    have := h1 0 (by simp)
    simp only [acc_lF0] at this
    simp
    omega
  · simp
    omega
  · rw [show ((1 : Int)).toNat = 1 from rfl, pth_lF1] at h1
    have := h1 1 (by simp)
    simp only [acc_lF1] at this
    simp
    omega
  · rw [show ((2 : Int)).toNat = 2 from rfl, pth_lF2] at h1
    have := h1 1 (by simp)
    simp only [acc_lF1] at this
    simp
    omega
  · simp
    omega
  · simp
    omega
  · rw [show ((2 : Int)).toNat = 2 from rfl, pth_lF2] at h1
    have := h1 2 (by simp)
    simp only [acc_lF2] at this
    simp
    omega
/-- What is granted of a queue. -/
def gr (nums : Int → Int) (q : List S37) : List S39 := q.map fun x => ⟨nums x.f0, x⟩
theorem gr_sums (nums : Int → Int) : ∀ q : List S37, kS (gr nums q) = sumK q ∧ ((∀ x ∈ q, smA x) → uS 0 (gr nums q) = sumT q)
  | [] => ⟨rfl, fun _ => rfl⟩
  | x :: q => by
    obtain ⟨h1, h2⟩ := gr_sums nums q
    refine ⟨?_, fun h => ?_⟩
    · show kS (⟨nums x.f0, x⟩ :: gr nums q) = _
      rw [kS_cons, h1, sumK_cons]
    · show uS 0 (⟨nums x.f0, x⟩ :: gr nums q) = _
      have := (h x List.mem_cons_self).b
      rw [uS_cons, h2 (fun y hy => h y (List.mem_cons_of_mem _ hy)), sumT_cons, if_pos (by simp only; omega)]
theorem srv_lO (nums : Int → Int) : ∀ (q : List S37) (o : List S39) (n a : Int), (∀ x ∈ q, smA x) → Lim o → 0 ≤ n → 0 ≤ a →
    (srv q (lO o) n a).2 = lO (o ++ gr nums (q.take (srv q (lO o) n a).1)) ∧ Lim (o ++ gr nums (q.take (srv q (lO o) n a).1)) ∧ 0 ≤ n - sumK (q.take (srv q (lO o) n a).1) ∧ 0 ≤ a - sumT (q.take (srv q (lO o) n a).1)
  | [], o, n, a, _, ho, hn, ha => by simp [srv, gr, sumK, sumT, ho, hn, ha]
  | x :: q, o, n, a, hq, ho, hn, ha => by
    have hx := hq x List.mem_cons_self
    unfold srv
    by_cases hf : fit x (lO o) n a
    · rw [if_pos hf]
      obtain ⟨_, f2, f3⟩ := id hf
      have ih := srv_lO nums q (o ++ [⟨nums x.f0, x⟩]) (n - x.f2) (a - tot x) (fun y hy => hq y (List.mem_cons_of_mem _ hy)) (fit_lO hx ho hf _) (by omega) (by omega)
      rw [← chq_lO hx (nums x.f0) o] at ih
      simp only [List.take_succ_cons, sumK_cons, sumT_cons]
      have e : ∀ r : List S37, o ++ gr nums (x :: r) = o ++ [⟨nums x.f0, x⟩] ++ gr nums r := fun r => by simp [gr]
      rw [e]
      exact ⟨ih.1, ih.2.1, by have := ih.2.2.1; omega, by have := ih.2.2.2; omega⟩
    · rw [if_neg hf]
      simp [gr, sumK, sumT, ho, hn, ha]
/-- What is left when one of the granted asks is given back. -/
theorem give {o : List S39} {i : Nat} (hi : i < o.length) (j : Int) : uS j (o.take i ++ o.drop (i + 1)) = uS j o - (if j ≤ o[i].f1.f1 then tot o[i].f1 else 0) ∧ kS (o.take i ++ o.drop (i + 1)) = kS o - o[i].f1.f2 := by
  have e : o = o.take i ++ o[i] :: o.drop (i + 1) := by rw [← List.drop_eq_getElem_cons hi, List.take_append_drop]
  constructor
  · conv => rhs; arg 1; rw [e]
    rw [uS_app, uS_app, uS_cons]
    omega
  · conv => rhs; arg 1; rw [e]
    rw [kS_app, kS_app, kS_cons]
    omega
theorem give_lim {o : List S39} (h : Lim o) {i : Nat} (hi : i < o.length) : Lim (o.take i ++ o.drop (i + 1)) := by
  have hs := h.sm o[i] (List.getElem_mem hi)
  have hb := hs.b
  refine ⟨fun x hx => ?_, ?_, ?_, ?_⟩
  · rcases List.mem_append.1 hx with hx | hx
    · exact h.sm x (List.mem_of_mem_take hx)
    · exact h.sm x (List.mem_of_mem_drop hx)
  all_goals
    rw [(give hi _).1]
    have := h.h0
    have := h.h1
    have := h.h2
    split <;> omega
theorem give_unc {o : List S39} (h : Lim o) {i : Nat} (hi : i < o.length) : unc (lO o) o[i].f1.f1 (tot o[i].f1) = (lO (o.take i ++ o.drop (i + 1)), 0) := by
  have hs := h.sm o[i] (List.getElem_mem hi)
  have hb := hs.b
  have ho := h.ok
  have hl := give_lim h hi
  unfold unc
  have hlen : (lO o).length = 3 := rfl
  rw [if_pos (req_zero.2 ⟨⟨chk_ok.2 ho, hb.2.2.2.2.2.1, by rw [hlen]; omega⟩, by unfold inR; omega⟩)]
  rw [if_neg]
  · have e := add_path hs (uS 0 o) (uS 1 o) (uS 2 o) (-(tot o[i].f1))
    have e2 : lO (o.take i ++ o.drop (i + 1)) = addAt (lO o) (pth (lO o) o[i].f1.f1.toNat) (-(tot o[i].f1)) := by
      unfold lO
      rw [e, (give hi 0).1, (give hi 1).1, (give hi 2).1]
      congr 1 <;> split <;> omega
    rw [e2]
  · have m1 := uS_mono (i := 1) (j := 0) (by decide) _ hl.sm
    have m2 := uS_mono (i := 2) (j := 1) (by decide) _ hl.sm
    have m3 := uS_nn 2 _ hl.sm
    rw [(give hi 0).1, (give hi 1).1] at m1
    rw [(give hi 1).1, (give hi 2).1] at m2
    rw [(give hi 2).1] at m3
    obtain ⟨k0, k1, k2⟩ := kids_lF (uS 0 o) (uS 1 o) (uS 2 o)
    rcases hs.cases with e | e | e <;> rw [e] at m1 m2 m3 ⊢
    · show ¬ _ > (acc (lF _ _ _) 0).f1 - kids (lF _ _ _) ((0 : Nat) : Int)
      rw [Int.natCast_zero, k0, acc_lF0]
      simp at m1 m2 m3
      simp only
      omega
    · show ¬ _ > (acc (lF _ _ _) 1).f1 - kids (lF _ _ _) ((1 : Nat) : Int)
      rw [Int.natCast_one, k1, acc_lF1]
      simp at m1 m2 m3
      simp only
      omega
    · show ¬ _ > (acc (lF _ _ _) 2).f1 - kids (lF _ _ _) ((2 : Nat) : Int)
      rw [show ((2 : Nat) : Int) = 2 from rfl, k2, acc_lF2]
      simp at m1 m2 m3
      simp only
      omega
/-- An ask that is not hopeless fits when all has been given back. -/
theorem hop_fit {x : S37} (h : smA x) (hh : hop x (lO []) 4 10 = false) : fit x (lO []) 4 10 := by
  have hb := h.b
  have ho : Ok (lO []) := Lim.ok ⟨by simp, by decide, by decide, by decide⟩
  unfold hop at hh
  rw [if_pos h.1, if_pos (chk_ok.2 ho), if_neg (show ¬ x.f1 ≥ ((lO []).length : Int) from by
    have : ((lO []).length : Int) = 3 := rfl
    omega)] at hh
  unfold hpA at hh
  refine ⟨fun y hy => ?_, by omega, by omega⟩
  cases hf : (pth (lO []) x.f1.toNat).find? fun y => decide (tot x > (acc (lO []) y).f4) with
  | some z =>
    rw [hf] at hh
    exact absurd hh (by simp)
  | none =>
    have := List.find?_eq_none.1 hf y hy
    simp only [decide_eq_true_eq] at this
    have e : (acc (lO []) y).f1 = 0 := by
      have hy2 : y = 0 ∨ y = 1 ∨ y = 2 := by
        have := pth_lt ho (a := x.f1.toNat) (by show _ < 3; omega) y hy
        have : y < 3 := this
        omega
      rcases hy2 with rfl | rfl | rfl <;> rfl
    omega

end Go.Proofs.Ytimlodcdfekbhaa.Pure
