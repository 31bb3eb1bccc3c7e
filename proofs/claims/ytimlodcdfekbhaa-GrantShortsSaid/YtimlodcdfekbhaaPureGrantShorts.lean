/- Short and Hopeless return what the reference's return, for every ask, every list of accounts and all supplies; no condition. -/
import Derived.Test.YtimlodcdfekbhaaPGrantShortsx
import Derived.Test.YtimlodcdfekbhaaQGrantShorts
namespace Go.Proofs.Ytimlodcdfekbhaa.Pure
open Go.RowKit Go.Proofs.Ytimlodcdfekbhaa.PGrantShorts Go.Proofs.YtimlodcdfekbhaaW.PrintWords Go.Proofs.YtimlodcdfekbhaaW.PrintLast Go.Proofs.YtimlodcdfekbhaaW.PrintMore

theorem Ev.bindS {α β : Type} {g : Nat → Option α} {f : Nat → α → Option β} {a : α} {r : β} (h : Ev g a) (k : Ev (fun n => f n a) r) : Ev (fun n => (g n).bind fun x => f n x) r := Ev.bind h k
theorem Ev.some {α : Type} {g : Nat → Option α} {r : α} (h : ∀ k, g k = Option.some r) : Ev g r := Ev.congr h (Ev.now r)
theorem w64 {x : Int} (h0 : -9223372036854775808 ≤ x) (h1 : x ≤ 9223372036854775807) : wrap64 x = x := by
  unfold wrap64
  omega
theorem w64s {i n : Nat} (h : i < n) (hn : n ≤ 1000000) : wrap64 ((i : Int) + 1) = ((i + 1 : Nat) : Int) := by
  unfold wrap64
  omega
/-! ### Accounts: what Check computes, told without the program -/

/-- One round, at a number of rounds that is not zero. -/
theorem Ev.stepS {α : Type} {g f : Nat → Option α} {r : α} (h : ∀ k, g (k + 1) = f k) (k : Ev f r) : Ev g r := Ev.step h k
/-- A loop that looks at one place after the other and ends at the first that is wrong. -/
theorem Ev.scan {β : Type} (g : Nat → Int → Option β) (n : Nat) (P : Nat → Prop) [DecidablePred P] (bad r : β)
    (hgo : ∀ i, i < n → P i → ∀ q, Ev (fun k => g k ((i + 1 : Nat) : Int)) q → Ev (fun k => g k (i : Int)) q)
    (hbad : ∀ i, i < n → ¬ P i → Ev (fun k => g k (i : Int)) bad)
    (hend : (∀ i, i < n → P i) → Ev (fun k => g k (n : Int)) r) :
    Ev (fun k => g k 0) (if ∀ i, i < n → P i then r else bad) := by
  have key : ∀ d i, i + d = n → (∀ j, j < i → P j) → Ev (fun k => g k (i : Int)) (if ∀ i, i < n → P i then r else bad) := by
    intro d
    induction d with
    | zero =>
      intro i hi hp
      obtain rfl : i = n := by omega
      rw [if_pos hp]
      exact hend hp
    | succ d ih =>
      intro i hi hp
      by_cases h : P i
      · refine hgo i (by omega) h _ (ih (i + 1) (by omega) ?_)
        intro j hj
        rcases Nat.lt_succ_iff_lt_or_eq.1 hj with h1 | rfl
        · exact hp j h1
        · exact h
      · rw [if_neg (fun h2 => h (h2 i (by omega)))]
        exact hbad i (by omega) h
  exact key n 0 (by omega) (fun j hj => absurd hj (Nat.not_lt_zero _))



/-- The account at a place. -/
def acc (l : List S59) (i : Nat) : S59 := l.getD i z59
theorem rd_acc (l : List S59) (i : Nat) : rd_T59 l (i : Int) = acc l i := rfl
def inR (x : Int) : Prop := 0 ≤ x ∧ x ≤ 1048576
instance (x : Int) : Decidable (inR x) := by unfold inR; infer_instance
def treeAt (l : List S59) (i : Nat) : Prop := if i = 0 then (acc l i).f0 = -1 else 0 ≤ (acc l i).f0 ∧ (acc l i).f0 < i
instance (l : List S59) (i : Nat) : Decidable (treeAt l i) := by unfold treeAt; infer_instance
def amtAt (l : List S59) (i : Nat) : Prop := inR (acc l i).f1 ∧ inR (acc l i).f2 ∧ inR (acc l i).f3 ∧ inR (acc l i).f4
instance (l : List S59) (i : Nat) : Decidable (amtAt l i) := by unfold amtAt; infer_instance
/-- The sum of f over the places j of 1 .. n - 1 whose Parent is i. -/
def kidsTo (l : List S59) (i : Int) : Nat → Int
  | 0 => 0
  | n + 1 => kidsTo l i n + if n ≥ 1 ∧ (acc l n).f0 = i then (acc l n).f1 else 0
def kids (l : List S59) (i : Int) : Int := kidsTo l i l.length
def rootOk (l : List S59) : Prop := (acc l 0).f2 = 0 ∧ (acc l 0).f3 = 0
instance (l : List S59) : Decidable (rootOk l) := by unfold rootOk; infer_instance
def maxAt (l : List S59) (i : Nat) : Prop := (acc l i).f1 ≤ (acc l i).f4
instance (l : List S59) (i : Nat) : Decidable (maxAt l i) := by unfold maxAt; infer_instance
def ownAt (l : List S59) (i : Nat) : Prop := kids l i ≤ (acc l i).f1
instance (l : List S59) (i : Nat) : Decidable (ownAt l i) := by unfold ownAt; infer_instance
/-- The error of a list of accounts. -/
def chk (l : List S59) : Int :=
  if l.length < 1 ∨ l.length > 8 then 9
  else if ∀ i, i < l.length → treeAt l i then
    if ∀ i, i < l.length → amtAt l i then
      if rootOk l then
        if ∀ i, i < l.length → maxAt l i then
          if ∀ i, i < l.length → ownAt l i then 0 else 11
        else 17
      else 2
    else 2
  else 1
/-- The list is valid. -/
structure Ok (l : List S59) : Prop where
  pos : 1 ≤ l.length
  few : l.length ≤ 8
  tree : ∀ i, i < l.length → treeAt l i
  amt : ∀ i, i < l.length → amtAt l i
  root : rootOk l
  max : ∀ i, i < l.length → maxAt l i
  own : ∀ i, i < l.length → ownAt l i
theorem chk_ok {l : List S59} : chk l = 0 ↔ Ok l := by
  unfold chk
  constructor
  · intro h
    split at h
    · exact absurd h (by decide)
    split at h
    · split at h
      · split at h
        · split at h
          · split at h
            · exact ⟨by omega, by omega, ‹_›, ‹_›, ‹_›, ‹_›, ‹_›⟩
            · exact absurd h (by decide)
          · exact absurd h (by decide)
        · exact absurd h (by decide)
      · exact absurd h (by decide)
    · exact absurd h (by decide)
  · intro h
    have := h.pos
    have := h.few
    rw [if_neg (by omega), if_pos h.tree, if_pos h.amt, if_pos h.root, if_pos h.max, if_pos h.own]
theorem Ok.par0 {l : List S59} (h : Ok l) : (acc l 0).f0 = -1 := by
  have := h.tree 0 h.pos
  simpa [treeAt] using this
theorem Ok.par {l : List S59} (h : Ok l) {i : Nat} (hi : i < l.length) (h0 : i ≠ 0) : 0 ≤ (acc l i).f0 ∧ (acc l i).f0 < i := by
  have := h.tree i hi
  simpa [treeAt, h0] using this

/-! the sums -/
theorem kidsTo_bd {l : List S59} (ha : ∀ i, i < l.length → amtAt l i) (p : Int) : ∀ n, n ≤ l.length → 0 ≤ kidsTo l p n ∧ kidsTo l p n ≤ 1048576 * n
  | 0, _ => ⟨Int.le_refl _, by simp [kidsTo]⟩
  | n + 1, h => by
    have ih := kidsTo_bd ha p n (by omega)
    have hn := (ha n (by omega)).1
    unfold inR at hn
    unfold kidsTo
    split <;> omega

/-! ### The program's Check -/
theorem prog_tree (l : List S59) (hn : l.length ≤ 8) : Ev (fun k => accounts_tree.f k l) (decide (∀ i, i < l.length → treeAt l i)) := by
  have h := Ev.scan (fun k i => accounts_tree.l0 k l (l.length : Int) i) l.length (treeAt l) false true ?_ ?_ ?_
  · refine Ev.congr (fun k => rfl) (f := fun k => accounts_tree.l0 k l (l.length : Int) 0) ?_
    by_cases c : ∀ i, i < l.length → treeAt l i
    · rw [if_pos c] at h; rw [decide_eq_true c]; exact h
    · rw [if_neg c] at h; rw [decide_eq_false c]; exact h
  · intro i hi hp q hq
    refine Ev.step (fun k => ?_) hq
    show accounts_tree.l0 (k + 1) l (l.length : Int) (i : Int) = _
    simp only [accounts_tree.l0]
    rw [if_pos (by omega), if_pos (by omega), if_pos (by omega), rd_acc, w64s hi (by omega)]
    unfold treeAt at hp
    by_cases h0 : i = 0
    · subst h0
      rw [if_pos rfl] at hp
      rw [if_pos (by omega), if_pos hp, if_neg (by omega)]
    · rw [if_neg h0] at hp
      rw [if_neg (by omega), if_pos (by omega), if_neg (by omega), if_neg (by omega)]
  · intro i hi hp
    refine Ev.step (f := fun _ => some false) (fun k => ?_) (Ev.now _)
    show accounts_tree.l0 (k + 1) l (l.length : Int) (i : Int) = _
    simp only [accounts_tree.l0]
    rw [if_pos (by omega), if_pos (by omega), if_pos (by omega), rd_acc]
    unfold treeAt at hp
    by_cases h0 : i = 0
    · subst h0
      rw [if_pos rfl] at hp
      rw [if_pos (by omega), if_neg hp]
    · rw [if_neg h0] at hp
      rw [if_neg (by omega), if_pos (by omega)]
      by_cases h1 : (acc l i).f0 < 0
      · rw [if_pos h1]
      · rw [if_neg h1, if_pos (by omega)]
  · intro _
    refine Ev.step (f := fun _ => some true) (fun k => ?_) (Ev.now _)
    show accounts_tree.l0 (k + 1) l (l.length : Int) (l.length : Int) = _
    simp only [accounts_tree.l0]
    rw [if_neg (by omega)]
theorem prog_in (x : Int) : accounts_in.f x = some (decide (inR x)) := by
  unfold accounts_in.f inR
  by_cases h : x ≥ 0
  · rw [if_pos h]
    simp [h]
  · rw [if_neg h]
    simp [h]
theorem prog_amounts (l : List S59) (h1 : 1 ≤ l.length) (hn : l.length ≤ 8) : Ev (fun k => accounts_amounts.f k l) (decide ((∀ i, i < l.length → amtAt l i) ∧ rootOk l)) := by
  have h := Ev.scan (fun k i => accounts_amounts.l0 k l l (l.length : Int) i) l.length (amtAt l) false (decide (rootOk l)) ?_ ?_ ?_
  · refine Ev.congr (fun k => rfl) (f := fun k => accounts_amounts.l0 k l l (l.length : Int) 0) ?_
    by_cases c : ∀ i, i < l.length → amtAt l i
    · rw [if_pos c] at h
      rw [show decide ((∀ i, i < l.length → amtAt l i) ∧ rootOk l) = decide (rootOk l) by simp [eq_true c]]; exact h
    · rw [if_neg c] at h; rw [decide_eq_false (fun z => c z.1)]; exact h
  · intro i hi hp q hq
    refine Ev.step (fun k => ?_) hq
    show accounts_amounts.l0 (k + 1) l l (l.length : Int) (i : Int) = _
    simp only [accounts_amounts.l0, prog_in]
    rw [if_pos (by omega), if_pos (by omega), if_pos (by omega), rd_acc, w64s hi (by omega)]
    obtain ⟨a, b, c, d⟩ := hp
    simp only [decide_eq_true a, decide_eq_true b, decide_eq_true c, decide_eq_true d, Option.bind_some, if_true]
  · intro i hi hp
    refine Ev.step (f := fun _ => some false) (fun k => ?_) (Ev.now _)
    show accounts_amounts.l0 (k + 1) l l (l.length : Int) (i : Int) = _
    simp only [accounts_amounts.l0, prog_in]
    rw [if_pos (by omega), if_pos (by omega), if_pos (by omega), rd_acc]
    unfold amtAt at hp
    by_cases a : inR (acc l i).f1
    · by_cases b : inR (acc l i).f2
      · by_cases c : inR (acc l i).f3
        · by_cases d : inR (acc l i).f4
          · exact absurd ⟨a, b, c, d⟩ hp
          · simp [a, b, c, d]
        · simp [a, b, c]
      · simp [a, b]
    · simp [a]
  · intro _
    refine Ev.step (f := fun _ => some (decide (rootOk l))) (fun k => ?_) (Ev.now _)
    show accounts_amounts.l0 (k + 1) l l (l.length : Int) (l.length : Int) = _
    simp only [accounts_amounts.l0]
    rw [if_neg (by omega), if_pos (by omega), show rd_T59 l 0 = acc l 0 from rfl]
    unfold rootOk
    by_cases c : (acc l 0).f2 = 0
    · rw [if_pos c]
      by_cases d : (acc l 0).f3 = 0
      · simp [c, d]
      · simp [c, d]
    · rw [if_neg c]
      simp [c]
/-- 'Some Usage is above its Max'. -/
theorem prog_index (l : List S59) (hn : l.length ≤ 8) : ∃ r : Int, Ev (fun k => api_Account_69.f k l) r ∧ (0 ≤ r ↔ ¬ ∀ i, i < l.length → maxAt l i) := by
  have key : ∀ d i, i + d = l.length → (∀ j, j < i → maxAt l j) → ∃ r : Int, Ev (fun k => api_Account_69.l0 k l (l.length : Int) (i : Int)) r ∧ (0 ≤ r ↔ ¬ ∀ i, i < l.length → maxAt l i) := by
    intro d
    induction d with
    | zero =>
      intro i hi hp
      obtain rfl : i = l.length := by omega
      refine ⟨-1, Ev.step (f := fun _ => some (-1)) (fun k => ?_) (Ev.now _), ?_⟩
      · simp only [api_Account_69.l0]
        rw [if_neg (by omega)]
      · constructor
        · intro h; omega
        · intro h; exact absurd hp h
    | succ d ih =>
      intro i hi hp
      by_cases h : maxAt l i
      · obtain ⟨r, hr, hq⟩ := ih (i + 1) (by omega) (fun j hj => by
          rcases Nat.lt_succ_iff_lt_or_eq.1 hj with h1 | rfl
          · exact hp j h1
          · exact h)
        refine ⟨r, Ev.step (fun k => ?_) hr, hq⟩
        simp only [api_Account_69.l0, accounts_Check_1.f]
        unfold maxAt at h
        rw [if_pos (by omega), if_pos (by omega), if_pos (by omega), rd_acc, w64s (n := l.length) (by omega) (by omega)]
        rw [decide_eq_false (show ¬ ((acc l i).f1 > (acc l i).f4) by omega)]
        simp
      · refine ⟨i, Ev.step (f := fun _ => some (i : Int)) (fun k => ?_) (Ev.now _), ?_⟩
        · simp only [api_Account_69.l0, accounts_Check_1.f]
          unfold maxAt at h
          rw [if_pos (by omega), if_pos (by omega), if_pos (by omega), rd_acc]
          rw [decide_eq_true (show ((acc l i).f1 > (acc l i).f4) by omega)]
          simp
        · constructor
          · intro _ h2; exact h (h2 i (by omega))
          · intro _; omega
  exact key l.length 0 (by omega) (fun j hj => absurd hj (Nat.not_lt_zero _))
theorem prog_contains (l : List S59) (hn : l.length ≤ 8) : Ev (fun k => api_Account_50.f k l) (!decide (∀ i, i < l.length → maxAt l i)) := by
  obtain ⟨r, hr, hq⟩ := prog_index l hn
  refine Ev.congr (fun k => rfl) (f := fun k => (api_Account_69.f k l).bind fun t => some (decide (t ≥ 0))) ?_
  refine Ev.bindS hr ?_
  by_cases c : ∀ i, i < l.length → maxAt l i
  · rw [decide_eq_true c]
    have : ¬ (r ≥ 0) := fun h => (hq.1 h) c
    rw [show (fun _ : Nat => some (decide (r ≥ 0))) = fun _ => some false by rw [decide_eq_false this]]
    exact Ev.now _
  · rw [decide_eq_false c]
    have : r ≥ 0 := hq.2 c
    rw [show (fun _ : Nat => some (decide (r ≥ 0))) = fun _ => some true by rw [decide_eq_true this]]
    exact Ev.now _
/-- What own's loop holds after i accounts. -/
def ownTo (l : List S59) (i : Nat) : List Int := (List.range l.length).map fun p => (if p < i then (acc l p).f1 else 0) - kidsTo l (p : Int) i
theorem ownTo_len (l : List S59) (i : Nat) : (ownTo l i).length = l.length := by simp [ownTo]
theorem ownTo_get (l : List S59) (i : Nat) {p : Nat} (hp : p < l.length) : (ownTo l i).getD p 0 = (if p < i then (acc l p).f1 else 0) - kidsTo l (p : Int) i := by
  unfold ownTo
  simp [List.getD, hp]
theorem ownTo_zero (l : List S59) : ownTo l 0 = List.replicate l.length 0 := by
  unfold ownTo
  apply List.ext_getElem?
  intro i
  by_cases hi : i < l.length <;> simp [hi, kidsTo]
theorem ownTo_step0 {l : List S59} (hl : 0 < l.length) : (ownTo l 0).set 0 (acc l 0).f1 = ownTo l 1 := by
  apply List.ext_getElem?
  intro p
  by_cases hp : p < l.length
  · by_cases h0 : p = 0
    · subst h0
      simp [ownTo, hl, kidsTo]
    · rw [List.getElem?_set_ne (by omega)]
      simp [ownTo, hp, kidsTo, h0]
  · simp [ownTo, hp]
theorem ownTo_step {l : List S59} {i q : Nat} (hi : i < l.length) (h0 : i ≠ 0) (hq : (acc l i).f0 = (q : Int)) (hqi : q < i) :
    ((ownTo l i).set i ((ownTo l i).getD i 0 + (acc l i).f1)).set q (((ownTo l i).set i ((ownTo l i).getD i 0 + (acc l i).f1)).getD q 0 - (acc l i).f1) = ownTo l (i + 1) := by
  rw [ownTo_get l i hi, if_neg (by omega)]
  have hg : ((ownTo l i).set i (0 - kidsTo l (i : Int) i + (acc l i).f1)).getD q 0 = (acc l q).f1 - kidsTo l (q : Int) i := by
    rw [List.getD_eq_getElem?_getD, List.getElem?_set_ne (by omega), ← List.getD_eq_getElem?_getD, ownTo_get l i (by omega), if_pos hqi]
  rw [hg]
  apply List.ext_getElem?
  intro p
  by_cases hp : p < l.length
  · by_cases h1 : p = q
    · subst h1
      rw [List.getElem?_set_self (by simp [ownTo_len]; omega)]
      simp only [ownTo, List.getElem?_map, List.getElem?_range hp, Option.map_some, kidsTo]
      rw [if_pos (by omega), if_pos ⟨by omega, hq⟩]
      congr 1
      omega
    · rw [List.getElem?_set_ne (by omega)]
      by_cases h2 : p = i
      · subst h2
        rw [List.getElem?_set_self (by simp [ownTo_len]; omega)]
        simp only [ownTo, List.getElem?_map, List.getElem?_range hp, Option.map_some, kidsTo]
        rw [if_pos (by omega), if_neg (by omega)]
        congr 1
        omega
      · rw [List.getElem?_set_ne (by omega)]
        simp only [ownTo, List.getElem?_map, List.getElem?_range hp, Option.map_some, kidsTo]
        rw [if_neg (show ¬ (i ≥ 1 ∧ (acc l i).f0 = (p : Int)) by omega)]
        congr 1
        by_cases h3 : p < i
        · rw [if_pos h3, if_pos (by omega)]; omega
        · rw [if_neg h3, if_neg (by omega)]; omega
  · simp [ownTo, hp]
theorem prog_own (l : List S59) (hn : l.length ≤ 8) (ht : ∀ i, i < l.length → treeAt l i) (ha : ∀ i, i < l.length → amtAt l i) :
    Ev (fun k => accounts_own.f k l) (ownTo l l.length) := by
  have key : ∀ d i, i + d = l.length → Ev (fun k => accounts_own.l0 k (ownTo l i) l (l.length : Int) (i : Int)) (ownTo l l.length) := by
    intro d
    induction d with
    | zero =>
      intro i hi
      obtain rfl : i = l.length := by omega
      refine Ev.step (f := fun _ => some _) (fun k => ?_) (Ev.now _)
      simp only [accounts_own.l0]
      rw [if_neg (by omega)]
    | succ d ih =>
      intro i hi
      have hil : i < l.length := by omega
      have hai := (ha i hil).1
      unfold inR at hai
      have hbd := kidsTo_bd ha (i : Int) i (by omega)
      refine Ev.step (fun k => ?_) (ih (i + 1) (by omega))
      simp only [accounts_own.l0]
      rw [if_pos (by omega), if_pos (by omega), if_pos (by omega), if_pos (by rw [ownTo_len]; omega), rd_acc, w64s (n := l.length) (by omega) (by omega)]
      have hrd : rd (ownTo l i) (i : Int) = (ownTo l i).getD i 0 := rfl
      have hv : (ownTo l i).getD i 0 = 0 - kidsTo l (i : Int) i := by rw [ownTo_get l i hil, if_neg (by omega)]
      rw [hrd, w64 (by omega) (by omega)]
      simp only [Option.bind_some, Int.toNat_natCast]
      have hti := ht i hil
      unfold treeAt at hti
      by_cases h0 : i = 0
      · subst h0
        rw [if_neg (by omega)]
        rw [hv]
        have e : (0 : Int) - kidsTo l ((0 : Nat) : Int) 0 + (acc l 0).f1 = (acc l 0).f1 := by simp [kidsTo]
        rw [e, ownTo_step0 (by omega)]
      · rw [if_neg h0] at hti
        obtain ⟨q, hq⟩ : ∃ q : Nat, (acc l i).f0 = (q : Int) := ⟨(acc l i).f0.toNat, by omega⟩
        rw [hq] at hti
        rw [if_pos (by omega), hq, if_pos (by omega), if_pos (by simp [ownTo_len]; omega)]
        have haq := (ha q (by omega)).1
        unfold inR at haq
        have hbq := kidsTo_bd ha (q : Int) i (by omega)
        have hrq : rd ((ownTo l i).set i ((ownTo l i).getD i 0 + (acc l i).f1)) (q : Int) = ((ownTo l i).set i ((ownTo l i).getD i 0 + (acc l i).f1)).getD q 0 := rfl
        have hgq : ((ownTo l i).set i ((ownTo l i).getD i 0 + (acc l i).f1)).getD q 0 = (acc l q).f1 - kidsTo l (q : Int) i := by
          rw [List.getD_eq_getElem?_getD, List.getElem?_set_ne (by omega), ← List.getD_eq_getElem?_getD, ownTo_get l i (by omega), if_pos (by omega)]
        rw [hrq, w64 (by omega) (by omega), Int.toNat_natCast, ownTo_step hil h0 hq (by omega)]
  refine Ev.congr (f := fun k => accounts_own.l0 k (ownTo l 0) l (l.length : Int) 0) (fun k => ?_) (key l.length 0 (by omega))
  unfold accounts_own.f
  rw [if_pos (by omega), if_pos (by omega), Int.toNat_natCast, ownTo_zero]
theorem prog_min (xs : List Int) (h1 : 1 ≤ xs.length) (hn : xs.length ≤ 8) : ∃ m : Int, Ev (fun k => slices_Min_int_int.f k xs) m ∧ (0 ≤ m ↔ ∀ i, i < xs.length → 0 ≤ xs.getD i 0) := by
  have key : ∀ d i m, i + d = xs.length → (0 ≤ m ↔ ∀ j, j < i → 0 ≤ xs.getD j 0) → ∃ r : Int, Ev (fun k => slices_Min_int_int.l0 k xs m (i : Int)) r ∧ (0 ≤ r ↔ ∀ i, i < xs.length → 0 ≤ xs.getD i 0) := by
    intro d
    induction d with
    | zero =>
      intro i m hi hp
      obtain rfl : i = xs.length := by omega
      refine ⟨m, Ev.step (f := fun _ => some m) (fun k => ?_) (Ev.now _), hp⟩
      simp only [slices_Min_int_int.l0]
      rw [if_neg (by omega)]
    | succ d ih =>
      intro i m hi hp
      obtain ⟨r, hr, hq⟩ := ih (i + 1) (mn m (xs.getD i 0)) (by omega) (by
        unfold mn
        constructor
        · intro h j hj
          rcases Nat.lt_succ_iff_lt_or_eq.1 hj with h3 | rfl
          · refine hp.1 ?_ j h3
            split at h <;> omega
          · split at h <;> omega
        · intro h
          have h2 := hp.2 (fun j hj => h j (by omega))
          have h3 := h i (by omega)
          split <;> omega)
      refine ⟨r, Ev.step (fun k => ?_) hr, hq⟩
      simp only [slices_Min_int_int.l0]
      rw [if_pos (by omega), if_pos (by omega), w64s (n := xs.length) (by omega) (by omega)]
      rfl
  obtain ⟨r, hr, hq⟩ := key (xs.length - 1) 1 (xs.getD 0 0) (by omega) (by
    constructor
    · intro h j hj
      obtain rfl : j = 0 := by omega
      exact h
    · intro h
      exact h 0 (by omega))
  refine ⟨r, Ev.congr (fun k => ?_) hr, hq⟩
  unfold slices_Min_int_int.f
  rw [if_neg (by omega), if_pos (by omega)]
  rfl
theorem prog_check (l : List S59) : Ev (fun k => accounts_Check.f k l) (chk l) := by
  unfold chk
  by_cases hlen : l.length < 1 ∨ l.length > 8
  · rw [if_pos hlen]
    refine Ev.step (f := fun _ => some 9) (fun k => ?_) (Ev.now _)
    unfold accounts_Check.f
    by_cases h1 : (l.length : Int) < 1
    · rw [if_pos h1]; simp [accounts_Check.j0]
    · rw [if_neg h1, decide_eq_true (by omega)]; simp [accounts_Check.j0]
  · rw [if_neg hlen]
    have hp : 1 ≤ l.length := by omega
    have hn : l.length ≤ 8 := by omega
    refine Ev.step (f := fun k => (accounts_tree.f k l).bind fun t126 => (if t126 = true then ((accounts_amounts.f k l).bind fun t127 => (if t127 = true then ((api_Account_50.f k l).bind fun t128 => (if t128 = true then (some 17) else ((accounts_own.f k l).bind fun t129 => ((slices_Min_int_int.f k t129).bind fun t132 => (if t132 < 0 then (some 11) else (some 0)))))) else (some 2))) else (some 1))) (fun k => ?_) ?_
    · unfold accounts_Check.f
      rw [if_neg (by omega), decide_eq_false (by omega)]
      simp [accounts_Check.j0]
    refine Ev.bindS (prog_tree l hn) ?_
    by_cases ht : ∀ i, i < l.length → treeAt l i
    · rw [if_pos ht, decide_eq_true ht]
      simp only [if_true]
      refine Ev.bindS (prog_amounts l hp hn) ?_
      by_cases ha : ∀ i, i < l.length → amtAt l i
      · rw [if_pos ha]
        by_cases hr : rootOk l
        · rw [if_pos hr, decide_eq_true ⟨ha, hr⟩]
          simp only [if_true]
          refine Ev.bindS (prog_contains l hn) ?_
          by_cases hm : ∀ i, i < l.length → maxAt l i
          · rw [if_pos hm, decide_eq_true hm]
            simp only [Bool.not_true, Bool.false_eq_true, if_false]
            refine Ev.bindS (prog_own l hn ht ha) ?_
            obtain ⟨m, hm1, hm2⟩ := prog_min (ownTo l l.length) (by rw [ownTo_len]; omega) (by rw [ownTo_len]; omega)
            refine Ev.bindS hm1 ?_
            have e : 0 ≤ m ↔ ∀ i, i < l.length → ownAt l i := by
              rw [hm2]
              constructor
              · intro h i hi
                have := h i (by rw [ownTo_len]; omega)
                rw [ownTo_get l _ hi, if_pos hi] at this
                unfold ownAt kids
                omega
              · intro h i hi
                rw [ownTo_len] at hi
                rw [ownTo_get l _ hi, if_pos hi]
                have := h i hi
                unfold ownAt kids at this
                omega
            by_cases ho : ∀ i, i < l.length → ownAt l i
            · rw [if_pos ho]
              exact Ev.some (fun k => by rw [if_neg (by have := e.2 ho; omega)])
            · rw [if_neg ho]
              exact Ev.some (fun k => by rw [if_pos (by have h5 : ¬ 0 ≤ m := fun h => ho (e.1 h); omega)])
          · rw [if_neg hm, decide_eq_false hm]
            exact Ev.some (fun k => rfl)
        · rw [if_neg hr, decide_eq_false (fun h => hr h.2)]
          exact Ev.some (fun k => rfl)
      · rw [if_neg ha, decide_eq_false (fun h => ha h.1)]
        exact Ev.some (fun k => rfl)
    · rw [if_neg ht, decide_eq_false ht]
      exact Ev.some (fun k => rfl)

/-! ### The reference's Check -/
theorem ref_in (x : Int) : estoversref19_in.f x = some (decide (inR x)) := by
  unfold estoversref19_in.f inR
  by_cases h : x ≥ 0
  · rw [if_pos h]
    simp [h]
  · rw [if_neg h]
    simp [h]
theorem ref_kids (l : List S59) (hn : l.length ≤ 8) (h1 : 1 ≤ l.length) (ha : ∀ i, i < l.length → amtAt l i) (p : Int) : Ev (fun k => estoversref19_kids.f k l p) (kids l p) := by
  have key : ∀ d j, j + d = l.length → 1 ≤ j → Ev (fun k => estoversref19_kids.l0 k l p (kidsTo l p j) (j : Int)) (kids l p) := by
    intro d
    induction d with
    | zero =>
      intro j hj _
      obtain rfl : j = l.length := by omega
      refine Ev.step (f := fun _ => some _) (fun k => ?_) (Ev.now _)
      simp only [estoversref19_kids.l0]
      rw [if_neg (by omega)]
      rfl
    | succ d ih =>
      intro j hj h1j
      have hb := kidsTo_bd ha p j (by omega)
      have haj := (ha j (by omega)).1
      unfold inR at haj
      refine Ev.step (fun k => ?_) (ih (j + 1) (by omega) (by omega))
      simp only [estoversref19_kids.l0]
      rw [if_pos (by omega), if_pos (by omega), rd_acc, w64s (n := l.length) (by omega) (by omega)]
      by_cases hc : (acc l j).f0 = p
      · rw [if_pos hc, w64 (by omega) (by omega), kidsTo, if_pos ⟨h1j, hc⟩]
      · rw [if_neg hc, kidsTo, if_neg (fun h => hc h.2), Int.add_zero]
  refine Ev.congr (fun k => ?_) (key (l.length - 1) 1 (by omega) (by omega))
  unfold estoversref19_kids.f
  rfl
theorem ref_l3 (l : List S59) (hn : l.length ≤ 8) (h1 : 1 ≤ l.length) (ha : ∀ i, i < l.length → amtAt l i) :
    Ev (fun k => estoversref19_Check.l3 k l 0) (if ∀ i, i < l.length → ownAt l i then 0 else 11) := by
  refine Ev.scan (fun k i => estoversref19_Check.l3 k l i) l.length (ownAt l) 11 0 ?_ ?_ ?_
  · intro i hi hp q hq
    refine Ev.step (f := fun k => (estoversref19_kids.f k l (i : Int)).bind fun t => (if (acc l i).f1 < t then (some 11) else (estoversref19_Check.l3 k l ((i + 1 : Nat) : Int)))) (fun k => ?_) ?_
    · simp only [estoversref19_Check.l3]
      rw [if_pos (by omega), if_pos (by omega), rd_acc, w64s hi (by omega)]
    · refine Ev.bindS (ref_kids l hn h1 ha (i : Int)) ?_
      unfold ownAt at hp
      exact Ev.congr (fun k => by rw [if_neg (by omega)]) hq
  · intro i hi hp
    refine Ev.step (f := fun k => (estoversref19_kids.f k l (i : Int)).bind fun t => (if (acc l i).f1 < t then (some 11) else (estoversref19_Check.l3 k l ((i + 1 : Nat) : Int)))) (fun k => ?_) ?_
    · simp only [estoversref19_Check.l3]
      rw [if_pos (by omega), if_pos (by omega), rd_acc, w64s hi (by omega)]
    · refine Ev.bindS (ref_kids l hn h1 ha (i : Int)) ?_
      unfold ownAt at hp
      exact Ev.some (fun k => by rw [if_pos (by omega)])
  · intro _
    refine Ev.step (f := fun _ => some 0) (fun k => ?_) (Ev.now _)
    simp only [estoversref19_Check.l3]
    rw [if_neg (by omega)]
theorem ref_l2 (l : List S59) (hn : l.length ≤ 8) (h1 : 1 ≤ l.length) (ha : ∀ i, i < l.length → amtAt l i) :
    Ev (fun k => estoversref19_Check.l2 k l 0) (if ∀ i, i < l.length → maxAt l i then (if ∀ i, i < l.length → ownAt l i then 0 else 11) else 17) := by
  refine Ev.scan (fun k i => estoversref19_Check.l2 k l i) l.length (maxAt l) 17 _ ?_ ?_ ?_
  · intro i hi hp q hq
    refine Ev.step (fun k => ?_) hq
    simp only [estoversref19_Check.l2]
    unfold maxAt at hp
    rw [if_pos (by omega), if_pos (by omega), rd_acc, if_neg (by omega), w64s hi (by omega)]
  · intro i hi hp
    refine Ev.step (f := fun _ => some 17) (fun k => ?_) (Ev.now _)
    simp only [estoversref19_Check.l2]
    unfold maxAt at hp
    rw [if_pos (by omega), if_pos (by omega), rd_acc, if_pos (by omega)]
  · intro _
    refine Ev.step (fun k => ?_) (ref_l3 l hn h1 ha)
    simp only [estoversref19_Check.l2]
    rw [if_neg (by omega)]
theorem ref_l1 (l : List S59) (hn : l.length ≤ 8) (h1 : 1 ≤ l.length) :
    Ev (fun k => estoversref19_Check.l1 k l 0) (if ∀ i, i < l.length → amtAt l i then (if rootOk l then (if ∀ i, i < l.length → maxAt l i then (if ∀ i, i < l.length → ownAt l i then 0 else 11) else 17) else 2) else 2) := by
  refine Ev.scan (fun k i => estoversref19_Check.l1 k l i) l.length (amtAt l) 2 _ ?_ ?_ ?_
  · intro i hi hp q hq
    refine Ev.step (fun k => ?_) hq
    simp only [estoversref19_Check.l1, ref_in]
    rw [if_pos (by omega), if_pos (by omega), rd_acc, w64s hi (by omega)]
    obtain ⟨a, b, c, d⟩ := hp
    simp only [decide_eq_true a, decide_eq_true b, decide_eq_true c, decide_eq_true d, Option.bind_some, if_true]
  · intro i hi hp
    refine Ev.step (f := fun _ => some 2) (fun k => ?_) (Ev.now _)
    simp only [estoversref19_Check.l1, ref_in]
    rw [if_pos (by omega), if_pos (by omega), rd_acc]
    unfold amtAt at hp
    by_cases a : inR (acc l i).f1
    · by_cases b : inR (acc l i).f2
      · by_cases c : inR (acc l i).f3
        · by_cases d : inR (acc l i).f4
          · exact absurd ⟨a, b, c, d⟩ hp
          · simp [a, b, c, d]
        · simp [a, b, c]
      · simp [a, b]
    · simp [a]
  · intro ha
    by_cases hr : rootOk l
    · rw [if_pos hr]
      refine Ev.step (f := fun k => estoversref19_Check.j3 k l false) (fun k => ?_) (Ev.step (fun k => ?_) (ref_l2 l hn h1 ha))
      · simp only [estoversref19_Check.l1]
        rw [if_neg (by omega), if_pos (by omega), show rd_T59 l 0 = acc l 0 from rfl]
        obtain ⟨c, d⟩ := hr
        rw [if_pos c]
        simp [d]
      · simp [estoversref19_Check.j3]
    · rw [if_neg hr]
      refine Ev.step (f := fun k => estoversref19_Check.j3 k l true) (fun k => ?_) (Ev.step (f := fun _ => some 2) (fun k => ?_) (Ev.now _))
      · simp only [estoversref19_Check.l1]
        rw [if_neg (by omega), if_pos (by omega), show rd_T59 l 0 = acc l 0 from rfl]
        unfold rootOk at hr
        by_cases c : (acc l 0).f2 = 0
        · rw [if_pos c]
          have d : (acc l 0).f3 ≠ 0 := fun d => hr ⟨c, d⟩
          rw [bne_iff_ne.2 d]
        · rw [if_neg c]
      · simp [estoversref19_Check.j3]
theorem ref_l0 (l : List S59) (hn : l.length ≤ 8) (h1 : 1 ≤ l.length) :
    Ev (fun k => estoversref19_Check.l0 k l 0) (if ∀ i, i < l.length → treeAt l i then (if ∀ i, i < l.length → amtAt l i then (if rootOk l then (if ∀ i, i < l.length → maxAt l i then (if ∀ i, i < l.length → ownAt l i then 0 else 11) else 17) else 2) else 2) else 1) := by
  refine Ev.scan (fun k i => estoversref19_Check.l0 k l i) l.length (treeAt l) 1 _ ?_ ?_ ?_
  · intro i hi hp q hq
    refine Ev.step (fun k => ?_) hq
    simp only [estoversref19_Check.l0]
    rw [if_pos (by omega), rd_acc, w64s hi (by omega)]
    unfold treeAt at hp
    by_cases h0 : i = 0
    · subst h0
      rw [if_pos rfl] at hp
      rw [if_pos (by omega), if_pos (by omega), if_pos hp, if_neg (by omega)]
    · rw [if_neg h0] at hp
      rw [if_neg (by omega), if_pos (by omega), if_pos (by omega), if_neg (by omega), if_neg (by omega)]
  · intro i hi hp
    refine Ev.step (f := fun _ => some 1) (fun k => ?_) (Ev.now _)
    simp only [estoversref19_Check.l0]
    rw [if_pos (by omega), rd_acc]
    unfold treeAt at hp
    by_cases h0 : i = 0
    · subst h0
      rw [if_pos rfl] at hp
      rw [if_pos (by omega), if_pos (by omega), if_neg hp]
    · rw [if_neg h0] at hp
      rw [if_neg (by omega), if_pos (by omega), if_pos (by omega)]
      by_cases h2 : (acc l i).f0 < 0
      · rw [if_pos h2]
      · rw [if_neg h2, if_pos (by omega)]
  · intro _
    refine Ev.step (fun k => ?_) (ref_l1 l hn h1)
    simp only [estoversref19_Check.l0]
    rw [if_neg (by omega)]
theorem ref_check (l : List S59) : Ev (fun k => estoversref19_Check.f k l) (chk l) := by
  unfold chk
  by_cases hlen : l.length < 1 ∨ l.length > 8
  · rw [if_pos hlen]
    refine Ev.step (f := fun _ => some 9) (fun k => ?_) (Ev.now _)
    unfold estoversref19_Check.f
    by_cases h1 : (l.length : Int) < 1
    · rw [if_pos h1]; simp [estoversref19_Check.j0]
    · rw [if_neg h1, decide_eq_true (by omega)]; simp [estoversref19_Check.j0]
  · rw [if_neg hlen]
    refine Ev.step (fun k => ?_) (ref_l0 l (by omega) (by omega))
    unfold estoversref19_Check.f
    rw [if_neg (by omega), decide_eq_false (by omega)]
    simp [estoversref19_Check.j0]

/-! ### Paths, and what is added on them -/
def pth (l : List S59) (a : Nat) : List Nat :=
  a :: (if _h : 0 ≤ (acc l a).f0 ∧ (acc l a).f0.toNat < a then pth l (acc l a).f0.toNat else [])
termination_by a
def parOf (l : List S59) (a : Nat) : Nat := (acc l a).f0.toNat
theorem Ok.par_lt {l : List S59} (h : Ok l) {a : Nat} (ha : a < l.length) (h0 : a ≠ 0) : parOf l a < a ∧ (acc l a).f0 = (parOf l a : Int) := by
  have := h.par ha h0
  unfold parOf
  omega
theorem pth_zero {l : List S59} (h : Ok l) : pth l 0 = [0] := by
  rw [pth, dif_neg]
  have := h.par0
  omega
theorem pth_succ {l : List S59} (h : Ok l) {a : Nat} (ha : a < l.length) (h0 : a ≠ 0) : pth l a = a :: pth l (parOf l a) := by
  rw [pth, dif_pos]
  · rfl
  · have := h.par ha h0
    omega
theorem pth_le {l : List S59} (h : Ok l) : ∀ a, a < l.length → ∀ x ∈ pth l a, x ≤ a := by
  intro a
  induction a using Nat.strongRecOn with
  | _ a ih =>
    intro ha x hx
    by_cases h0 : a = 0
    · subst h0
      rw [pth_zero h] at hx
      simp at hx
      omega
    · rw [pth_succ h ha h0] at hx
      have hp := h.par_lt ha h0
      rcases List.mem_cons.1 hx with rfl | hx
      · exact Nat.le_refl _
      · have := ih _ hp.1 (by omega) x hx
        omega
theorem pth_len {l : List S59} (h : Ok l) : ∀ a, a < l.length → (pth l a).length ≤ a + 1 := by
  intro a
  induction a using Nat.strongRecOn with
  | _ a ih =>
    intro ha
    by_cases h0 : a = 0
    · subst h0
      rw [pth_zero h]
      simp
    · rw [pth_succ h ha h0]
      have hp := h.par_lt ha h0
      have := ih _ hp.1 (by omega)
      simp only [List.length_cons]
      omega
theorem pth_lt {l : List S59} (h : Ok l) {a : Nat} (ha : a < l.length) : ∀ x ∈ pth l a, x < l.length := fun x hx => by
  have := pth_le h a ha x hx
  omega
/-! ### The program's and the reference's functions on paths -/
def ints (X : List Nat) : List Int := X.map fun (x : Nat) => (x : Int)
theorem ints_len (X : List Nat) : (ints X).length = X.length := by simp [ints]
theorem ints_get (X : List Nat) {j : Nat} (hj : j < X.length) : rd (ints X) (j : Int) = (X[j] : Int) := by
  show (ints X).getD j 0 = _
  unfold ints
  simp [List.getD, hj]
/-- There is such an account. -/
def isAt (l : List S59) (a : Int) : Prop := chk l = 0 ∧ 0 ≤ a ∧ a < l.length
instance (l : List S59) (a : Int) : Decidable (isAt l a) := by unfold isAt; infer_instance
theorem isAt.nat {l : List S59} {a : Int} (h : isAt l a) : ∃ n : Nat, a = (n : Int) ∧ n < l.length := ⟨a.toNat, by have := h.2; omega, by have := h.2; omega⟩
def pathI (l : List S59) (a : Int) : List Int := if isAt l a then ints (pth l a.toNat) else []
theorem prog_is (l : List S59) (a : Int) : Ev (fun k => accounts_is.f k l a) (decide (isAt l a)) := by
  refine Ev.bindS (prog_check l) ?_
  by_cases h : chk l = 0
  · refine Ev.some (fun k => ?_)
    rw [if_pos h]
    by_cases h1 : a ≥ 0
    · rw [if_pos h1]
      congr 1
      exact decide_eq_decide.2 ⟨fun h2 => ⟨h, h1, h2⟩, fun h2 => h2.2.2⟩
    · rw [if_neg h1, decide_eq_false (show ¬ isAt l a from fun h2 => h1 h2.2.1)]
  · refine Ev.some (fun k => ?_)
    rw [if_neg h, decide_eq_false (show ¬ isAt l a from fun h2 => h h2.1)]
theorem prog_path_l0 {l : List S59} (h : Ok l) : ∀ a, a < l.length → ∀ xs : List Int, xs.length + a ≤ 1000 → Ev (fun k => accounts_Path.l0 k l xs (a : Int)) (xs ++ ints (pth l a)) := by
  intro a
  induction a using Nat.strongRecOn with
  | _ a ih =>
    intro ha xs hx
    by_cases h0 : a = 0
    · subst h0
      refine Ev.step (f := fun k => accounts_Path.l0 k l (xs ++ [0]) (-1)) (fun k => ?_) ?_
      · simp only [accounts_Path.l0]
        rw [if_pos (by omega), if_pos (by omega), if_pos (by omega), if_pos (by omega), rd_acc, h.par0]
        rfl
      · refine Ev.step (f := fun _ => some (xs ++ [0])) (fun k => ?_) ?_
        · simp only [accounts_Path.l0]
          rw [if_neg (by omega)]
        · rw [pth_zero h]
          exact Ev.now _
    · have hp := h.par_lt ha h0
      have hq := ih _ hp.1 (by omega) (xs ++ [(a : Int)]) (by simp; omega)
      rw [pth_succ h ha h0]
      have e : xs ++ ints (a :: pth l (parOf l a)) = xs ++ [(a : Int)] ++ ints (pth l (parOf l a)) := by simp [ints]
      rw [e]
      refine Ev.step (fun k => ?_) hq
      simp only [accounts_Path.l0]
      rw [if_pos (by omega), if_pos (by omega), if_pos (by omega), if_pos (by omega), rd_acc, hp.2]
theorem prog_path (l : List S59) (a : Int) : Ev (fun k => accounts_Path.f k l a) (pathI l a) := by
  refine Ev.bindS (prog_is l a) ?_
  unfold pathI
  by_cases h : isAt l a
  · rw [if_pos h, decide_eq_true h]
    refine Ev.congr (fun k => if_pos rfl) ?_
    obtain ⟨n, rfl, hn⟩ := h.nat
    have ho := chk_ok.1 h.1
    have := ho.few
    exact prog_path_l0 ho n hn [] (by simp; omega)
  · rw [if_neg h, decide_eq_false h]
    exact Ev.some (fun k => rfl)
theorem Ok.w {l : List S59} (h : Ok l) {x : Nat} (hx : x < l.length) : wrap64 ((acc l x).f4 - (acc l x).f1) = (acc l x).f4 - (acc l x).f1 := by
  obtain ⟨a1, _, _, a4⟩ := h.amt x hx
  unfold inR at a1 a4
  exact w64 (by omega) (by omega)
/-! ### The reference's functions on paths -/
theorem ref_has (l : List S59) (a : Int) : Ev (fun k => estoversref19_has.f k l a) (decide (isAt l a)) := by
  refine Ev.bindS (ref_check l) ?_
  by_cases h : chk l = 0
  · refine Ev.some (fun k => ?_)
    rw [if_pos h]
    by_cases h1 : a ≥ 0
    · rw [if_pos h1]
      congr 1
      exact decide_eq_decide.2 ⟨fun h2 => ⟨h, h1, h2⟩, fun h2 => h2.2.2⟩
    · rw [if_neg h1, decide_eq_false (show ¬ isAt l a from fun h2 => h1 h2.2.1)]
  · refine Ev.some (fun k => ?_)
    rw [if_neg h, decide_eq_false (show ¬ isAt l a from fun h2 => h h2.1)]
theorem ref_path_l0 {l : List S59} (h : Ok l) : ∀ a, a < l.length → ∀ xs : List Int, xs.length + a ≤ 1000 → Ev (fun k => estoversref19_Path.l0 k l (a : Int) xs) (xs ++ ints (pth l a)) := by
  intro a
  induction a using Nat.strongRecOn with
  | _ a ih =>
    intro ha xs hx
    by_cases h0 : a = 0
    · subst h0
      refine Ev.step (f := fun k => estoversref19_Path.l0 k l (-1) (xs ++ [0])) (fun k => ?_) ?_
      · simp only [estoversref19_Path.l0]
        rw [if_pos (by omega), if_pos (by omega), if_pos (by omega), if_pos (by omega), rd_acc, h.par0]
        rfl
      · refine Ev.step (f := fun _ => some (xs ++ [0])) (fun k => ?_) ?_
        · simp only [estoversref19_Path.l0]
          rw [if_neg (by omega)]
        · rw [pth_zero h]
          exact Ev.now _
    · have hp := h.par_lt ha h0
      have hq := ih _ hp.1 (by omega) (xs ++ [(a : Int)]) (by simp; omega)
      rw [pth_succ h ha h0]
      have e : xs ++ ints (a :: pth l (parOf l a)) = xs ++ [(a : Int)] ++ ints (pth l (parOf l a)) := by simp [ints]
      rw [e]
      refine Ev.step (fun k => ?_) hq
      simp only [estoversref19_Path.l0]
      rw [if_pos (by omega), if_pos (by omega), if_pos (by omega), if_pos (by omega), rd_acc, hp.2]
theorem ref_path (l : List S59) (a : Int) : Ev (fun k => estoversref19_Path.f k l a) (pathI l a) := by
  refine Ev.bindS (ref_has l a) ?_
  unfold pathI
  by_cases h : isAt l a
  · rw [if_pos h, decide_eq_true h]
    refine Ev.congr (fun k => if_pos rfl) ?_
    obtain ⟨n, rfl, hn⟩ := h.nat
    have ho := chk_ok.1 h.1
    have := ho.few
    exact ref_path_l0 ho n hn [] (by simp; omega)
  · rw [if_neg h, decide_eq_false h]
    exact Ev.some (fun k => rfl)

/-! ### Charges of the program -/
/-! ### Asks -/
theorem aw21 : Ev (fun k => estoverslaw21_awake.f k) true := Ev.of (fun k => estoverslaw21_awake.mono k) (k := 60) (by kernel_rfl)
def ask (q : List S37) (i : Nat) : S37 := q.getD i z37
def vA (x : S37) : Prop := 0 ≤ x.f0 ∧ x.f0 < 8 ∧ 0 ≤ x.f1 ∧ inR x.f2 ∧ inR x.f3
instance (x : S37) : Decidable (vA x) := by unfold vA; infer_instance
def tot (x : S37) : Int := x.f2 + x.f3
theorem vA.amt {x : S37} (h : vA x) : wrap64 (x.f2 + x.f3) = tot x ∧ 0 ≤ tot x ∧ tot x ≤ 2097152 ∧ x.f2 ≤ tot x ∧ 0 ≤ x.f2 ∧ x.f2 ≤ 1048576 := by
  obtain ⟨_, _, _, h2, h3⟩ := h
  unfold inR at h2 h3
  unfold tot
  exact ⟨w64 (by omega) (by omega), by omega, by omega, by omega, by omega, by omega⟩
theorem prog_gin (x : Int) : grant_in.f x = some (decide (inR x)) := by
  unfold grant_in.f inR
  by_cases h : x ≥ 0
  · rw [if_pos h]
    congr 1
    exact decide_eq_decide.2 (by omega)
  · rw [if_neg h]
    congr 1
    exact (decide_eq_false (by omega)).symm
theorem prog_valid (x : S37) : grant_valid.f x.f0 x.f1 x.f2 x.f3 = some (decide (vA x)) := by
  unfold grant_valid.f
  simp only [prog_gin, Option.bind_some]
  by_cases h0 : x.f0 ≥ 0
  · rw [if_pos h0]
    by_cases h1 : x.f0 < 8
    · rw [if_pos h1]
      by_cases h2 : x.f1 ≥ 0
      · rw [if_pos h2]
        by_cases h3 : inR x.f2
        · rw [if_pos (decide_eq_true h3)]
          congr 1
          exact decide_eq_decide.2 ⟨fun h => ⟨h0, h1, h2, h3, h⟩, fun h => h.2.2.2.2⟩
        · rw [if_neg (by simp [h3]), decide_eq_false (fun h : vA x => h3 h.2.2.2.1)]
      · rw [if_neg h2, decide_eq_false (fun h : vA x => h2 h.2.2.1)]
    · rw [if_neg h1, decide_eq_false (fun h : vA x => h1 h.2.1)]
  · rw [if_neg h0, decide_eq_false (fun h : vA x => h0 h.1)]
theorem ref_valid (x : S37) : estoversref21_Valid.f x.f0 x.f1 x.f2 x.f3 = some (decide (vA x)) := by
  unfold estoversref21_Valid.f
  by_cases h0 : x.f0 ≥ 0
  · rw [if_pos h0]
    by_cases h1 : x.f0 < 8
    · rw [if_pos h1]
      by_cases h2 : x.f1 ≥ 0
      · rw [if_pos h2]
        by_cases h3 : x.f2 ≥ 0
        · rw [if_pos h3]
          by_cases h4 : x.f2 ≤ 1048576
          · rw [if_pos h4]
            by_cases h5 : x.f3 ≥ 0
            · rw [if_pos h5]
              congr 1
              exact decide_eq_decide.2 ⟨fun h => ⟨h0, h1, h2, ⟨h3, h4⟩, h5, h⟩, fun h => h.2.2.2.2.2⟩
            · rw [if_neg h5, decide_eq_false (fun h : vA x => h5 h.2.2.2.2.1)]
          · rw [if_neg h4, decide_eq_false (fun h : vA x => h4 h.2.2.2.1.2)]
        · rw [if_neg h3, decide_eq_false (fun h : vA x => h3 h.2.2.2.1.1)]
      · rw [if_neg h2, decide_eq_false (fun h : vA x => h2 h.2.2.1)]
    · rw [if_neg h1, decide_eq_false (fun h : vA x => h1 h.2.1)]
  · rw [if_neg h0, decide_eq_false (fun h : vA x => h0 h.1)]
/-! the first place -/
def fst (p : S37 → Bool) : List S37 → Nat → Int
  | [], _ => -1
  | x :: q, i => if p x = true then (i : Int) else fst p q (i + 1)
def pl (q : List S37) (n : Int) : Int := fst (fun x => x.f0 == n) q 0
/-! Check -/
def dq (q : List S37) : Prop := ∀ i, i < q.length → pl q (ask q i).f0 = (i : Int)
instance (q : List S37) : Decidable (dq q) := by unfold dq; infer_instance
/-- What a queue without an error is. -/
structure OkQ (q : List S37) : Prop where
  val : ∀ x ∈ q, vA x
  dist : (q.map (·.f0)).Nodup
theorem OkQ.drop {q : List S37} (h : OkQ q) (i : Nat) : OkQ (q.drop i) := by
  refine ⟨fun x hx => h.val x (List.mem_of_mem_drop hx), ?_⟩
  rw [List.map_drop]
  exact h.dist.sublist (List.drop_sublist _ _)
/-! Short -/
def big (l : List S59) (t : Int) (X : List Nat) : Option Nat := X.find? fun y => decide (t > (acc l y).f4 - (acc l y).f1)
def shE (x : S37) (n a : Int) : Int × Int × Bool × Int :=
  if x.f2 > mx n (-1048576) then (x.f2 - mx n (-1048576), -1, true, 0)
  else if tot x > mx a (-1048576) then (tot x - mx a (-1048576), -1, false, 0) else (0, -1, false, 0)
def shA (x : S37) (l : List S59) (n a : Int) : Int × Int × Bool × Int :=
  match big l (tot x) (pth l x.f1.toNat) with
  | some y => (tot x - ((acc l y).f4 - (acc l y).f1), (y : Int), false, 0)
  | none => shE x n a
def sh (x : S37) (l : List S59) (n a : Int) : Int × Int × Bool × Int :=
  if vA x then (if chk l = 0 then (if x.f1 ≥ (l.length : Int) then (0, 0, false, 6) else shA x l n a) else (0, 0, false, chk l)) else (0, 0, false, 2)
theorem mx_ge (a b : Int) : b ≤ mx a b ∧ a ≤ mx a b := by
  unfold mx
  split <;> omega
theorem prog_short (x : S37) (l : List S59) (n a : Int) : Ev (fun k => grant_Short.f k x.f0 x.f1 x.f2 x.f3 l n a) (sh x l n a) := by

  unfold sh
  refine Ev.congr (fun k => by unfold grant_Short.f; rw [prog_valid]) ?_
  by_cases hv : vA x
  · rw [if_pos hv, decide_eq_true hv]
    refine Ev.bindS (g := fun _ => Option.some true) (Ev.now _) ?_
    refine Ev.congr (fun k => if_pos rfl) ?_
    refine Ev.bindS (prog_check l) ?_
    by_cases hc : chk l = 0
    · rw [if_pos hc]
      refine Ev.congr (fun k => if_pos hc) ?_
      by_cases hl : x.f1 ≥ (l.length : Int)
      · rw [if_pos hl]
        exact Ev.congr (fun k => if_pos hl) (Ev.now _)
      · rw [if_neg hl]
        refine Ev.congr (fun k => if_neg hl) ?_
        have hi : isAt l x.f1 := ⟨hc, hv.2.2.1, by omega⟩
        obtain ⟨p, hp, hpl⟩ := hi.nat
        have ho := chk_ok.1 hc
        have hlt := pth_lt ho hpl
        have hle := pth_len ho p hpl
        have hf := ho.few
        refine Ev.bindS (prog_path l x.f1) ?_
        have hpe : pathI l x.f1 = ints (pth l p) := by unfold pathI; rw [if_pos hi, hp, Int.toNat_natCast]
        rw [hpe]
        have hpx : pth l x.f1.toNat = pth l p := by rw [hp, Int.toNat_natCast]
        unfold shA
        rw [hpx, hv.amt.1]
        obtain ⟨_, t0, t1, _, k0, k1⟩ := hv.amt
        have key : ∀ d i, i + d = (pth l p).length → Ev (fun k => grant_Short.l0 k l n a (tot x) (ints (pth l p)) ((ints (pth l p)).length : Int) (i : Int) x.f0 x.f1 x.f2 x.f3) (match big l (tot x) ((pth l p).drop i) with | some y => (tot x - ((acc l y).f4 - (acc l y).f1), (y : Int), false, 0) | none => shE x n a) := by
          intro d
          induction d with
          | zero =>
            intro i hi
            obtain rfl : i = (pth l p).length := by omega
            rw [List.drop_length]
            refine Ev.stepS (fun k => by simp only [grant_Short.l0]; rw [if_neg (by rw [ints_len]; omega)]) ?_
            show Ev _ (shE x n a)
            have m1 := mx_ge n (-1048576)
            have m2 := mx_ge a (-1048576)
            unfold shE
            by_cases h1 : x.f2 > mx n (-1048576)
            · rw [if_pos h1, if_pos h1]
              rw [w64 (x := x.f2 - mx n (-1048576)) (by omega) (by omega)]
              exact Ev.now _
            · rw [if_neg h1, if_neg h1]
              by_cases h2 : tot x > mx a (-1048576)
              · rw [if_pos h2, if_pos h2]
                rw [w64 (x := tot x - mx a (-1048576)) (by omega) (by omega)]
                exact Ev.now _
              · rw [if_neg h2, if_neg h2]
                exact Ev.now _
          | succ d ih =>
            intro i hi
            have hil : i < (pth l p).length := by omega
            have hx := hlt _ (List.getElem_mem hil)
            have hw := ho.w hx
            obtain ⟨b1, _, _, b4⟩ := ho.amt _ hx
            unfold inR at b1 b4
            rw [List.drop_eq_getElem_cons hil]
            unfold big
            rw [List.find?_cons]
            by_cases h2 : tot x > (acc l (pth l p)[i]).f4 - (acc l (pth l p)[i]).f1
            · rw [decide_eq_true h2]
              refine Ev.step (f := fun _ => some _) (fun k => ?_) (Ev.now _)
              simp only [grant_Short.l0]
              rw [if_pos (by rw [ints_len]; omega), if_pos (by omega), if_pos (by rw [ints_len]; omega), ints_get _ hil, if_pos (by omega), if_pos (by omega), rd_acc, hw, if_pos h2, w64 (x := tot x - ((acc l (pth l p)[i]).f4 - (acc l (pth l p)[i]).f1)) (by omega) (by omega)]
            · rw [decide_eq_false h2]
              refine Ev.step (fun k => ?_) (ih (i + 1) (by omega))
              simp only [grant_Short.l0]
              rw [if_pos (by rw [ints_len]; omega), if_pos (by omega), if_pos (by rw [ints_len]; omega), ints_get _ hil, if_pos (by omega), if_pos (by omega), rd_acc, hw, if_neg h2, w64s hil (by omega)]
        have := key (pth l p).length 0 (by omega)
        rw [List.drop_zero] at this
        exact this
    · rw [if_neg hc]
      exact Ev.congr (fun k => if_neg hc) (Ev.now _)
  · rw [if_neg hv, decide_eq_false hv]
    exact Ev.congr (fun k => rfl) (Ev.now _)

/-! ### Serve -/
/-- The ask can be granted now. -/
def fit (x : S37) (l : List S59) (n a : Int) : Prop := (∀ y ∈ pth l x.f1.toNat, (acc l y).f1 + tot x ≤ (acc l y).f4) ∧ x.f2 ≤ n ∧ tot x ≤ a
instance (x : S37) (l : List S59) (n a : Int) : Decidable (fit x l n a) := by unfold fit; infer_instance
/-! ### The reference -/
theorem ref_tot21 {x : S37} (hv : vA x) : estoversref21_Total.f x.f0 x.f1 x.f2 x.f3 = some (tot x) := by
  unfold estoversref21_Total.f
  rw [hv.amt.1]
theorem ref_short (x : S37) (l : List S59) (n a : Int) : Ev (fun k => estoversref21_Short.f k x.f0 x.f1 x.f2 x.f3 l n a) (sh x l n a) := by
  unfold sh
  refine Ev.congr (fun k => by unfold estoversref21_Short.f; rw [ref_valid]) ?_
  by_cases hv : vA x
  · rw [if_pos hv, decide_eq_true hv]
    refine Ev.bindS (g := fun _ => Option.some true) (Ev.now _) ?_
    refine Ev.congr (fun k => if_pos rfl) ?_
    refine Ev.bindS (ref_check l) ?_
    by_cases hc : chk l = 0
    · rw [if_pos hc]
      refine Ev.congr (fun k => if_pos hc) ?_
      by_cases hl : x.f1 ≥ (l.length : Int)
      · rw [if_pos hl]
        exact Ev.congr (fun k => if_pos hl) (Ev.now _)
      · rw [if_neg hl]
        refine Ev.congr (fun k => if_neg hl) ?_
        have hi : isAt l x.f1 := ⟨hc, hv.2.2.1, by omega⟩
        obtain ⟨p, hp, hpl⟩ := hi.nat
        have ho := chk_ok.1 hc
        have hlt := pth_lt ho hpl
        have hle := pth_len ho p hpl
        have hf := ho.few
        refine Ev.bindS (ref_path l x.f1) ?_
        have hpe : pathI l x.f1 = ints (pth l p) := by unfold pathI; rw [if_pos hi, hp, Int.toNat_natCast]
        rw [hpe]
        have hpx : pth l x.f1.toNat = pth l p := by rw [hp, Int.toNat_natCast]
        unfold shA
        rw [hpx]
        have hT := ref_tot21 hv
        obtain ⟨_, t0, t1, _, k0, k1⟩ := hv.amt
        have key : ∀ d i, i + d = (pth l p).length → Ev (fun k => estoversref21_Short.l0 k l n a (ints (pth l p)) (i : Int) x.f0 x.f1 x.f2 x.f3) (match big l (tot x) ((pth l p).drop i) with | some y => (tot x - ((acc l y).f4 - (acc l y).f1), (y : Int), false, 0) | none => shE x n a) := by
          intro d
          induction d with
          | zero =>
            intro i hi
            obtain rfl : i = (pth l p).length := by omega
            rw [List.drop_length]
            refine Ev.stepS (fun k => by simp only [estoversref21_Short.l0, hT, Option.bind_some]; rw [if_neg (by rw [ints_len]; omega)]) ?_
            show Ev _ (shE x n a)
            have m1 := mx_ge n (-1048576)
            have m2 := mx_ge a (-1048576)
            unfold shE
            by_cases h1 : x.f2 > mx n (-1048576)
            · rw [if_pos h1, if_pos h1]
              rw [w64 (x := x.f2 - mx n (-1048576)) (by omega) (by omega)]
              exact Ev.now _
            · rw [if_neg h1, if_neg h1]
              by_cases h2 : tot x > mx a (-1048576)
              · rw [if_pos h2, if_pos h2]
                rw [w64 (x := tot x - mx a (-1048576)) (by omega) (by omega)]
                exact Ev.now _
              · rw [if_neg h2, if_neg h2]
                exact Ev.now _
          | succ d ih =>
            intro i hi
            have hil : i < (pth l p).length := by omega
            have hx := hlt _ (List.getElem_mem hil)
            have hw := ho.w hx
            obtain ⟨b1, _, _, b4⟩ := ho.amt _ hx
            unfold inR at b1 b4
            rw [List.drop_eq_getElem_cons hil]
            unfold big
            rw [List.find?_cons]
            by_cases h2 : tot x > (acc l (pth l p)[i]).f4 - (acc l (pth l p)[i]).f1
            · rw [decide_eq_true h2]
              refine Ev.step (f := fun _ => some _) (fun k => ?_) (Ev.now _)
              simp only [estoversref21_Short.l0, hT, Option.bind_some]
              rw [if_pos (by rw [ints_len]; omega), if_pos (by omega), ints_get _ hil, if_pos (by omega), if_pos (by omega), rd_acc, hw, if_pos h2, w64 (x := tot x - ((acc l (pth l p)[i]).f4 - (acc l (pth l p)[i]).f1)) (by omega) (by omega)]
            · rw [decide_eq_false h2]
              refine Ev.step (fun k => ?_) (ih (i + 1) (by omega))
              simp only [estoversref21_Short.l0, hT, Option.bind_some]
              rw [if_pos (by rw [ints_len]; omega), if_pos (by omega), ints_get _ hil, if_pos (by omega), if_pos (by omega), rd_acc, hw, if_neg h2, w64s hil (by omega)]
        have := key (pth l p).length 0 (by omega)
        rw [List.drop_zero] at this
        exact this
    · rw [if_neg hc]
      exact Ev.congr (fun k => if_neg hc) (Ev.now _)
  · rw [if_neg hv, decide_eq_false hv]
    exact Ev.congr (fun k => rfl) (Ev.now _)
/-! ### Hopeless -/
def hpA (x : S37) (l : List S59) (n a : Int) : Bool :=
  match (pth l x.f1.toNat).find? fun y => decide (tot x > (acc l y).f4) with
  | some _ => true
  | none => if x.f2 > n then true else decide (tot x > a)
def hop (x : S37) (l : List S59) (n a : Int) : Bool := if vA x then (if chk l = 0 then (if x.f1 ≥ (l.length : Int) then true else hpA x l n a) else true) else true
theorem prog_hop (x : S37) (l : List S59) (n a : Int) : Ev (fun k => grant_Hopeless.f k x.f0 x.f1 x.f2 x.f3 l n a) (hop x l n a) := by
  have hbad : Ev (fun k => grant_Hopeless.j0 k l n a true x.f0 x.f1 x.f2 x.f3) true := Ev.step (f := fun _ => some true) (fun k => by simp [grant_Hopeless.j0]) (Ev.now _)
  unfold hop
  refine Ev.congr (fun k => by unfold grant_Hopeless.f; rw [prog_valid]) ?_
  by_cases hv : vA x
  · rw [if_pos hv, decide_eq_true hv]
    refine Ev.bindS (g := fun _ => Option.some true) (Ev.now _) ?_
    refine Ev.congr (fun k => if_pos rfl) ?_
    refine Ev.bindS (prog_check l) ?_
    by_cases hc : chk l = 0
    · rw [if_pos hc]
      refine Ev.congr (fun k => if_pos hc) ?_
      by_cases hl : x.f1 ≥ (l.length : Int)
      · rw [if_pos hl, decide_eq_true hl]
        exact hbad
      · rw [if_neg hl, decide_eq_false hl]
        have hi : isAt l x.f1 := ⟨hc, hv.2.2.1, by omega⟩
        obtain ⟨p, hp, hpl⟩ := hi.nat
        have ho := chk_ok.1 hc
        have hlt := pth_lt ho hpl
        have hle := pth_len ho p hpl
        have hf := ho.few
        have hpe : pathI l x.f1 = ints (pth l p) := by unfold pathI; rw [if_pos hi, hp, Int.toNat_natCast]
        have hpx : pth l x.f1.toNat = pth l p := by rw [hp, Int.toNat_natCast]
        refine Ev.stepS (fun k => by simp only [grant_Hopeless.j0]; rw [if_neg (by decide)]) ?_
        refine Ev.bindS (prog_path l x.f1) ?_
        unfold hpA
        rw [hpe, hpx, hv.amt.1]
        have key : ∀ d i, i + d = (pth l p).length → Ev (fun k => grant_Hopeless.l0 k l n a (tot x) (ints (pth l p)) ((ints (pth l p)).length : Int) (i : Int) x.f0 x.f1 x.f2 x.f3) (match ((pth l p).drop i).find? fun y => decide (tot x > (acc l y).f4) with | some _ => true | none => if x.f2 > n then true else decide (tot x > a)) := by
          intro d
          induction d with
          | zero =>
            intro i hi
            obtain rfl : i = (pth l p).length := by omega
            rw [List.drop_length]
            refine Ev.stepS (fun k => by simp only [grant_Hopeless.l0]; rw [if_neg (by rw [ints_len]; omega)]) ?_
            show Ev _ (if x.f2 > n then true else decide (tot x > a))
            by_cases h1 : x.f2 > n
            · exact Ev.some (fun k => by rw [if_pos h1, if_pos h1])
            · exact Ev.some (fun k => by rw [if_neg h1, if_neg h1])
          | succ d ih =>
            intro i hi
            have hil : i < (pth l p).length := by omega
            have hx := hlt _ (List.getElem_mem hil)
            rw [List.drop_eq_getElem_cons hil, List.find?_cons]
            by_cases h2 : tot x > (acc l (pth l p)[i]).f4
            · rw [decide_eq_true h2]
              refine Ev.step (f := fun _ => some _) (fun k => ?_) (Ev.now _)
              simp only [grant_Hopeless.l0]
              rw [if_pos (by rw [ints_len]; omega), if_pos (by omega), if_pos (by rw [ints_len]; omega), ints_get _ hil, if_pos (by omega), if_pos (by omega), rd_acc, if_pos h2]
            · rw [decide_eq_false h2]
              refine Ev.step (fun k => ?_) (ih (i + 1) (by omega))
              simp only [grant_Hopeless.l0]
              rw [if_pos (by rw [ints_len]; omega), if_pos (by omega), if_pos (by rw [ints_len]; omega), ints_get _ hil, if_pos (by omega), if_pos (by omega), rd_acc, if_neg h2, w64s hil (by omega)]
        have := key (pth l p).length 0 (by omega)
        rw [List.drop_zero] at this
        exact this
    · rw [if_neg hc]
      exact Ev.congr (fun k => if_neg hc) hbad
  · rw [if_neg hv, decide_eq_false hv]
    exact Ev.congr (fun k => rfl) hbad

/-! ### Hopeless of the reference -/
theorem ref_hop (x : S37) (l : List S59) (n a : Int) : Ev (fun k => estoversref21_Hopeless.f k x.f0 x.f1 x.f2 x.f3 l n a) (hop x l n a) := by
  have hbad : Ev (fun k => estoversref21_Hopeless.j0 k l n a true x.f0 x.f1 x.f2 x.f3) true := Ev.step (f := fun _ => some true) (fun k => by simp [estoversref21_Hopeless.j0]) (Ev.now _)
  unfold hop
  refine Ev.congr (fun k => by unfold estoversref21_Hopeless.f; rw [ref_valid]) ?_
  by_cases hv : vA x
  · rw [if_pos hv, decide_eq_true hv]
    refine Ev.bindS (g := fun _ => Option.some true) (Ev.now _) ?_
    refine Ev.congr (fun k => if_pos rfl) ?_
    refine Ev.bindS (ref_check l) ?_
    by_cases hc : chk l = 0
    · rw [if_pos hc]
      refine Ev.congr (fun k => if_pos hc) ?_
      by_cases hl : x.f1 ≥ (l.length : Int)
      · rw [if_pos hl, decide_eq_true hl]
        exact hbad
      · rw [if_neg hl, decide_eq_false hl]
        have hi : isAt l x.f1 := ⟨hc, hv.2.2.1, by omega⟩
        obtain ⟨p, hp, hpl⟩ := hi.nat
        have ho := chk_ok.1 hc
        have hlt := pth_lt ho hpl
        have hle := pth_len ho p hpl
        have hf := ho.few
        have hT := ref_tot21 hv
        have hpe : pathI l x.f1 = ints (pth l p) := by unfold pathI; rw [if_pos hi, hp, Int.toNat_natCast]
        have hpx : pth l x.f1.toNat = pth l p := by rw [hp, Int.toNat_natCast]
        refine Ev.stepS (fun k => by simp only [estoversref21_Hopeless.j0]; rw [if_neg (by decide)]) ?_
        refine Ev.bindS (ref_path l x.f1) ?_
        unfold hpA
        rw [hpe, hpx]
        have key : ∀ d i, i + d = (pth l p).length → Ev (fun k => estoversref21_Hopeless.l0 k l n a (ints (pth l p)) (i : Int) x.f0 x.f1 x.f2 x.f3) (match ((pth l p).drop i).find? fun y => decide (tot x > (acc l y).f4) with | some _ => true | none => if x.f2 > n then true else decide (tot x > a)) := by
          intro d
          induction d with
          | zero =>
            intro i hi
            obtain rfl : i = (pth l p).length := by omega
            rw [List.drop_length]
            refine Ev.stepS (fun k => by simp only [estoversref21_Hopeless.l0, hT, Option.bind_some]; rw [if_neg (by rw [ints_len]; omega)]) ?_
            show Ev _ (if x.f2 > n then true else decide (tot x > a))
            by_cases h1 : x.f2 > n
            · exact Ev.some (fun k => by rw [if_pos h1, if_pos h1])
            · exact Ev.some (fun k => by rw [if_neg h1, if_neg h1])
          | succ d ih =>
            intro i hi
            have hil : i < (pth l p).length := by omega
            have hx := hlt _ (List.getElem_mem hil)
            rw [List.drop_eq_getElem_cons hil, List.find?_cons]
            by_cases h2 : tot x > (acc l (pth l p)[i]).f4
            · rw [decide_eq_true h2]
              refine Ev.step (f := fun _ => some _) (fun k => ?_) (Ev.now _)
              simp only [estoversref21_Hopeless.l0, hT, Option.bind_some]
              rw [if_pos (by rw [ints_len]; omega), if_pos (by omega), ints_get _ hil, if_pos (by omega), if_pos (by omega), rd_acc, if_pos h2]
            · rw [decide_eq_false h2]
              refine Ev.step (fun k => ?_) (ih (i + 1) (by omega))
              simp only [estoversref21_Hopeless.l0, hT, Option.bind_some]
              rw [if_pos (by rw [ints_len]; omega), if_pos (by omega), ints_get _ hil, if_pos (by omega), if_pos (by omega), rd_acc, if_neg h2, w64s hil (by omega)]
        have := key (pth l p).length 0 (by omega)
        rw [List.drop_zero] at this
        exact this
    · rw [if_neg hc]
      exact Ev.congr (fun k => if_neg hc) hbad
  · rw [if_neg hv, decide_eq_false hv]
    exact Ev.congr (fun k => rfl) hbad

-- PARTS: base acc1 acc2 acc3 acc4 acc5 acc6 acc7 grant1 grant2 grant3 grant6 grant7
theorem shorts_aw (x : S37) (l : List S59) (n a : Int) : Ev (fun k => estoverslaw21_GrantShorts.j0 k l true x.f0 x.f1 x.f2 x.f3 n a) true := by
  refine Ev.step (f := fun k => (estoverslaw21_awake.f k).bind fun t => some t) (fun k => by simp [estoverslaw21_GrantShorts.j0]) ?_
  exact Ev.bindS aw21 (Ev.now _)
theorem shorts_main (x : S37) (l : List S59) (n a : Int) : Ev (fun k => estoverslaw21_GrantShorts.j0 k l false x.f0 x.f1 x.f2 x.f3 n a) true := by
  refine Ev.stepS (fun k => by simp only [estoverslaw21_GrantShorts.j0]; rw [if_neg (by decide)]) ?_
  refine Ev.bindS (prog_short x l n a) ?_
  refine Ev.bindS (ref_short x l n a) ?_
  refine Ev.congr (fun k => if_pos (by simp)) ?_
  refine Ev.congr (fun k => if_pos rfl) ?_
  refine Ev.bindS (prog_hop x l n a) ?_
  refine Ev.bindS (ref_hop x l n a) ?_
  exact Ev.some (fun k => by simp)
theorem GrantShorts : estoverslaw21_GrantShorts.Pure := by
  intro x0 x1 x2 x3 l n a _ _ _ _ _ _ _
  refine Ev.rounds ?_
  refine Ev.bindS aw21 ?_
  refine Ev.congr (fun k => if_pos rfl) ?_
  by_cases hl : (l.length : Int) > 20
  · rw [decide_eq_true hl]
    exact shorts_aw ⟨x0, x1, x2, x3⟩ l n a
  · rw [decide_eq_false hl]
    exact shorts_main ⟨x0, x1, x2, x3⟩ l n a

end Go.Proofs.Ytimlodcdfekbhaa.Pure
