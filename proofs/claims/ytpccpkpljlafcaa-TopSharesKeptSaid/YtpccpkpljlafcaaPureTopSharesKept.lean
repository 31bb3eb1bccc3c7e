/- The plain law of TopSharesKept: a page is taken only where no account on its path would fall below its guarantee. -/
import Derived.Test.YtpccpkpljlafcaaPTopSharesKeptx
import Derived.Test.YtpccpkpljlafcaaQTopSharesKept
namespace Go.Proofs.Ytpccpkpljlafcaa.Pure
open Go.RowKit Go.Proofs.Ytpccpkpljlafcaa.PTopSharesKept Go.Proofs.YtpccpkpljlafcaaW.PrintWords Go.Proofs.YtpccpkpljlafcaaW.PrintLast Go.Proofs.YtpccpkpljlafcaaW.PrintMore

theorem Ev.bindS {α β : Type} {g : Nat → Option α} {f : Nat → α → Option β} {a : α} {r : β} (h : Ev g a) (k : Ev (fun n => f n a) r) : Ev (fun n => (g n).bind fun x => f n x) r := Ev.bind h k
theorem Ev.some {α : Type} {g : Nat → Option α} {r : α} (h : ∀ k, g k = Option.some r) : Ev g r := Ev.congr h (Ev.now r)
theorem w64 {x : Int} (h0 : -9223372036854775808 ≤ x) (h1 : x ≤ 9223372036854775807) : wrap64 x = x := by
  unfold wrap64
  omega
theorem w64s {i n : Nat} (h : i < n) (hn : n ≤ 1000000) : wrap64 ((i : Int) + 1) = ((i + 1 : Nat) : Int) := by
  unfold wrap64
  omega
/-! ### Accounts: what Check computes, told without the program -/

/-- One round, at a number of rounds that is not zero. -/
theorem Ev.stepS {α : Type} {g f : Nat → Option α} {r : α} (h : ∀ k, g (k + 1) = f k) (k : Ev f r) : Ev g r := Ev.step h k
/-- A loop that looks at one place after the other and ends at the first that is wrong. -/
theorem Ev.scan {β : Type} (g : Nat → Int → Option β) (n : Nat) (P : Nat → Prop) [DecidablePred P] (bad r : β)
    (hgo : ∀ i, i < n → P i → ∀ q, Ev (fun k => g k ((i + 1 : Nat) : Int)) q → Ev (fun k => g k (i : Int)) q)
    (hbad : ∀ i, i < n → ¬ P i → Ev (fun k => g k (i : Int)) bad)
    (hend : (∀ i, i < n → P i) → Ev (fun k => g k (n : Int)) r) :
    Ev (fun k => g k 0) (if ∀ i, i < n → P i then r else bad) := by
  have key : ∀ d i, i + d = n → (∀ j, j < i → P j) → Ev (fun k => g k (i : Int)) (if ∀ i, i < n → P i then r else bad) := by
    intro d
    induction d with
    | zero =>
      intro i hi hp
      obtain rfl : i = n := by omega
      rw [if_pos hp]
      exact hend hp
    | succ d ih =>
      intro i hi hp
      by_cases h : P i
      · refine hgo i (by omega) h _ (ih (i + 1) (by omega) ?_)
        intro j hj
        rcases Nat.lt_succ_iff_lt_or_eq.1 hj with h1 | rfl
        · exact hp j h1
        · exact h
      · rw [if_neg (fun h2 => h (h2 i (by omega)))]
        exact hbad i (by omega) h
  exact key n 0 (by omega) (fun j hj => absurd hj (Nat.not_lt_zero _))



/-- The account at a place. -/
def acc (l : List S53) (i : Nat) : S53 := l.getD i z53
theorem rd_acc (l : List S53) (i : Nat) : rd_T53 l (i : Int) = acc l i := rfl
def inR (x : Int) : Prop := 0 ≤ x ∧ x ≤ 1048576
instance (x : Int) : Decidable (inR x) := by unfold inR; infer_instance
def treeAt (l : List S53) (i : Nat) : Prop := if i = 0 then (acc l i).f0 = -1 else 0 ≤ (acc l i).f0 ∧ (acc l i).f0 < i
instance (l : List S53) (i : Nat) : Decidable (treeAt l i) := by unfold treeAt; infer_instance
def amtAt (l : List S53) (i : Nat) : Prop := inR (acc l i).f1 ∧ inR (acc l i).f2 ∧ inR (acc l i).f3 ∧ inR (acc l i).f4
instance (l : List S53) (i : Nat) : Decidable (amtAt l i) := by unfold amtAt; infer_instance
/-- The sum of f over the places j of 1 .. n - 1 whose Parent is i. -/
def kidsTo (l : List S53) (i : Int) : Nat → Int
  | 0 => 0
  | n + 1 => kidsTo l i n + if n ≥ 1 ∧ (acc l n).f0 = i then (acc l n).f1 else 0
def kids (l : List S53) (i : Int) : Int := kidsTo l i l.length
def rootOk (l : List S53) : Prop := (acc l 0).f2 = 0 ∧ (acc l 0).f3 = 0
instance (l : List S53) : Decidable (rootOk l) := by unfold rootOk; infer_instance
def maxAt (l : List S53) (i : Nat) : Prop := (acc l i).f1 ≤ (acc l i).f4
instance (l : List S53) (i : Nat) : Decidable (maxAt l i) := by unfold maxAt; infer_instance
def ownAt (l : List S53) (i : Nat) : Prop := kids l i ≤ (acc l i).f1
instance (l : List S53) (i : Nat) : Decidable (ownAt l i) := by unfold ownAt; infer_instance
/-- The error of a list of accounts. -/
def chk (l : List S53) : Int :=
  if l.length < 1 ∨ l.length > 8 then 9
  else if ∀ i, i < l.length → treeAt l i then
    if ∀ i, i < l.length → amtAt l i then
      if rootOk l then
        if ∀ i, i < l.length → maxAt l i then
          if ∀ i, i < l.length → ownAt l i then 0 else 11
        else 17
      else 2
    else 2
  else 1
/-- The list is valid. -/
structure Ok (l : List S53) : Prop where
  pos : 1 ≤ l.length
  few : l.length ≤ 8
  tree : ∀ i, i < l.length → treeAt l i
  amt : ∀ i, i < l.length → amtAt l i
  root : rootOk l
  max : ∀ i, i < l.length → maxAt l i
  own : ∀ i, i < l.length → ownAt l i
theorem chk_ok {l : List S53} : chk l = 0 ↔ Ok l := by
  unfold chk
  constructor
  · intro h
    split at h
    · exact absurd h (by decide)
    split at h
    · split at h
      · split at h
        · split at h
          · split at h
            · exact ⟨by omega, by omega, ‹_›, ‹_›, ‹_›, ‹_›, ‹_›⟩
            · exact absurd h (by decide)
          · exact absurd h (by decide)
        · exact absurd h (by decide)
      · exact absurd h (by decide)
    · exact absurd h (by decide)
  · intro h
    have := h.pos
    have := h.few
    rw [if_neg (by omega), if_pos h.tree, if_pos h.amt, if_pos h.root, if_pos h.max, if_pos h.own]
theorem Ok.par0 {l : List S53} (h : Ok l) : (acc l 0).f0 = -1 := by
  have := h.tree 0 h.pos
  simpa [treeAt] using this
theorem Ok.par {l : List S53} (h : Ok l) {i : Nat} (hi : i < l.length) (h0 : i ≠ 0) : 0 ≤ (acc l i).f0 ∧ (acc l i).f0 < i := by
  have := h.tree i hi
  simpa [treeAt, h0] using this

/-! the sums -/
theorem kidsTo_bd {l : List S53} (ha : ∀ i, i < l.length → amtAt l i) (p : Int) : ∀ n, n ≤ l.length → 0 ≤ kidsTo l p n ∧ kidsTo l p n ≤ 1048576 * n
  | 0, _ => ⟨Int.le_refl _, by simp [kidsTo]⟩
  | n + 1, h => by
    have ih := kidsTo_bd ha p n (by omega)
    have hn := (ha n (by omega)).1
    unfold inR at hn
    unfold kidsTo
    split <;> omega

/-! ### The program's Check -/
theorem prog_tree (l : List S53) (hn : l.length ≤ 8) : Ev (fun k => accounts_tree.f k l) (decide (∀ i, i < l.length → treeAt l i)) := by
  have h := Ev.scan (fun k i => accounts_tree.l0 k l (l.length : Int) i) l.length (treeAt l) false true ?_ ?_ ?_
  · refine Ev.congr (fun k => rfl) (f := fun k => accounts_tree.l0 k l (l.length : Int) 0) ?_
    by_cases c : ∀ i, i < l.length → treeAt l i
    · rw [if_pos c] at h; rw [decide_eq_true c]; exact h
    · rw [if_neg c] at h; rw [decide_eq_false c]; exact h
  · intro i hi hp q hq
    refine Ev.step (fun k => ?_) hq
    show accounts_tree.l0 (k + 1) l (l.length : Int) (i : Int) = _
    simp only [accounts_tree.l0]
    rw [if_pos (by omega), if_pos (by omega), if_pos (by omega), rd_acc, w64s hi (by omega)]
    unfold treeAt at hp
    by_cases h0 : i = 0
    · subst h0
      rw [if_pos rfl] at hp
      rw [if_pos (by omega), if_pos hp, if_neg (by omega)]
    · rw [if_neg h0] at hp
      rw [if_neg (by omega), if_pos (by omega), if_neg (by omega), if_neg (by omega)]
  · intro i hi hp
    refine Ev.step (f := fun _ => some false) (fun k => ?_) (Ev.now _)
    show accounts_tree.l0 (k + 1) l (l.length : Int) (i : Int) = _
    simp only [accounts_tree.l0]
    rw [if_pos (by omega), if_pos (by omega), if_pos (by omega), rd_acc]
    unfold treeAt at hp
    by_cases h0 : i = 0
    · subst h0
      rw [if_pos rfl] at hp
      rw [if_pos (by omega), if_neg hp]
    · rw [if_neg h0] at hp
      rw [if_neg (by omega), if_pos (by omega)]
      by_cases h1 : (acc l i).f0 < 0
      · rw [if_pos h1]
      · rw [if_neg h1, if_pos (by omega)]
  · intro _
    refine Ev.step (f := fun _ => some true) (fun k => ?_) (Ev.now _)
    show accounts_tree.l0 (k + 1) l (l.length : Int) (l.length : Int) = _
    simp only [accounts_tree.l0]
    rw [if_neg (by omega)]
theorem prog_in (x : Int) : accounts_in.f x = some (decide (inR x)) := by
  unfold accounts_in.f inR
  by_cases h : x ≥ 0
  · rw [if_pos h]
    simp [h]
  · rw [if_neg h]
    simp [h]
theorem prog_amounts (l : List S53) (h1 : 1 ≤ l.length) (hn : l.length ≤ 8) : Ev (fun k => accounts_amounts.f k l) (decide ((∀ i, i < l.length → amtAt l i) ∧ rootOk l)) := by
  have h := Ev.scan (fun k i => accounts_amounts.l0 k l l (l.length : Int) i) l.length (amtAt l) false (decide (rootOk l)) ?_ ?_ ?_
  · refine Ev.congr (fun k => rfl) (f := fun k => accounts_amounts.l0 k l l (l.length : Int) 0) ?_
    by_cases c : ∀ i, i < l.length → amtAt l i
    · rw [if_pos c] at h
      rw [show decide ((∀ i, i < l.length → amtAt l i) ∧ rootOk l) = decide (rootOk l) by simp [eq_true c]]; exact h
    · rw [if_neg c] at h; rw [decide_eq_false (fun z => c z.1)]; exact h
  · intro i hi hp q hq
    refine Ev.step (fun k => ?_) hq
    show accounts_amounts.l0 (k + 1) l l (l.length : Int) (i : Int) = _
    simp only [accounts_amounts.l0, prog_in]
    rw [if_pos (by omega), if_pos (by omega), if_pos (by omega), rd_acc, w64s hi (by omega)]
    obtain ⟨a, b, c, d⟩ := hp
    simp only [decide_eq_true a, decide_eq_true b, decide_eq_true c, decide_eq_true d, Option.bind_some, if_true]
  · intro i hi hp
    refine Ev.step (f := fun _ => some false) (fun k => ?_) (Ev.now _)
    show accounts_amounts.l0 (k + 1) l l (l.length : Int) (i : Int) = _
    simp only [accounts_amounts.l0, prog_in]
    rw [if_pos (by omega), if_pos (by omega), if_pos (by omega), rd_acc]
    unfold amtAt at hp
    by_cases a : inR (acc l i).f1
    · by_cases b : inR (acc l i).f2
      · by_cases c : inR (acc l i).f3
        · by_cases d : inR (acc l i).f4
          · exact absurd ⟨a, b, c, d⟩ hp
          · simp [a, b, c, d]
        · simp [a, b, c]
      · simp [a, b]
    · simp [a]
  · intro _
    refine Ev.step (f := fun _ => some (decide (rootOk l))) (fun k => ?_) (Ev.now _)
    show accounts_amounts.l0 (k + 1) l l (l.length : Int) (l.length : Int) = _
    simp only [accounts_amounts.l0]
    rw [if_neg (by omega), if_pos (by omega), show rd_T53 l 0 = acc l 0 from rfl]
    unfold rootOk
    by_cases c : (acc l 0).f2 = 0
    · rw [if_pos c]
      by_cases d : (acc l 0).f3 = 0
      · simp [c, d]
      · simp [c, d]
    · rw [if_neg c]
      simp [c]
/-- 'Some Usage is above its Max'. -/
theorem prog_index (l : List S53) (hn : l.length ≤ 8) : ∃ r : Int, Ev (fun k => api_Account_68.f k l) r ∧ (0 ≤ r ↔ ¬ ∀ i, i < l.length → maxAt l i) := by
  have key : ∀ d i, i + d = l.length → (∀ j, j < i → maxAt l j) → ∃ r : Int, Ev (fun k => api_Account_68.l0 k l (l.length : Int) (i : Int)) r ∧ (0 ≤ r ↔ ¬ ∀ i, i < l.length → maxAt l i) := by
    intro d
    induction d with
    | zero =>
      intro i hi hp
      obtain rfl : i = l.length := by omega
      refine ⟨-1, Ev.step (f := fun _ => some (-1)) (fun k => ?_) (Ev.now _), ?_⟩
      · simp only [api_Account_68.l0]
        rw [if_neg (by omega)]
      · constructor
        · intro h; omega
        · intro h; exact absurd hp h
    | succ d ih =>
      intro i hi hp
      by_cases h : maxAt l i
      · obtain ⟨r, hr, hq⟩ := ih (i + 1) (by omega) (fun j hj => by
          rcases Nat.lt_succ_iff_lt_or_eq.1 hj with h1 | rfl
          · exact hp j h1
          · exact h)
        refine ⟨r, Ev.step (fun k => ?_) hr, hq⟩
        simp only [api_Account_68.l0, accounts_Check_1.f]
        unfold maxAt at h
        rw [if_pos (by omega), if_pos (by omega), if_pos (by omega), rd_acc, w64s (n := l.length) (by omega) (by omega)]
        rw [decide_eq_false (show ¬ ((acc l i).f1 > (acc l i).f4) by omega)]
        simp
      · refine ⟨i, Ev.step (f := fun _ => some (i : Int)) (fun k => ?_) (Ev.now _), ?_⟩
        · simp only [api_Account_68.l0, accounts_Check_1.f]
          unfold maxAt at h
          rw [if_pos (by omega), if_pos (by omega), if_pos (by omega), rd_acc]
          rw [decide_eq_true (show ((acc l i).f1 > (acc l i).f4) by omega)]
          simp
        · constructor
          · intro _ h2; exact h (h2 i (by omega))
          · intro _; omega
  exact key l.length 0 (by omega) (fun j hj => absurd hj (Nat.not_lt_zero _))
theorem prog_contains (l : List S53) (hn : l.length ≤ 8) : Ev (fun k => api_Account_46.f k l) (!decide (∀ i, i < l.length → maxAt l i)) := by
  obtain ⟨r, hr, hq⟩ := prog_index l hn
  refine Ev.congr (fun k => rfl) (f := fun k => (api_Account_68.f k l).bind fun t => some (decide (t ≥ 0))) ?_
  refine Ev.bindS hr ?_
  by_cases c : ∀ i, i < l.length → maxAt l i
  · rw [decide_eq_true c]
    have : ¬ (r ≥ 0) := fun h => (hq.1 h) c
    rw [show (fun _ : Nat => some (decide (r ≥ 0))) = fun _ => some false by rw [decide_eq_false this]]
    exact Ev.now _
  · rw [decide_eq_false c]
    have : r ≥ 0 := hq.2 c
    rw [show (fun _ : Nat => some (decide (r ≥ 0))) = fun _ => some true by rw [decide_eq_true this]]
    exact Ev.now _
/-- What own's loop holds after i accounts. -/
def ownTo (l : List S53) (i : Nat) : List Int := (List.range l.length).map fun p => (if p < i then (acc l p).f1 else 0) - kidsTo l (p : Int) i
theorem ownTo_len (l : List S53) (i : Nat) : (ownTo l i).length = l.length := by simp [ownTo]
theorem ownTo_get (l : List S53) (i : Nat) {p : Nat} (hp : p < l.length) : (ownTo l i).getD p 0 = (if p < i then (acc l p).f1 else 0) - kidsTo l (p : Int) i := by
  unfold ownTo
  simp [List.getD, hp]
theorem ownTo_zero (l : List S53) : ownTo l 0 = List.replicate l.length 0 := by
  unfold ownTo
  apply List.ext_getElem?
  intro i
  by_cases hi : i < l.length <;> simp [hi, kidsTo]
theorem ownTo_step0 {l : List S53} (hl : 0 < l.length) : (ownTo l 0).set 0 (acc l 0).f1 = ownTo l 1 := by
  apply List.ext_getElem?
  intro p
  by_cases hp : p < l.length
  · by_cases h0 : p = 0
    · subst h0
      simp [ownTo, hl, kidsTo]
    · rw [List.getElem?_set_ne (by omega)]
      simp [ownTo, hp, kidsTo, h0]
  · simp [ownTo, hp]
theorem ownTo_step {l : List S53} {i q : Nat} (hi : i < l.length) (h0 : i ≠ 0) (hq : (acc l i).f0 = (q : Int)) (hqi : q < i) :
    ((ownTo l i).set i ((ownTo l i).getD i 0 + (acc l i).f1)).set q (((ownTo l i).set i ((ownTo l i).getD i 0 + (acc l i).f1)).getD q 0 - (acc l i).f1) = ownTo l (i + 1) := by
  rw [ownTo_get l i hi, if_neg (by omega)]
  have hg : ((ownTo l i).set i (0 - kidsTo l (i : Int) i + (acc l i).f1)).getD q 0 = (acc l q).f1 - kidsTo l (q : Int) i := by
    rw [List.getD_eq_getElem?_getD, List.getElem?_set_ne (by omega), ← List.getD_eq_getElem?_getD, ownTo_get l i (by omega), if_pos hqi]
  rw [hg]
  apply List.ext_getElem?
  intro p
  by_cases hp : p < l.length
  · by_cases h1 : p = q
    · subst h1
      rw [List.getElem?_set_self (by simp [ownTo_len]; omega)]
      simp only [ownTo, List.getElem?_map, List.getElem?_range hp, Option.map_some, kidsTo]
      rw [if_pos (by omega), if_pos ⟨by omega, hq⟩]
      congr 1
      omega
    · rw [List.getElem?_set_ne (by omega)]
      by_cases h2 : p = i
      · subst h2
        rw [List.getElem?_set_self (by simp [ownTo_len]; omega)]
        simp only [ownTo, List.getElem?_map, List.getElem?_range hp, Option.map_some, kidsTo]
        rw [if_pos (by omega), if_neg (by omega)]
        congr 1
        omega
      · rw [List.getElem?_set_ne (by omega)]
        simp only [ownTo, List.getElem?_map, List.getElem?_range hp, Option.map_some, kidsTo]
        rw [if_neg (show ¬ (i ≥ 1 ∧ (acc l i).f0 = (p : Int)) by omega)]
        congr 1
        by_cases h3 : p < i
        · rw [if_pos h3, if_pos (by omega)]; omega
        · rw [if_neg h3, if_neg (by omega)]; omega
  · simp [ownTo, hp]
theorem prog_own (l : List S53) (hn : l.length ≤ 8) (ht : ∀ i, i < l.length → treeAt l i) (ha : ∀ i, i < l.length → amtAt l i) :
    Ev (fun k => accounts_own.f k l) (ownTo l l.length) := by
  have key : ∀ d i, i + d = l.length → Ev (fun k => accounts_own.l0 k (ownTo l i) l (l.length : Int) (i : Int)) (ownTo l l.length) := by
    intro d
    induction d with
    | zero =>
      intro i hi
      obtain rfl : i = l.length := by omega
      refine Ev.step (f := fun _ => some _) (fun k => ?_) (Ev.now _)
      simp only [accounts_own.l0]
      rw [if_neg (by omega)]
    | succ d ih =>
      intro i hi
      have hil : i < l.length := by omega
      have hai := (ha i hil).1
      unfold inR at hai
      have hbd := kidsTo_bd ha (i : Int) i (by omega)
      refine Ev.step (fun k => ?_) (ih (i + 1) (by omega))
      simp only [accounts_own.l0]
      rw [if_pos (by omega), if_pos (by omega), if_pos (by omega), if_pos (by rw [ownTo_len]; omega), rd_acc, w64s (n := l.length) (by omega) (by omega)]
      have hrd : rd (ownTo l i) (i : Int) = (ownTo l i).getD i 0 := rfl
      have hv : (ownTo l i).getD i 0 = 0 - kidsTo l (i : Int) i := by rw [ownTo_get l i hil, if_neg (by omega)]
      rw [hrd, w64 (by omega) (by omega)]
      simp only [Option.bind_some, Int.toNat_natCast]
      have hti := ht i hil
      unfold treeAt at hti
      by_cases h0 : i = 0
      · subst h0
        rw [if_neg (by omega)]
        rw [hv]
        have e : (0 : Int) - kidsTo l ((0 : Nat) : Int) 0 + (acc l 0).f1 = (acc l 0).f1 := by simp [kidsTo]
        rw [e, ownTo_step0 (by omega)]
      · rw [if_neg h0] at hti
        obtain ⟨q, hq⟩ : ∃ q : Nat, (acc l i).f0 = (q : Int) := ⟨(acc l i).f0.toNat, by omega⟩
        rw [hq] at hti
        rw [if_pos (by omega), hq, if_pos (by omega), if_pos (by simp [ownTo_len]; omega)]
        have haq := (ha q (by omega)).1
        unfold inR at haq
        have hbq := kidsTo_bd ha (q : Int) i (by omega)
        have hrq : rd ((ownTo l i).set i ((ownTo l i).getD i 0 + (acc l i).f1)) (q : Int) = ((ownTo l i).set i ((ownTo l i).getD i 0 + (acc l i).f1)).getD q 0 := rfl
        have hgq : ((ownTo l i).set i ((ownTo l i).getD i 0 + (acc l i).f1)).getD q 0 = (acc l q).f1 - kidsTo l (q : Int) i := by
          rw [List.getD_eq_getElem?_getD, List.getElem?_set_ne (by omega), ← List.getD_eq_getElem?_getD, ownTo_get l i (by omega), if_pos (by omega)]
        rw [hrq, w64 (by omega) (by omega), Int.toNat_natCast, ownTo_step hil h0 hq (by omega)]
  refine Ev.congr (f := fun k => accounts_own.l0 k (ownTo l 0) l (l.length : Int) 0) (fun k => ?_) (key l.length 0 (by omega))
  unfold accounts_own.f
  rw [if_pos (by omega), if_pos (by omega), Int.toNat_natCast, ownTo_zero]
theorem prog_min (xs : List Int) (h1 : 1 ≤ xs.length) (hn : xs.length ≤ 8) : ∃ m : Int, Ev (fun k => slices_Min_int_int.f k xs) m ∧ (0 ≤ m ↔ ∀ i, i < xs.length → 0 ≤ xs.getD i 0) := by
  have key : ∀ d i m, i + d = xs.length → (0 ≤ m ↔ ∀ j, j < i → 0 ≤ xs.getD j 0) → ∃ r : Int, Ev (fun k => slices_Min_int_int.l0 k xs m (i : Int)) r ∧ (0 ≤ r ↔ ∀ i, i < xs.length → 0 ≤ xs.getD i 0) := by
    intro d
    induction d with
    | zero =>
      intro i m hi hp
      obtain rfl : i = xs.length := by omega
      refine ⟨m, Ev.step (f := fun _ => some m) (fun k => ?_) (Ev.now _), hp⟩
      simp only [slices_Min_int_int.l0]
      rw [if_neg (by omega)]
    | succ d ih =>
      intro i m hi hp
      obtain ⟨r, hr, hq⟩ := ih (i + 1) (mn m (xs.getD i 0)) (by omega) (by
        unfold mn
        constructor
        · intro h j hj
          rcases Nat.lt_succ_iff_lt_or_eq.1 hj with h3 | rfl
          · refine hp.1 ?_ j h3
            split at h <;> omega
          · split at h <;> omega
        · intro h
          have h2 := hp.2 (fun j hj => h j (by omega))
          have h3 := h i (by omega)
          split <;> omega)
      refine ⟨r, Ev.step (fun k => ?_) hr, hq⟩
      simp only [slices_Min_int_int.l0]
      rw [if_pos (by omega), if_pos (by omega), w64s (n := xs.length) (by omega) (by omega)]
      rfl
  obtain ⟨r, hr, hq⟩ := key (xs.length - 1) 1 (xs.getD 0 0) (by omega) (by
    constructor
    · intro h j hj
      obtain rfl : j = 0 := by omega
      exact h
    · intro h
      exact h 0 (by omega))
  refine ⟨r, Ev.congr (fun k => ?_) hr, hq⟩
  unfold slices_Min_int_int.f
  rw [if_neg (by omega), if_pos (by omega)]
  rfl
theorem prog_check (l : List S53) : Ev (fun k => accounts_Check.f k l) (chk l) := by
  unfold chk
  by_cases hlen : l.length < 1 ∨ l.length > 8
  · rw [if_pos hlen]
    refine Ev.step (f := fun _ => some 9) (fun k => ?_) (Ev.now _)
    unfold accounts_Check.f
    by_cases h1 : (l.length : Int) < 1
    · rw [if_pos h1]; simp [accounts_Check.j0]
    · rw [if_neg h1, decide_eq_true (by omega)]; simp [accounts_Check.j0]
  · rw [if_neg hlen]
    have hp : 1 ≤ l.length := by omega
    have hn : l.length ≤ 8 := by omega
    refine Ev.step (f := fun k => (accounts_tree.f k l).bind fun t126 => (if t126 = true then ((accounts_amounts.f k l).bind fun t127 => (if t127 = true then ((api_Account_46.f k l).bind fun t128 => (if t128 = true then (some 17) else ((accounts_own.f k l).bind fun t129 => ((slices_Min_int_int.f k t129).bind fun t132 => (if t132 < 0 then (some 11) else (some 0)))))) else (some 2))) else (some 1))) (fun k => ?_) ?_
    · unfold accounts_Check.f
      rw [if_neg (by omega), decide_eq_false (by omega)]
      simp [accounts_Check.j0]
    refine Ev.bindS (prog_tree l hn) ?_
    by_cases ht : ∀ i, i < l.length → treeAt l i
    · rw [if_pos ht, decide_eq_true ht]
      simp only [if_true]
      refine Ev.bindS (prog_amounts l hp hn) ?_
      by_cases ha : ∀ i, i < l.length → amtAt l i
      · rw [if_pos ha]
        by_cases hr : rootOk l
        · rw [if_pos hr, decide_eq_true ⟨ha, hr⟩]
          simp only [if_true]
          refine Ev.bindS (prog_contains l hn) ?_
          by_cases hm : ∀ i, i < l.length → maxAt l i
          · rw [if_pos hm, decide_eq_true hm]
            simp only [Bool.not_true, Bool.false_eq_true, if_false]
            refine Ev.bindS (prog_own l hn ht ha) ?_
            obtain ⟨m, hm1, hm2⟩ := prog_min (ownTo l l.length) (by rw [ownTo_len]; omega) (by rw [ownTo_len]; omega)
            refine Ev.bindS hm1 ?_
            have e : 0 ≤ m ↔ ∀ i, i < l.length → ownAt l i := by
              rw [hm2]
              constructor
              · intro h i hi
                have := h i (by rw [ownTo_len]; omega)
                rw [ownTo_get l _ hi, if_pos hi] at this
                unfold ownAt kids
                omega
              · intro h i hi
                rw [ownTo_len] at hi
                rw [ownTo_get l _ hi, if_pos hi]
                have := h i hi
                unfold ownAt kids at this
                omega
            by_cases ho : ∀ i, i < l.length → ownAt l i
            · rw [if_pos ho]
              exact Ev.some (fun k => by rw [if_neg (by have := e.2 ho; omega)])
            · rw [if_neg ho]
              exact Ev.some (fun k => by rw [if_pos (by have h5 : ¬ 0 ≤ m := fun h => ho (e.1 h); omega)])
          · rw [if_neg hm, decide_eq_false hm]
            exact Ev.some (fun k => rfl)
        · rw [if_neg hr, decide_eq_false (fun h => hr h.2)]
          exact Ev.some (fun k => rfl)
      · rw [if_neg ha, decide_eq_false (fun h => ha h.1)]
        exact Ev.some (fun k => rfl)
    · rw [if_neg ht, decide_eq_false ht]
      exact Ev.some (fun k => rfl)

/-! ### The reference's Check -/
theorem ref_in (x : Int) : estoversref19_in.f x = some (decide (inR x)) := by
  unfold estoversref19_in.f inR
  by_cases h : x ≥ 0
  · rw [if_pos h]
    simp [h]
  · rw [if_neg h]
    simp [h]
theorem ref_kids (l : List S53) (hn : l.length ≤ 8) (h1 : 1 ≤ l.length) (ha : ∀ i, i < l.length → amtAt l i) (p : Int) : Ev (fun k => estoversref19_kids.f k l p) (kids l p) := by
  have key : ∀ d j, j + d = l.length → 1 ≤ j → Ev (fun k => estoversref19_kids.l0 k l p (kidsTo l p j) (j : Int)) (kids l p) := by
    intro d
    induction d with
    | zero =>
      intro j hj _
      obtain rfl : j = l.length := by omega
      refine Ev.step (f := fun _ => some _) (fun k => ?_) (Ev.now _)
      simp only [estoversref19_kids.l0]
      rw [if_neg (by omega)]
      rfl
    | succ d ih =>
      intro j hj h1j
      have hb := kidsTo_bd ha p j (by omega)
      have haj := (ha j (by omega)).1
      unfold inR at haj
      refine Ev.step (fun k => ?_) (ih (j + 1) (by omega) (by omega))
      simp only [estoversref19_kids.l0]
      rw [if_pos (by omega), if_pos (by omega), rd_acc, w64s (n := l.length) (by omega) (by omega)]
      by_cases hc : (acc l j).f0 = p
      · rw [if_pos hc, w64 (by omega) (by omega), kidsTo, if_pos ⟨h1j, hc⟩]
      · rw [if_neg hc, kidsTo, if_neg (fun h => hc h.2), Int.add_zero]
  refine Ev.congr (fun k => ?_) (key (l.length - 1) 1 (by omega) (by omega))
  unfold estoversref19_kids.f
  rfl
theorem ref_l3 (l : List S53) (hn : l.length ≤ 8) (h1 : 1 ≤ l.length) (ha : ∀ i, i < l.length → amtAt l i) :
    Ev (fun k => estoversref19_Check.l3 k l 0) (if ∀ i, i < l.length → ownAt l i then 0 else 11) := by
  refine Ev.scan (fun k i => estoversref19_Check.l3 k l i) l.length (ownAt l) 11 0 ?_ ?_ ?_
  · intro i hi hp q hq
    refine Ev.step (f := fun k => (estoversref19_kids.f k l (i : Int)).bind fun t => (if (acc l i).f1 < t then (some 11) else (estoversref19_Check.l3 k l ((i + 1 : Nat) : Int)))) (fun k => ?_) ?_
    · simp only [estoversref19_Check.l3]
      rw [if_pos (by omega), if_pos (by omega), rd_acc, w64s hi (by omega)]
    · refine Ev.bindS (ref_kids l hn h1 ha (i : Int)) ?_
      unfold ownAt at hp
      exact Ev.congr (fun k => by rw [if_neg (by omega)]) hq
  · intro i hi hp
    refine Ev.step (f := fun k => (estoversref19_kids.f k l (i : Int)).bind fun t => (if (acc l i).f1 < t then (some 11) else (estoversref19_Check.l3 k l ((i + 1 : Nat) : Int)))) (fun k => ?_) ?_
    · simp only [estoversref19_Check.l3]
      rw [if_pos (by omega), if_pos (by omega), rd_acc, w64s hi (by omega)]
    · refine Ev.bindS (ref_kids l hn h1 ha (i : Int)) ?_
      unfold ownAt at hp
      exact Ev.some (fun k => by rw [if_pos (by omega)])
  · intro _
    refine Ev.step (f := fun _ => some 0) (fun k => ?_) (Ev.now _)
    simp only [estoversref19_Check.l3]
    rw [if_neg (by omega)]
theorem ref_l2 (l : List S53) (hn : l.length ≤ 8) (h1 : 1 ≤ l.length) (ha : ∀ i, i < l.length → amtAt l i) :
    Ev (fun k => estoversref19_Check.l2 k l 0) (if ∀ i, i < l.length → maxAt l i then (if ∀ i, i < l.length → ownAt l i then 0 else 11) else 17) := by
  refine Ev.scan (fun k i => estoversref19_Check.l2 k l i) l.length (maxAt l) 17 _ ?_ ?_ ?_
  · intro i hi hp q hq
    refine Ev.step (fun k => ?_) hq
    simp only [estoversref19_Check.l2]
    unfold maxAt at hp
    rw [if_pos (by omega), if_pos (by omega), rd_acc, if_neg (by omega), w64s hi (by omega)]
  · intro i hi hp
    refine Ev.step (f := fun _ => some 17) (fun k => ?_) (Ev.now _)
    simp only [estoversref19_Check.l2]
    unfold maxAt at hp
    rw [if_pos (by omega), if_pos (by omega), rd_acc, if_pos (by omega)]
  · intro _
    refine Ev.step (fun k => ?_) (ref_l3 l hn h1 ha)
    simp only [estoversref19_Check.l2]
    rw [if_neg (by omega)]
theorem ref_l1 (l : List S53) (hn : l.length ≤ 8) (h1 : 1 ≤ l.length) :
    Ev (fun k => estoversref19_Check.l1 k l 0) (if ∀ i, i < l.length → amtAt l i then (if rootOk l then (if ∀ i, i < l.length → maxAt l i then (if ∀ i, i < l.length → ownAt l i then 0 else 11) else 17) else 2) else 2) := by
  refine Ev.scan (fun k i => estoversref19_Check.l1 k l i) l.length (amtAt l) 2 _ ?_ ?_ ?_
  · intro i hi hp q hq
    refine Ev.step (fun k => ?_) hq
    simp only [estoversref19_Check.l1, ref_in]
    rw [if_pos (by omega), if_pos (by omega), rd_acc, w64s hi (by omega)]
    obtain ⟨a, b, c, d⟩ := hp
    simp only [decide_eq_true a, decide_eq_true b, decide_eq_true c, decide_eq_true d, Option.bind_some, if_true]
  · intro i hi hp
    refine Ev.step (f := fun _ => some 2) (fun k => ?_) (Ev.now _)
    simp only [estoversref19_Check.l1, ref_in]
    rw [if_pos (by omega), if_pos (by omega), rd_acc]
    unfold amtAt at hp
    by_cases a : inR (acc l i).f1
    · by_cases b : inR (acc l i).f2
      · by_cases c : inR (acc l i).f3
        · by_cases d : inR (acc l i).f4
          · exact absurd ⟨a, b, c, d⟩ hp
          · simp [a, b, c, d]
        · simp [a, b, c]
      · simp [a, b]
    · simp [a]
  · intro ha
    by_cases hr : rootOk l
    · rw [if_pos hr]
      refine Ev.step (f := fun k => estoversref19_Check.j3 k l false) (fun k => ?_) (Ev.step (fun k => ?_) (ref_l2 l hn h1 ha))
      · simp only [estoversref19_Check.l1]
        rw [if_neg (by omega), if_pos (by omega), show rd_T53 l 0 = acc l 0 from rfl]
        obtain ⟨c, d⟩ := hr
        rw [if_pos c]
        simp [d]
      · simp [estoversref19_Check.j3]
    · rw [if_neg hr]
      refine Ev.step (f := fun k => estoversref19_Check.j3 k l true) (fun k => ?_) (Ev.step (f := fun _ => some 2) (fun k => ?_) (Ev.now _))
      · simp only [estoversref19_Check.l1]
        rw [if_neg (by omega), if_pos (by omega), show rd_T53 l 0 = acc l 0 from rfl]
        unfold rootOk at hr
        by_cases c : (acc l 0).f2 = 0
        · rw [if_pos c]
          have d : (acc l 0).f3 ≠ 0 := fun d => hr ⟨c, d⟩
          rw [bne_iff_ne.2 d]
        · rw [if_neg c]
      · simp [estoversref19_Check.j3]
theorem ref_l0 (l : List S53) (hn : l.length ≤ 8) (h1 : 1 ≤ l.length) :
    Ev (fun k => estoversref19_Check.l0 k l 0) (if ∀ i, i < l.length → treeAt l i then (if ∀ i, i < l.length → amtAt l i then (if rootOk l then (if ∀ i, i < l.length → maxAt l i then (if ∀ i, i < l.length → ownAt l i then 0 else 11) else 17) else 2) else 2) else 1) := by
  refine Ev.scan (fun k i => estoversref19_Check.l0 k l i) l.length (treeAt l) 1 _ ?_ ?_ ?_
  · intro i hi hp q hq
    refine Ev.step (fun k => ?_) hq
    simp only [estoversref19_Check.l0]
    rw [if_pos (by omega), rd_acc, w64s hi (by omega)]
    unfold treeAt at hp
    by_cases h0 : i = 0
    · subst h0
      rw [if_pos rfl] at hp
      rw [if_pos (by omega), if_pos (by omega), if_pos hp, if_neg (by omega)]
    · rw [if_neg h0] at hp
      rw [if_neg (by omega), if_pos (by omega), if_pos (by omega), if_neg (by omega), if_neg (by omega)]
  · intro i hi hp
    refine Ev.step (f := fun _ => some 1) (fun k => ?_) (Ev.now _)
    simp only [estoversref19_Check.l0]
    rw [if_pos (by omega), rd_acc]
    unfold treeAt at hp
    by_cases h0 : i = 0
    · subst h0
      rw [if_pos rfl] at hp
      rw [if_pos (by omega), if_pos (by omega), if_neg hp]
    · rw [if_neg h0] at hp
      rw [if_neg (by omega), if_pos (by omega), if_pos (by omega)]
      by_cases h2 : (acc l i).f0 < 0
      · rw [if_pos h2]
      · rw [if_neg h2, if_pos (by omega)]
  · intro _
    refine Ev.step (fun k => ?_) (ref_l1 l hn h1)
    simp only [estoversref19_Check.l0]
    rw [if_neg (by omega)]
theorem ref_check (l : List S53) : Ev (fun k => estoversref19_Check.f k l) (chk l) := by
  unfold chk
  by_cases hlen : l.length < 1 ∨ l.length > 8
  · rw [if_pos hlen]
    refine Ev.step (f := fun _ => some 9) (fun k => ?_) (Ev.now _)
    unfold estoversref19_Check.f
    by_cases h1 : (l.length : Int) < 1
    · rw [if_pos h1]; simp [estoversref19_Check.j0]
    · rw [if_neg h1, decide_eq_true (by omega)]; simp [estoversref19_Check.j0]
  · rw [if_neg hlen]
    refine Ev.step (fun k => ?_) (ref_l0 l (by omega) (by omega))
    unfold estoversref19_Check.f
    rw [if_neg (by omega), decide_eq_false (by omega)]
    simp [estoversref19_Check.j0]

/-! ### Paths, and what is added on them -/
def pth (l : List S53) (a : Nat) : List Nat :=
  a :: (if _h : 0 ≤ (acc l a).f0 ∧ (acc l a).f0.toNat < a then pth l (acc l a).f0.toNat else [])
termination_by a
def parOf (l : List S53) (a : Nat) : Nat := (acc l a).f0.toNat
theorem Ok.par_lt {l : List S53} (h : Ok l) {a : Nat} (ha : a < l.length) (h0 : a ≠ 0) : parOf l a < a ∧ (acc l a).f0 = (parOf l a : Int) := by
  have := h.par ha h0
  unfold parOf
  omega
theorem pth_zero {l : List S53} (h : Ok l) : pth l 0 = [0] := by
  rw [pth, dif_neg]
  have := h.par0
  omega
theorem pth_succ {l : List S53} (h : Ok l) {a : Nat} (ha : a < l.length) (h0 : a ≠ 0) : pth l a = a :: pth l (parOf l a) := by
  rw [pth, dif_pos]
  · rfl
  · have := h.par ha h0
    omega
theorem pth_le {l : List S53} (h : Ok l) : ∀ a, a < l.length → ∀ x ∈ pth l a, x ≤ a := by
  intro a
  induction a using Nat.strongRecOn with
  | _ a ih =>
    intro ha x hx
    by_cases h0 : a = 0
    · subst h0
      rw [pth_zero h] at hx
      simp at hx
      omega
    · rw [pth_succ h ha h0] at hx
      have hp := h.par_lt ha h0
      rcases List.mem_cons.1 hx with rfl | hx
      · exact Nat.le_refl _
      · have := ih _ hp.1 (by omega) x hx
        omega
theorem pth_self {l : List S53} (a : Nat) : a ∈ pth l a := by
  rw [pth]
  exact List.mem_cons_self
theorem pth_len {l : List S53} (h : Ok l) : ∀ a, a < l.length → (pth l a).length ≤ a + 1 := by
  intro a
  induction a using Nat.strongRecOn with
  | _ a ih =>
    intro ha
    by_cases h0 : a = 0
    · subst h0
      rw [pth_zero h]
      simp
    · rw [pth_succ h ha h0]
      have hp := h.par_lt ha h0
      have := ih _ hp.1 (by omega)
      simp only [List.length_cons]
      omega
/-! ### The program's and the reference's functions on paths -/
def ints (X : List Nat) : List Int := X.map fun (x : Nat) => (x : Int)
theorem ints_len (X : List Nat) : (ints X).length = X.length := by simp [ints]
theorem mem_ints (X : List Nat) (x : Nat) : (x : Int) ∈ ints X ↔ x ∈ X := by
  unfold ints
  constructor
  · intro h
    obtain ⟨y, hy, e⟩ := List.mem_map.1 h
    have : y = x := by omega
    exact this ▸ hy
  · intro h
    exact List.mem_map.2 ⟨x, h, rfl⟩
/-- There is such an account. -/
def isAt (l : List S53) (a : Int) : Prop := chk l = 0 ∧ 0 ≤ a ∧ a < l.length
instance (l : List S53) (a : Int) : Decidable (isAt l a) := by unfold isAt; infer_instance
theorem isAt.nat {l : List S53} {a : Int} (h : isAt l a) : ∃ n : Nat, a = (n : Int) ∧ n < l.length := ⟨a.toNat, by have := h.2; omega, by have := h.2; omega⟩
def pathI (l : List S53) (a : Int) : List Int := if isAt l a then ints (pth l a.toNat) else []
theorem prog_is (l : List S53) (a : Int) : Ev (fun k => accounts_is.f k l a) (decide (isAt l a)) := by
  refine Ev.bindS (prog_check l) ?_
  by_cases h : chk l = 0
  · refine Ev.some (fun k => ?_)
    rw [if_pos h]
    by_cases h1 : a ≥ 0
    · rw [if_pos h1]
      congr 1
      exact decide_eq_decide.2 ⟨fun h2 => ⟨h, h1, h2⟩, fun h2 => h2.2.2⟩
    · rw [if_neg h1, decide_eq_false (show ¬ isAt l a from fun h2 => h1 h2.2.1)]
  · refine Ev.some (fun k => ?_)
    rw [if_neg h, decide_eq_false (show ¬ isAt l a from fun h2 => h h2.1)]
theorem prog_path_l0 {l : List S53} (h : Ok l) : ∀ a, a < l.length → ∀ xs : List Int, xs.length + a ≤ 1000 → Ev (fun k => accounts_Path.l0 k l xs (a : Int)) (xs ++ ints (pth l a)) := by
  intro a
  induction a using Nat.strongRecOn with
  | _ a ih =>
    intro ha xs hx
    by_cases h0 : a = 0
    · subst h0
      refine Ev.step (f := fun k => accounts_Path.l0 k l (xs ++ [0]) (-1)) (fun k => ?_) ?_
      · simp only [accounts_Path.l0]
        rw [if_pos (by omega), if_pos (by omega), if_pos (by omega), if_pos (by omega), rd_acc, h.par0]
        rfl
      · refine Ev.step (f := fun _ => some (xs ++ [0])) (fun k => ?_) ?_
        · simp only [accounts_Path.l0]
          rw [if_neg (by omega)]
        · rw [pth_zero h]
          exact Ev.now _
    · have hp := h.par_lt ha h0
      have hq := ih _ hp.1 (by omega) (xs ++ [(a : Int)]) (by simp; omega)
      rw [pth_succ h ha h0]
      have e : xs ++ ints (a :: pth l (parOf l a)) = xs ++ [(a : Int)] ++ ints (pth l (parOf l a)) := by simp [ints]
      rw [e]
      refine Ev.step (fun k => ?_) hq
      simp only [accounts_Path.l0]
      rw [if_pos (by omega), if_pos (by omega), if_pos (by omega), if_pos (by omega), rd_acc, hp.2]
theorem prog_path (l : List S53) (a : Int) : Ev (fun k => accounts_Path.f k l a) (pathI l a) := by
  refine Ev.bindS (prog_is l a) ?_
  unfold pathI
  by_cases h : isAt l a
  · rw [if_pos h, decide_eq_true h]
    refine Ev.congr (fun k => if_pos rfl) ?_
    obtain ⟨n, rfl, hn⟩ := h.nat
    have ho := chk_ok.1 h.1
    have := ho.few
    exact prog_path_l0 ho n hn [] (by simp; omega)
  · rw [if_neg h, decide_eq_false h]
    exact Ev.some (fun k => rfl)
/-- 'Contains'. -/
theorem prog_cont (xs : List Int) (s : Int) (hn : xs.length ≤ 1000) : Ev (fun k => slices_Contains_int_int.f k xs s) (decide (s ∈ xs)) := by
  have key : ∀ d i, i + d = xs.length → (∀ j, j < i → xs.getD j 0 ≠ s) → ∃ r : Int, Ev (fun k => slices_Index_int_int.l0 k xs s (xs.length : Int) (i : Int)) r ∧ (0 ≤ r ↔ s ∈ xs) := by
    intro d
    induction d with
    | zero =>
      intro i hi hp
      obtain rfl : i = xs.length := by omega
      refine ⟨-1, Ev.step (f := fun _ => some (-1)) (fun k => ?_) (Ev.now _), ?_⟩
      · simp only [slices_Index_int_int.l0]
        rw [if_neg (by omega)]
      · constructor
        · intro h; omega
        · intro h
          obtain ⟨j, hj, e⟩ := List.mem_iff_getElem.1 h
          exact absurd (by simp [List.getD, hj, e]) (hp j hj)
    | succ d ih =>
      intro i hi hp
      have hil : i < xs.length := by omega
      have e : rd xs (i : Int) = xs.getD i 0 := rfl
      by_cases h : s = xs.getD i 0
      · refine ⟨i, Ev.step (f := fun _ => some (i : Int)) (fun k => ?_) (Ev.now _), ?_⟩
        · simp only [slices_Index_int_int.l0]
          rw [if_pos (by omega), if_pos (by omega), if_pos (by omega), e, if_pos h]
        · refine ⟨fun _ => ?_, fun _ => by omega⟩
          rw [h, List.getD_eq_getElem?_getD, List.getElem?_eq_getElem hil]
          exact List.getElem_mem hil
      · obtain ⟨r, hr, hq⟩ := ih (i + 1) (by omega) (fun j hj => by
          rcases Nat.lt_succ_iff_lt_or_eq.1 hj with h1 | rfl
          · exact hp j h1
          · exact fun z => h z.symm)
        refine ⟨r, Ev.step (fun k => ?_) hr, hq⟩
        simp only [slices_Index_int_int.l0]
        rw [if_pos (by omega), if_pos (by omega), if_pos (by omega), e, if_neg h, w64s hil (by omega)]
  obtain ⟨r, hr, hq⟩ := key xs.length 0 (by omega) (fun j hj => absurd hj (Nat.not_lt_zero _))
  refine Ev.bindS (g := fun k => slices_Index_int_int.f k xs s) (f := fun _ t => some (decide (t ≥ 0))) (Ev.congr (fun k => rfl) hr) ?_
  rw [decide_eq_decide.2 (show r ≥ 0 ↔ s ∈ xs from hq)]
  exact Ev.now _
def inside (l : List S53) (a s : Int) : Bool := decide (isAt l a ∧ (s = -1 ∨ s ∈ pathI l a))
theorem pathI_len (l : List S53) (a : Int) : (pathI l a).length ≤ 8 := by
  unfold pathI
  by_cases h : isAt l a
  · rw [if_pos h, ints_len]
    obtain ⟨n, rfl, hn⟩ := h.nat
    have ho := chk_ok.1 h.1
    have := ho.few
    have := pth_len ho n hn
    simp only [Int.toNat_natCast]
    omega
  · rw [if_neg h]
    simp
theorem prog_inside (l : List S53) (a s : Int) : Ev (fun k => accounts_Inside.f k l a s) (inside l a s) := by
  refine Ev.bindS (prog_is l a) ?_
  unfold inside
  by_cases h : isAt l a
  · rw [decide_eq_true h]
    refine Ev.congr (fun k => if_pos rfl) ?_
    by_cases h1 : s = -1
    · rw [decide_eq_true ⟨h, .inl h1⟩]
      exact Ev.some (fun k => if_pos h1)
    · refine Ev.congr (fun k => if_neg h1) ?_
      refine Ev.bindS (prog_path l a) (Ev.bindS (prog_cont _ s (by have := pathI_len l a; omega)) ?_)
      rw [decide_eq_decide.2 (show (isAt l a ∧ (s = -1 ∨ s ∈ pathI l a)) ↔ s ∈ pathI l a from ⟨fun z => z.2.resolve_left h1, fun z => ⟨h, .inr z⟩⟩)]
      exact Ev.now _
  · rw [decide_eq_false h, decide_eq_false (fun z => h z.1)]
    exact Ev.some (fun k => rfl)
/-! ### The reference's functions on paths -/
theorem ref_has (l : List S53) (a : Int) : Ev (fun k => estoversref19_has.f k l a) (decide (isAt l a)) := by
  refine Ev.bindS (ref_check l) ?_
  by_cases h : chk l = 0
  · refine Ev.some (fun k => ?_)
    rw [if_pos h]
    by_cases h1 : a ≥ 0
    · rw [if_pos h1]
      congr 1
      exact decide_eq_decide.2 ⟨fun h2 => ⟨h, h1, h2⟩, fun h2 => h2.2.2⟩
    · rw [if_neg h1, decide_eq_false (show ¬ isAt l a from fun h2 => h1 h2.2.1)]
  · refine Ev.some (fun k => ?_)
    rw [if_neg h, decide_eq_false (show ¬ isAt l a from fun h2 => h h2.1)]
theorem ref_path_l0 {l : List S53} (h : Ok l) : ∀ a, a < l.length → ∀ xs : List Int, xs.length + a ≤ 1000 → Ev (fun k => estoversref19_Path.l0 k l (a : Int) xs) (xs ++ ints (pth l a)) := by
  intro a
  induction a using Nat.strongRecOn with
  | _ a ih =>
    intro ha xs hx
    by_cases h0 : a = 0
    · subst h0
      refine Ev.step (f := fun k => estoversref19_Path.l0 k l (-1) (xs ++ [0])) (fun k => ?_) ?_
      · simp only [estoversref19_Path.l0]
        rw [if_pos (by omega), if_pos (by omega), if_pos (by omega), if_pos (by omega), rd_acc, h.par0]
        rfl
      · refine Ev.step (f := fun _ => some (xs ++ [0])) (fun k => ?_) ?_
        · simp only [estoversref19_Path.l0]
          rw [if_neg (by omega)]
        · rw [pth_zero h]
          exact Ev.now _
    · have hp := h.par_lt ha h0
      have hq := ih _ hp.1 (by omega) (xs ++ [(a : Int)]) (by simp; omega)
      rw [pth_succ h ha h0]
      have e : xs ++ ints (a :: pth l (parOf l a)) = xs ++ [(a : Int)] ++ ints (pth l (parOf l a)) := by simp [ints]
      rw [e]
      refine Ev.step (fun k => ?_) hq
      simp only [estoversref19_Path.l0]
      rw [if_pos (by omega), if_pos (by omega), if_pos (by omega), if_pos (by omega), rd_acc, hp.2]
theorem ref_path (l : List S53) (a : Int) : Ev (fun k => estoversref19_Path.f k l a) (pathI l a) := by
  refine Ev.bindS (ref_has l a) ?_
  unfold pathI
  by_cases h : isAt l a
  · rw [if_pos h, decide_eq_true h]
    refine Ev.congr (fun k => if_pos rfl) ?_
    obtain ⟨n, rfl, hn⟩ := h.nat
    have ho := chk_ok.1 h.1
    have := ho.few
    exact ref_path_l0 ho n hn [] (by simp; omega)
  · rw [if_neg h, decide_eq_false h]
    exact Ev.some (fun k => rfl)

theorem ref_cont (xs : List Int) (s : Int) (hn : xs.length ≤ 1000) : Ev (fun k => estoversref19_Inside.l0 k s xs 0) (decide (s ∈ xs)) := by
  have key : ∀ d i, i + d = xs.length → (∀ j, j < i → xs.getD j 0 ≠ s) → Ev (fun k => estoversref19_Inside.l0 k s xs (i : Int)) (decide (s ∈ xs)) := by
    intro d
    induction d with
    | zero =>
      intro i hi hp
      obtain rfl : i = xs.length := by omega
      rw [decide_eq_false]
      · refine Ev.step (f := fun _ => some false) (fun k => ?_) (Ev.now _)
        simp only [estoversref19_Inside.l0]
        rw [if_neg (by omega)]
      · intro h
        obtain ⟨j, hj, e⟩ := List.mem_iff_getElem.1 h
        exact absurd (by simp [List.getD, hj, e]) (hp j hj)
    | succ d ih =>
      intro i hi hp
      have hil : i < xs.length := by omega
      have e : rd xs (i : Int) = xs.getD i 0 := rfl
      by_cases h : xs.getD i 0 = s
      · rw [decide_eq_true]
        · refine Ev.step (f := fun _ => some true) (fun k => ?_) (Ev.now _)
          simp only [estoversref19_Inside.l0]
          rw [if_pos (by omega), if_pos (by omega), e, if_pos h]
        · rw [← h, List.getD_eq_getElem?_getD, List.getElem?_eq_getElem hil]
          exact List.getElem_mem hil
      · refine Ev.step (fun k => ?_) (ih (i + 1) (by omega) (fun j hj => by
          rcases Nat.lt_succ_iff_lt_or_eq.1 hj with h1 | rfl
          · exact hp j h1
          · exact h))
        simp only [estoversref19_Inside.l0]
        rw [if_pos (by omega), if_pos (by omega), e, if_neg h, w64s hil (by omega)]
  exact key xs.length 0 (by omega) (fun j hj => absurd hj (Nat.not_lt_zero _))
theorem ref_inside (l : List S53) (a s : Int) : Ev (fun k => estoversref19_Inside.f k l a s) (inside l a s) := by
  refine Ev.bindS (ref_has l a) ?_
  unfold inside
  by_cases h : isAt l a
  · rw [decide_eq_true h]
    refine Ev.congr (fun k => if_pos rfl) ?_
    by_cases h1 : s = -1
    · rw [decide_eq_true ⟨h, .inl h1⟩]
      exact Ev.some (fun k => if_pos h1)
    · refine Ev.congr (fun k => if_neg h1) ?_
      rw [decide_eq_decide.2 (show (isAt l a ∧ (s = -1 ∨ s ∈ pathI l a)) ↔ s ∈ pathI l a from ⟨fun z => z.2.resolve_left h1, fun z => ⟨h, .inr z⟩⟩)]
      exact Ev.bindS (ref_path l a) (ref_cont _ s (by have := pathI_len l a; omega))
  · rw [decide_eq_false h, decide_eq_false (fun z => h z.1)]
    exact Ev.some (fun k => rfl)
-- PARTS: base acc1 acc2 acc3 acc4 acc5 acc6 acc6b
/-! ### Loops with a result that is only described -/
theorem Evx.step {α : Type} {g f : Nat → Option α} {Q : α → Prop} (h : ∀ k, g (k + 1) = f k) (k : ∃ r, Ev f r ∧ Q r) : ∃ r, Ev g r ∧ Q r := by
  obtain ⟨r, h1, h2⟩ := k
  exact ⟨r, Ev.step h h1, h2⟩
theorem Evx.ite {α : Type} {c : Prop} [Decidable c] {f g : Nat → Option α} {Q : α → Prop} (h1 : c → ∃ r, Ev f r ∧ Q r) (h2 : ¬ c → ∃ r, Ev g r ∧ Q r) : ∃ r, Ev (fun k => if c then f k else g k) r ∧ Q r := by
  by_cases h : c
  · obtain ⟨r, a, b⟩ := h1 h
    exact ⟨r, Ev.congr (fun k => if_pos h) a, b⟩
  · obtain ⟨r, a, b⟩ := h2 h
    exact ⟨r, Ev.congr (fun k => if_neg h) a, b⟩
theorem Evx.some {α : Type} {Q : α → Prop} {r : α} (h : Q r) : ∃ r', Ev (fun _ => Option.some r) r' ∧ Q r' := ⟨r, Ev.now r, h⟩
theorem Evx.bind {α β : Type} {g : Nat → Option α} {f : Nat → α → Option β} {R : α → Prop} {Q : β → Prop} (h : ∃ a, Ev g a ∧ R a) (k : ∀ a, R a → ∃ r, Ev (fun n => f n a) r ∧ Q r) : ∃ r, Ev (fun n => (g n).bind fun x => f n x) r ∧ Q r := by
  obtain ⟨a, h1, h2⟩ := h
  obtain ⟨r, h3, h4⟩ := k a h2
  exact ⟨r, Ev.bindS h1 h3, h4⟩
theorem Evx.mono {α : Type} {g : Nat → Option α} {Q R : α → Prop} (h : ∃ r, Ev g r ∧ Q r) (hq : ∀ r, Q r → R r) : ∃ r, Ev g r ∧ R r := by
  obtain ⟨r, h1, h2⟩ := h
  exact ⟨r, h1, hq r h2⟩
theorem Evx.of {α : Type} {g : Nat → Option α} {Q : α → Prop} {r : α} (h : Ev g r) (hq : Q r) : ∃ r, Ev g r ∧ Q r := ⟨r, h, hq⟩
/-! ### Pages -/
def pg (P : List S35) (i : Nat) : S35 := rd_T35 P (i : Int)
theorem pg_eq (P : List S35) {i : Nat} (h : i < P.length) : pg P i = P[i] := by
  unfold pg rd_T35
  rw [Int.toNat_natCast, List.getD_eq_getElem?_getD, List.getElem?_eq_getElem h]
  rfl
def pgOk (L : List S53) (p : S35) : Prop := -1 ≤ p.f1 ∧ p.f1 < L.length
theorem pc_loop (L : List S53) (P : List S35) (hP : P.length ≤ 300) : ∀ d i last, i + d = P.length → (∀ j, j < i → pgOk L (pg P j)) → ∃ r, Ev (fun k => reclaimplan_Check.l0 k L last P (P.length : Int) (i : Int)) r ∧ (r = 0 → ∀ j, j < P.length → pgOk L (pg P j)) := by
  intro d
  induction d with
  | zero =>
    intro i last hi hp
    obtain rfl : i = P.length := by omega
    refine Evx.step (fun k => by rw [reclaimplan_Check.l0]) ?_
    exact Evx.ite (fun h => absurd h (by omega)) (fun _ => Evx.some (fun _ => hp))
  | succ d ih =>
    intro i last hi hp
    have hil : i < P.length := by omega
    have e := w64s hil (by omega)
    have key : ∀ last', -1 ≤ (rd_T35 P (i : Int)).f1 → (rd_T35 P (i : Int)).f1 < (L.length : Int) → ∃ r, Ev (fun k => reclaimplan_Check.l0 k L last' P (P.length : Int) (wrap64 ((i : Int) + 1))) r ∧ (r = 0 → ∀ j, j < P.length → pgOk L (pg P j)) := by
      intro last' h1 h2
      rw [e]
      refine ih (i + 1) last' (by omega) (fun j hj => ?_)
      rcases Nat.lt_succ_iff_lt_or_eq.1 hj with h | rfl
      · exact hp j h
      · exact ⟨h1, h2⟩
    refine Evx.step (fun k => by rw [reclaimplan_Check.l0]) ?_
    generalize rd_T35 P (i : Int) = q at *
    refine Evx.ite (fun _ => ?_) (fun h => absurd h (by omega))
    refine Evx.ite (fun _ => ?_) (fun h => absurd h (by omega))
    refine Evx.ite (fun _ => ?_) (fun h => absurd h (by omega))
    have hT : ∀ a b c d e' f g h, ∃ r, Ev (fun k => reclaimplan_Check.j1 k L last P (P.length : Int) (i : Int) true a b c d e' f g) r ∧ (r = 0 → h) := by
      intro a b c d e' f g h
      refine Evx.step (fun k => by rw [reclaimplan_Check.j1]) ?_
      exact Evx.ite (fun _ => Evx.some (fun h => absurd h (by decide))) (fun h => absurd rfl h)
    have hU : ∀ a b c d e' f g h, ∃ r, Ev (fun k => reclaimplan_Check.j2 k L P (P.length : Int) (i : Int) true a b c d e' f g) r ∧ (r = 0 → h) := by
      intro a b c d e' f g h
      refine Evx.step (fun k => by rw [reclaimplan_Check.j2]) ?_
      exact Evx.ite (fun _ => Evx.some (fun h => absurd h (by decide))) (fun h => absurd rfl h)
    refine Evx.ite (fun _ => hT _ _ _ _ _ _ _ _) (fun _ => ?_)
    refine Evx.ite (fun _ => hT _ _ _ _ _ _ _ _) (fun _ => ?_)
    refine Evx.ite (fun _ => hT _ _ _ _ _ _ _ _) (fun h1 => ?_)
    refine Evx.step (fun k => by rw [reclaimplan_Check.j1]) ?_
    refine Evx.ite (fun _ => Evx.some (fun h => absurd h (by decide))) (fun h2 => ?_)
    have h2' : ¬ q.f1 ≥ (L.length : Int) := fun z => h2 (decide_eq_true z)
    refine Evx.ite (fun _ => Evx.some (fun h => absurd h (by decide))) (fun _ => ?_)
    refine Evx.ite (fun _ => hU _ _ _ _ _ _ _ _) (fun _ => ?_)
    refine Evx.ite (fun _ => hU _ _ _ _ _ _ _ _) (fun _ => ?_)
    refine Evx.ite (fun _ => hU _ _ _ _ _ _ _ _) (fun _ => ?_)
    refine Evx.step (fun k => by rw [reclaimplan_Check.j2]) ?_
    refine Evx.ite (fun _ => Evx.some (fun h => absurd h (by decide))) (fun _ => ?_)
    refine Evx.ite (fun _ => ?_) (fun _ => key _ (by omega) (by omega))
    refine Evx.ite (fun _ => key _ (by omega) (by omega)) (fun _ => ?_)
    exact Evx.ite (fun _ => Evx.some (fun h => absurd h (by decide))) (fun _ => key _ (by omega) (by omega))
theorem pc_ev (L : List S53) (P : List S35) (hP : P.length ≤ 300) : ∃ r, Ev (fun k => reclaimplan_Check.f k P L) r ∧ (r = 0 → Ok L ∧ ∀ j, j < P.length → pgOk L (pg P j)) := by
  refine Evx.bind (Evx.of (prog_check L) (Q := fun r => r = chk L) rfl) ?_
  rintro _ rfl
  refine Evx.ite (fun h => ?_) (fun h => Evx.some (fun h2 => absurd h2 h))
  exact Evx.mono (pc_loop L P hP P.length 0 (-1) (by omega) (fun j hj => absurd hj (Nat.not_lt_zero _))) (fun r hr h0 => ⟨chk_ok.1 h, hr h0⟩)
/-! ### The effective guarantees -/
def inB (r : List Int) : Prop := ∀ y, y < r.length → 0 ≤ r.getD y 0 ∧ r.getD y 0 ≤ 1048576
theorem getD_set (r : List Int) (j y : Nat) (v : Int) (hj : j < r.length) : (r.set j v).getD y 0 = if y = j then v else r.getD y 0 := by
  rw [List.getD_eq_getElem?_getD, List.getElem?_set, List.getD_eq_getElem?_getD]
  by_cases h : y = j
  · subst h
    rw [if_pos rfl, if_pos rfl, if_pos hj]
    rfl
  · rw [if_neg (fun e => h e.symm), if_neg h]
theorem inB.set {r : List Int} (h : inB r) {j : Nat} (hj : j < r.length) {v : Int} (h0 : 0 ≤ v) (h1 : v ≤ 1048576) : inB (r.set j v) := by
  intro y hy
  rw [List.length_set] at hy
  rw [getD_set r j y v hj]
  split
  · exact ⟨h0, h1⟩
  · exact h y hy
theorem ef_l1 {L : List S53} (hO : Ok L) (s : List Int) (hs : s.length = L.length) : ∀ d i, i + d = L.length → 1 ≤ i → ∀ r : List Int, r.length = L.length → inB r → (∀ j, 1 ≤ j → j < i → r.getD j 0 ≤ (acc L j).f2) →
    ∃ q, Ev (fun k => protection_Effective.l1 k s r (i : Int) L) q ∧ (q.2 = 0 ∧ q.1.length = L.length ∧ ∀ j, 1 ≤ j → j < L.length → q.1.getD j 0 ≤ (acc L j).f2) := by
  intro d
  induction d with
  | zero =>
    intro i hi h1 r hr hB hp
    refine Evx.step (fun k => by rw [protection_Effective.l1]) ?_
    refine Evx.ite (fun h => absurd h (by omega)) (fun _ => Evx.some ⟨rfl, hr, fun j a b => hp j a (by omega)⟩)
  | succ d ih =>
    intro i hi h1 r hr hB hp
    have hil : i < L.length := by omega
    obtain ⟨p0, p1⟩ := hO.par hil (by omega)
    obtain ⟨a1, a2, _, _⟩ := hO.amt i hil
    unfold inR at a1 a2
    have e := w64s hil (by have := hO.few; omega)
    have hf := hO.few
    have hg := hB (acc L i).f0.toNat (by omega)
    have hpq : ((acc L i).f0.toNat : Int) = (acc L i).f0 := by omega
    refine Evx.step (fun k => by rw [protection_Effective.l1]) ?_
    refine Evx.ite (fun _ => ?_) (fun h => absurd h (by omega))
    refine Evx.ite (fun _ => ?_) (fun h => absurd h (by omega))
    rw [rd_acc]
    refine Evx.ite (fun _ => ?_) (fun h => absurd h (by omega))
    refine Evx.ite (fun _ => ?_) (fun h => absurd h (by omega))
    refine Evx.ite (fun _ => ?_) (fun h => absurd h (by omega))
    refine Evx.bind (Evx.of (Ev.some (r := mn (acc L i).f2 (acc L i).f1) (fun k => by unfold protection_Effective_1.f; rw [if_pos (by omega), rd_acc])) (Q := fun t => t = mn (acc L i).f2 (acc L i).f1) rfl) ?_
    rintro _ rfl
    refine Evx.ite (fun _ => ?_) (fun h => absurd h (by omega))
    have hm : 0 ≤ mn (acc L i).f2 (acc L i).f1 ∧ mn (acc L i).f2 (acc L i).f1 ≤ 1048576 ∧ mn (acc L i).f2 (acc L i).f1 ≤ (acc L i).f2 := by unfold mn; split <;> omega
    generalize mn (acc L i).f2 (acc L i).f1 = t at hm
    refine Evx.bind (Evx.some (Q := fun y => y = r.set i t) rfl) ?_
    rintro _ rfl
    have hgr : rd r (acc L i).f0 = r.getD (acc L i).f0.toNat 0 := rfl
    rw [hgr, e]
    have hB1 := hB.set (j := i) (by omega) hm.1 hm.2.1
    have hrec : ∀ v, 0 ≤ v → v ≤ t → ∃ q, Ev (fun k => protection_Effective.l1 k s ((r.set i t).set i v) ((i + 1 : Nat) : Int) L) q ∧ (q.2 = 0 ∧ q.1.length = L.length ∧ ∀ j, 1 ≤ j → j < L.length → q.1.getD j 0 ≤ (acc L j).f2) := by
      intro v v0 v1
      refine ih (i + 1) (by omega) (by omega) _ (by simp [hr]) (hB1.set (by simp; omega) v0 (by omega)) (fun j j1 j2 => ?_)
      rw [getD_set _ _ _ _ (by simp; omega), getD_set _ _ _ _ (by omega)]
      split
      · rename_i hji
        subst hji
        omega
      · exact hp j j1 (by omega)
    refine Evx.ite (fun hgt => ?_) (fun _ => ?_)
    · refine Evx.ite (fun h => absurd h (by omega)) (fun _ => ?_)
      have ht : rd (r.set i t) (i : Int) = t := by
        show (r.set i t).getD ((i : Int)).toNat 0 = t
        rw [Int.toNat_natCast, getD_set _ _ _ _ (by omega), if_pos rfl]
      rw [ht]
      generalize hG : r.getD (acc L i).f0.toNat 0 = G at *
      generalize rd s (acc L i).f0 = S at *
      have hp1 : 0 ≤ t * G := Int.mul_nonneg hm.1 hg.1
      have hp2 : t * G ≤ 1048576 * 1048576 := Int.mul_le_mul hm.2.1 hg.2 hg.1 (by decide)
      rw [w64 (x := t * G) (by omega) (by omega), Int.tdiv_eq_ediv_of_nonneg hp1]
      have hd0 : 0 ≤ t * G / S := Int.ediv_nonneg hp1 (by omega)
      have hd1 : t * G / S ≤ t := by
        have h3 : t * G ≤ t * S := Int.mul_le_mul_of_nonneg_left (by omega) hm.1
        exact Int.le_trans (Int.ediv_le_ediv (by omega) h3) (by rw [Int.mul_ediv_cancel _ (by omega)]; exact Int.le_refl _)
      rw [w64 (by omega) (by omega)]
      exact hrec _ hd0 hd1
    · have := hrec t hm.1 (Int.le_refl _)
      rw [show (r.set i t).set i t = r.set i t from by rw [List.set_set]] at this
      exact this
theorem ef_l0 {L : List S53} (hO : Ok L) : ∀ i, i < L.length → ∀ s : List Int, s.length = L.length →
    ∃ q, Ev (fun k => protection_Effective.l0 k s (i : Int) L) q ∧ (q.2 = 0 ∧ q.1.length = L.length ∧ ∀ j, 1 ≤ j → j < L.length → q.1.getD j 0 ≤ (acc L j).f2) := by
  have hf := hO.few
  have hpos := hO.pos
  intro i
  induction i with
  | zero =>
    intro _ s hs
    refine Evx.step (fun k => by rw [protection_Effective.l0]) ?_
    refine Evx.ite (fun h => absurd h (by omega)) (fun _ => ?_)
    refine Evx.ite (fun _ => ?_) (fun h => absurd h (by omega))
    refine Evx.ite (fun _ => ?_) (fun h => absurd h (by omega))
    refine Evx.bind (Evx.some (Q := fun y => y = List.replicate L.length 0) (by rw [Int.toNat_natCast])) ?_
    rintro _ rfl
    refine Evx.ite (fun _ => ?_) (fun h => absurd h (by omega))
    refine Evx.ite (fun _ => ?_) (fun h => absurd h (by rw [List.length_replicate]; omega))
    obtain ⟨a1, _, _, _⟩ := hO.amt 0 (by omega)
    unfold inR at a1
    refine ef_l1 hO s hs (L.length - 1) 1 (by omega) (Nat.le_refl _) _ (by simp) ?_ (fun j a b => by omega)
    refine inB.set (j := 0) ?_ (by simp; omega) a1.1 a1.2
    intro y hy
    simp only [List.length_replicate] at hy
    rw [List.getD_eq_getElem?_getD, List.getElem?_replicate, if_pos hy]
    exact ⟨Int.le_refl _, by decide⟩
  | succ i ih =>
    intro hi s hs
    obtain ⟨p0, p1⟩ := hO.par hi (by omega)
    refine Evx.step (fun k => by rw [protection_Effective.l0]) ?_
    refine Evx.ite (fun _ => ?_) (fun h => absurd h (by omega))
    refine Evx.ite (fun _ => ?_) (fun h => absurd h (by omega))
    refine Evx.ite (fun _ => ?_) (fun h => absurd h (by omega))
    rw [rd_acc]
    refine Evx.ite (fun _ => ?_) (fun h => absurd h (by omega))
    refine Evx.ite (fun _ => ?_) (fun h => absurd h (by omega))
    refine Evx.bind (Evx.of (Ev.some (r := mn (acc L (i + 1)).f2 (acc L (i + 1)).f1) (fun k => by unfold protection_Effective_1.f; rw [if_pos (by omega), rd_acc])) (Q := fun t => True) trivial) ?_
    intro t _
    rw [show wrap64 (((i + 1 : Nat) : Int) - 1) = (i : Int) from by rw [w64 (by omega) (by omega)]; omega]
    exact ih (by omega) _ (by simp [hs])
theorem ef_ev {L : List S53} (hO : Ok L) : ∃ q, Ev (fun k => protection_Effective.f k L) q ∧ (q.2 = 0 ∧ q.1.length = L.length ∧ ∀ j, 1 ≤ j → j < L.length → q.1.getD j 0 ≤ (acc L j).f2) := by
  have hf := hO.few
  have hpos := hO.pos
  refine Evx.bind (Evx.of (prog_check L) (Q := fun r => r = chk L) rfl) ?_
  rintro _ rfl
  refine Evx.ite (fun _ => ?_) (fun h => absurd (chk_ok.2 hO) h)
  refine Evx.ite (fun _ => ?_) (fun h => absurd h (by omega))
  refine Evx.ite (fun _ => ?_) (fun h => absurd h (by omega))
  rw [show wrap64 ((L.length : Int) - 1) = ((L.length - 1 : Nat) : Int) from by rw [w64 (by omega) (by omega)]; omega]
  exact ef_l0 hO (L.length - 1) (by omega) _ (by simp)
/-! ### What is inside an account -/
def sumTo (f : Nat → Int) : Nat → Int
  | 0 => 0
  | m + 1 => sumTo f m + f m
theorem sumTo_eq {f g : Nat → Int} : ∀ m, (∀ y, y < m → g y = f y) → sumTo g m = sumTo f m
  | 0, _ => rfl
  | m + 1, h => by rw [sumTo, sumTo, sumTo_eq m (fun y hy => h y (by omega)), h m (by omega)]
theorem sumTo_upd {f g : Nat → Int} {j : Nat} : ∀ m, (∀ y, y < m → y ≠ j → g y = f y) → j < m → sumTo g m = sumTo f m + (g j - f j)
  | 0, _, h => absurd h (Nat.not_lt_zero _)
  | m + 1, h, hj => by
    rw [sumTo, sumTo]
    by_cases e : m = j
    · subst e
      rw [sumTo_eq m (fun y hy => h y (by omega) (by omega))]
      omega
    · rw [sumTo_upd m (fun y hy hn => h y (by omega) hn) (by omega), h m (by omega) e]
      omega
theorem sumTo_zero {f : Nat → Int} : ∀ m, (∀ y, y < m → f y = 0) → sumTo f m = 0
  | 0, _ => rfl
  | m + 1, h => by rw [sumTo, sumTo_zero m (fun y hy => h y (by omega)), h m (by omega)]; rfl
theorem sumTo_bd {f : Nat → Int} {c : Int} (hc : 0 ≤ c) : ∀ m, (∀ y, y < m → 0 ≤ f y ∧ f y ≤ c) → 0 ≤ sumTo f m ∧ sumTo f m ≤ c * m
  | 0, _ => by simp [sumTo]
  | m + 1, h => by
    have h1 := sumTo_bd hc m (fun y hy => h y (by omega))
    have h2 := h m (by omega)
    rw [sumTo]
    have e : c * ((m + 1 : Nat) : Int) = c * m + c := by rw [Int.natCast_add, Int.mul_add]; simp
    rw [e]
    omega
/-- What the numbers of a list come to below an account. -/
def tot (L : List S53) (lv : List Int) (x : Nat) : Int := sumTo (fun y => if x ∈ pth L y then lv.getD y 0 else 0) L.length
def sw (L : List S53) (lv r : List Int) (x m : Nat) : Int := sumTo (fun y => if x ∈ pth L y then lv.getD y 0 + r.getD y 0 else 0) m
def bd (m : Nat) : Int := 1048576 * 3 ^ (8 - m)
theorem bd_step : ∀ m, m < 8 → 2 * bd (m + 1) + 1048576 ≤ bd m ∧ bd m ≤ 1000000000000 ∧ 0 ≤ bd (m + 1) := by decide
def inD (r : List Int) (c : Int) : Prop := ∀ y, y < r.length → 0 ≤ r.getD y 0 ∧ r.getD y 0 ≤ c
theorem inD.set {r : List Int} {c c' : Int} (h : inD r c) (hc : c ≤ c') {j : Nat} (hj : j < r.length) {v : Int} (h0 : 0 ≤ v) (h1 : v ≤ c') : inD (r.set j v) c' := by
  intro y hy
  rw [List.length_set] at hy
  rw [getD_set r j y v hj]
  have := h y hy
  split
  · exact ⟨h0, h1⟩
  · exact ⟨this.1, by omega⟩
theorem in_l0 {L : List S53} (hO : Ok L) {lv : List Int} (hlv : lv.length = L.length) (hl : inB lv) : ∀ m, m ≤ L.length → ∀ r : List Int, r.length = L.length → inD r (bd m) →
    ∃ q, Ev (fun k => protection_inside.l0 k L lv r ((m : Int) - 1)) q ∧ (q.length = L.length ∧ (∀ x, x < m → q.getD x 0 = sw L lv r x m) ∧ ∀ x, m ≤ x → x < L.length → q.getD x 0 = r.getD x 0) := by
  have hf := hO.few
  intro m
  induction m with
  | zero =>
    intro _ r hr hB
    refine Evx.step (fun k => by rw [protection_inside.l0]) ?_
    exact Evx.ite (fun h => absurd h (by omega)) (fun _ => Evx.some ⟨hr, fun x hx => absurd hx (Nat.not_lt_zero _), fun x _ _ => rfl⟩)
  | succ m ih =>
    intro hm r hr hB
    have hml : m < L.length := by omega
    obtain ⟨b1, b2, b3⟩ := bd_step m (by omega)
    have hrm := hB m (by omega)
    have hlm := hl m (by omega)
    rw [show ((m + 1 : Nat) : Int) - 1 = (m : Int) by omega]
    refine Evx.step (fun k => by rw [protection_inside.l0]) ?_
    refine Evx.ite (fun _ => ?_) (fun h => absurd h (by omega))
    refine Evx.ite (fun _ => ?_) (fun h => absurd h (by omega))
    refine Evx.ite (fun _ => ?_) (fun h => absurd h (by omega))
    refine Evx.ite (fun _ => ?_) (fun h => absurd h (by omega))
    have e1 : rd r (m : Int) = r.getD m 0 := rfl
    have e2 : rd lv (m : Int) = lv.getD m 0 := rfl
    rw [e1, e2, w64 (x := r.getD m 0 + lv.getD m 0) (by omega) (by omega), Int.toNat_natCast]
    refine Evx.bind (Evx.some (Q := fun y => y = r.set m (r.getD m 0 + lv.getD m 0)) rfl) ?_
    rintro _ rfl
    have hlast : sw L lv r m (m + 1) = r.getD m 0 + lv.getD m 0 := by
      unfold sw
      rw [sumTo, sumTo_zero m (fun y hy => if_neg (fun h => by have := pth_le hO y (by omega) m h; omega)), if_pos (pth_self m)]
      omega
    rw [show wrap64 ((m : Int) - 1) = (m : Int) - 1 from w64 (by omega) (by omega)]
    refine Evx.ite (fun h0 => ?_) (fun h0 => ?_)
    · obtain ⟨p1, p2⟩ := hO.par_lt hml (by omega)
      refine Evx.ite (fun _ => ?_) (fun h => absurd h (by omega))
      rw [rd_acc, p2]
      refine Evx.ite (fun _ => ?_) (fun h => absurd h (by omega))
      refine Evx.ite (fun _ => ?_) (fun h => absurd h (by omega))
      have hrp := hB (parOf L m) (by omega)
      have e3 : rd (r.set m (r.getD m 0 + lv.getD m 0)) (parOf L m : Int) = r.getD (parOf L m) 0 := by
        show (r.set m _).getD ((parOf L m : Int)).toNat 0 = _
        rw [Int.toNat_natCast, getD_set _ _ _ _ (by omega), if_neg (by omega)]
      have e4 : rd (r.set m (r.getD m 0 + lv.getD m 0)) (m : Int) = r.getD m 0 + lv.getD m 0 := by
        show (r.set m _).getD ((m : Int)).toNat 0 = _
        rw [Int.toNat_natCast, getD_set _ _ _ _ (by omega), if_pos rfl]
      rw [e3, e4, w64 (by omega) (by omega), Int.toNat_natCast]
      have hB1 : inD (r.set m (r.getD m 0 + lv.getD m 0)) (bd m) := hB.set (by omega) (by omega) (by omega) (by omega)
      have hB2 : inD ((r.set m (r.getD m 0 + lv.getD m 0)).set (parOf L m) (r.getD (parOf L m) 0 + (r.getD m 0 + lv.getD m 0))) (bd m) := hB1.set (Int.le_refl _) (by simp; omega) (by omega) (by omega)
      have hget : ∀ y, ((r.set m (r.getD m 0 + lv.getD m 0)).set (parOf L m) (r.getD (parOf L m) 0 + (r.getD m 0 + lv.getD m 0))).getD y 0 = if y = parOf L m then r.getD (parOf L m) 0 + (r.getD m 0 + lv.getD m 0) else if y = m then r.getD m 0 + lv.getD m 0 else r.getD y 0 := fun y => by
        rw [getD_set _ _ _ _ (by simp; omega), getD_set _ _ _ _ (by omega)]
      have hl2 : ((r.set m (r.getD m 0 + lv.getD m 0)).set (parOf L m) (r.getD (parOf L m) 0 + (r.getD m 0 + lv.getD m 0))).length = L.length := by simp [hr]
      generalize (r.set m (r.getD m 0 + lv.getD m 0)).set (parOf L m) (r.getD (parOf L m) 0 + (r.getD m 0 + lv.getD m 0)) = r2 at *
      refine Evx.mono (ih (by omega) _ hl2 hB2) ?_
      rintro q ⟨q1, q2, q3⟩
      refine ⟨q1, fun x hx => ?_, fun x hx hx2 => ?_⟩
      · by_cases hxm : x = m
        · subst hxm
          rw [q3 x (Nat.le_refl _) hml, hget, if_neg (by omega), if_pos rfl, hlast]
        · rw [q2 x (by omega)]
          unfold sw
          have hsum := sumTo_upd (j := parOf L m) (f := fun y => if x ∈ pth L y then lv.getD y 0 + r.getD y 0 else 0) (g := fun y => if x ∈ pth L y then lv.getD y 0 + r2.getD y 0 else 0) m (fun y hy hn => by
            rw [hget y, if_neg hn, if_neg (show ¬ y = m by omega)]) p1
          rw [hsum, sumTo, hget (parOf L m), if_pos rfl, pth_succ hO hml (by omega)]
          have : x ∈ m :: pth L (parOf L m) ↔ x ∈ pth L (parOf L m) := by simp [hxm]
          by_cases hin : x ∈ pth L (parOf L m)
          · rw [if_pos hin, if_pos hin, if_pos (this.2 hin)]
            omega
          · rw [if_neg hin, if_neg hin, if_neg (fun h => hin (this.1 h))]
            omega
      · rw [q3 x (by omega) hx2, hget, if_neg (by omega), if_neg (by omega)]
    · have hm0 : m = 0 := by omega
      subst hm0
      refine Evx.mono (ih (by omega) _ (by simp [hr]) (hB.set (by omega) (by omega) (by omega) (by omega))) ?_
      rintro q ⟨q1, q2, q3⟩
      refine ⟨q1, fun x hx => ?_, fun x hx hx2 => ?_⟩
      · obtain rfl : x = 0 := by omega
        rw [q3 0 (Nat.le_refl _) hml, getD_set _ _ _ _ (by omega), if_pos rfl, hlast]
      · rw [q3 x (by omega) hx2, getD_set _ _ _ _ (by omega), if_neg (by omega)]
theorem in_ev {L : List S53} (hO : Ok L) {lv : List Int} (hlv : lv.length = L.length) (hl : inB lv) : ∃ q, Ev (fun k => protection_inside.f k L lv) q ∧ (q.length = L.length ∧ ∀ x, x < L.length → q.getD x 0 = tot L lv x) := by
  have hf := hO.few
  have hpos := hO.pos
  refine Evx.ite (fun _ => ?_) (fun h => absurd h (by omega))
  refine Evx.ite (fun _ => ?_) (fun h => absurd h (by omega))
  rw [show wrap64 ((L.length : Int) - 1) = (L.length : Int) - 1 from w64 (by omega) (by omega), Int.toNat_natCast]
  have hz : ∀ y, (List.replicate L.length (0 : Int)).getD y 0 = 0 := fun y => by
    rw [List.getD_eq_getElem?_getD, List.getElem?_replicate]
    split <;> rfl
  refine Evx.mono (in_l0 hO hlv hl L.length (Nat.le_refl _) _ (by simp) (fun y _ => ?_)) ?_
  · rw [hz]
    refine ⟨Int.le_refl _, ?_⟩
    by_cases h8 : L.length = 8
    · rw [h8]; decide
    · have := bd_step L.length (by omega)
      omega
  · rintro q ⟨q1, q2, _⟩
    refine ⟨q1, fun x hx => ?_⟩
    rw [q2 x hx]
    unfold sw tot
    refine sumTo_eq _ (fun y _ => ?_)
    rw [hz, Int.add_zero]
/-! ### Guarded -/
theorem va_ev {L : List S53} (hO : Ok L) {lv : List Int} (hlv : lv.length = L.length) (hl : inB lv) : Ev (fun k => protection_valid.f k L lv) true := by
  have hf := hO.few
  have h : ∃ r, Ev (fun k => protection_valid.f k L lv) r ∧ r = true := by
    refine Evx.bind (Evx.of (prog_check L) (Q := fun r => r = chk L) rfl) ?_
    rintro _ rfl
    refine Evx.ite (fun _ => ?_) (fun h => absurd (chk_ok.2 hO) h)
    refine Evx.step (fun k => by rw [protection_valid.j0]) ?_
    refine Evx.ite (fun h => absurd h (by rw [hlv]; simp)) (fun _ => ?_)
    have key : ∀ d i, i + d = lv.length → ∃ r, Ev (fun k => protection_valid.l0 k lv (lv.length : Int) (i : Int)) r ∧ r = true := by
      intro d
      induction d with
      | zero =>
        intro i hi
        refine Evx.step (fun k => by rw [protection_valid.l0]) ?_
        exact Evx.ite (fun h => absurd h (by omega)) (fun _ => Evx.some rfl)
      | succ d ih =>
        intro i hi
        have h1 := hl i (by omega)
        have e : rd lv (i : Int) = lv.getD i 0 := rfl
        refine Evx.step (fun k => by rw [protection_valid.l0]) ?_
        refine Evx.ite (fun _ => ?_) (fun h => absurd h (by omega))
        refine Evx.ite (fun _ => ?_) (fun h => absurd h (by omega))
        refine Evx.ite (fun _ => ?_) (fun h => absurd h (by omega))
        rw [e]
        refine Evx.ite (fun h => absurd h (by omega)) (fun _ => ?_)
        refine Evx.ite (fun h => absurd h (by omega)) (fun _ => ?_)
        rw [w64s (n := lv.length) (by omega) (by omega)]
        exact ih (i + 1) (by omega)
    exact key lv.length 0 (by omega)
  obtain ⟨r, h1, rfl⟩ := h
  exact h1
/-- No account on the way up would fall to its guarantee. -/
def open_ (L : List S53) (gone : List Int) (a : Nat) : Prop := ∀ x, x ∈ pth L a → 0 < x → (acc L x).f2 < (acc L x).f1 - gone.getD x 0
theorem gu_l0 {L : List S53} (hO : Ok L) (low : Bool) {gone : List Int} (hg : gone.length = L.length) (hgb : ∀ x, x < L.length → 0 ≤ gone.getD x 0 ∧ gone.getD x 0 ≤ 100000000) : ∀ n a, a ≤ n → a < L.length → ∀ g : Bool,
    ∃ r, Ev (fun k => protection_Guarded.l0 k L low gone 0 g (a : Int)) r ∧ (r = false → g = false ∧ (low = false → open_ L gone a)) := by
  intro n
  induction n with
  | zero =>
    intro a ha hl g
    obtain rfl : a = 0 := by omega
    refine Evx.step (fun k => by rw [protection_Guarded.l0]) ?_
    refine Evx.ite (fun h => absurd h (by omega)) (fun _ => ?_)
    refine Evx.ite (fun _ => Evx.some (fun h => absurd h (by decide))) (fun h => Evx.some (fun _ => ⟨by simpa using h, fun _ x hx h0 => ?_⟩))
    rw [pth_zero hO] at hx
    simp at hx
    omega
  | succ n ih =>
    intro a ha hl g
    by_cases h0 : a = 0
    · subst h0
      refine Evx.step (fun k => by rw [protection_Guarded.l0]) ?_
      refine Evx.ite (fun h => absurd h (by omega)) (fun _ => ?_)
      refine Evx.ite (fun _ => Evx.some (fun h => absurd h (by decide))) (fun h => Evx.some (fun _ => ⟨by simpa using h, fun _ x hx h0 => ?_⟩))
      rw [pth_zero hO] at hx
      simp at hx
      omega
    · obtain ⟨p1, p2⟩ := hO.par_lt hl h0
      obtain ⟨a1, a2, a3, _⟩ := hO.amt a hl
      unfold inR at a1 a2 a3
      have hb := hgb a hl
      have hrec := fun g' => ih (parOf L a) (by omega) (by omega) g'
      have hT : ∀ Q : Prop, ∃ r, Ev (fun k => protection_Guarded.l0 k L low gone 0 true (parOf L a : Int)) r ∧ (r = false → Q) := fun Q => Evx.mono (hrec true) (fun r hr h => absurd (hr h).1 (by decide))
      have e1 : rd gone (a : Int) = gone.getD a 0 := rfl
      refine Evx.step (fun k => by rw [protection_Guarded.l0]) ?_
      refine Evx.ite (fun _ => ?_) (fun h => absurd h (by omega))
      refine Evx.ite (fun _ => ?_) (fun h => absurd h (by omega))
      refine Evx.ite (fun _ => ?_) (fun h => absurd h (by omega))
      rw [rd_acc, p2, e1, w64 (x := (acc L a).f1 - gone.getD a 0) (by omega) (by omega)]
      refine Evx.ite (fun hlow => ?_) (fun hlow => ?_)
      · refine Evx.ite (fun _ => hT _) (fun hg' => ?_)
        refine Evx.ite (fun _ => ?_) (fun h => absurd h (by omega))
        refine Evx.mono (hrec _) (fun r hr h => ⟨by simpa using hg', fun hl2 => by rw [hl2] at hlow; exact absurd hlow (by decide)⟩)
      · refine Evx.ite (fun _ => hT _) (fun hg' => ?_)
        refine Evx.ite (fun _ => ?_) (fun h => absurd h (by omega))
        refine Evx.mono (hrec _) (fun r hr h => ⟨by simpa using hg', fun hl2 x hx hx0 => ?_⟩)
        obtain ⟨h1, h2⟩ := hr h
        have h1' := of_decide_eq_false h1
        rw [pth_succ hO hl h0] at hx
        rcases List.mem_cons.1 hx with rfl | hx
        · omega
        · exact h2 hl2 x hx hx0
theorem tot_bd {L : List S53} (hO : Ok L) {lv : List Int} (hlv : lv.length = L.length) (hl : inB lv) (x : Nat) : 0 ≤ tot L lv x ∧ tot L lv x ≤ 100000000 := by
  have hf := hO.few
  have h := sumTo_bd (f := fun y => if x ∈ pth L y then lv.getD y 0 else 0) (c := 1048576) (by decide) L.length (fun y hy => by
    have := hl y (by omega)
    split <;> omega)
  unfold tot
  omega
theorem gu_ev {L : List S53} (hO : Ok L) {lv : List Int} (hlv : lv.length = L.length) (hl : inB lv) (low : Bool) {a : Nat} (ha : a < L.length) :
    ∃ r, Ev (fun k => protection_Guarded.f k L lv (a : Int) (-1) low) r ∧ (r = false → low = false → ∀ x, x ∈ pth L a → 0 < x → (acc L x).f2 < (acc L x).f1 - tot L lv x) := by
  refine Evx.bind (Evx.of (va_ev hO hlv hl) (Q := fun r => r = true) rfl) ?_
  rintro _ rfl
  refine Evx.ite (fun _ => ?_) (fun h => absurd rfl h)
  refine Evx.ite (fun h => absurd h (by omega)) (fun _ => ?_)
  refine Evx.ite (fun h => absurd h (by omega)) (fun _ => ?_)
  refine Evx.ite (fun h => absurd h (by omega)) (fun _ => ?_)
  refine Evx.step (fun k => by rw [protection_Guarded.j0]) ?_
  refine Evx.ite (fun h => absurd (of_decide_eq_true h) (by omega)) (fun _ => ?_)
  refine Evx.bind (in_ev hO hlv hl) ?_
  rintro gone ⟨g1, g2⟩
  rw [show mx (-1) 0 = 0 from rfl]
  refine Evx.mono (gu_l0 hO low g1 (fun x hx => by rw [g2 x hx]; exact tot_bd hO hlv hl x) a a (Nat.le_refl _) ha false) (fun r hr h hlow x hx h0 => ?_)
  have := (hr h).2 hlow x hx h0
  rw [g2 x (by have := pth_le hO a ha x hx; omega)] at this
  exact this
/-! ### Leaving pages -/
theorem inside_nat {L : List S53} (hO : Ok L) {a : Nat} (ha : a < L.length) (x : Nat) : inside L (a : Int) (x : Int) = decide (x ∈ pth L a) := by
  have hat : isAt L (a : Int) := ⟨chk_ok.2 hO, by omega, by omega⟩
  unfold inside
  refine decide_eq_decide.2 ⟨fun h => ?_, fun h => ⟨hat, .inr ?_⟩⟩
  · have h2 := h.2.resolve_left (by omega)
    unfold pathI at h2
    rw [if_pos hat, Int.toNat_natCast] at h2
    exact (mem_ints _ _).1 h2
  · unfold pathI
    rw [if_pos hat, Int.toNat_natCast]
    exact (mem_ints _ _).2 h
theorem inside_neg {L : List S53} {a : Int} (ha : a < 0) (s : Int) : inside L a s = false := decide_eq_false (fun h => by have := h.1.2.1; omega)
def cntL (L : List S53) (x : Nat) : List S35 → Int
  | [] => 0
  | p :: ps => (if p.f6 = true ∧ inside L p.f1 (x : Int) = true then 1 else 0) + cntL L x ps
theorem cntL_app (L : List S53) (x : Nat) : ∀ a b : List S35, cntL L x (a ++ b) = cntL L x a + cntL L x b
  | [], b => by simp [cntL]
  | p :: a, b => by
    rw [List.cons_append, cntL, cntL, cntL_app L x a b]
    omega
theorem cntL_bd (L : List S53) (x : Nat) : ∀ a : List S35, 0 ≤ cntL L x a ∧ cntL L x a ≤ a.length
  | [] => by simp [cntL]
  | p :: a => by
    have := cntL_bd L x a
    rw [cntL, List.length_cons]
    split <;> omega
theorem take_succ_pg (P : List S35) {i : Nat} (h : i < P.length) : P.take (i + 1) = P.take i ++ [pg P i] := by
  rw [List.take_succ_eq_append_getElem h, pg_eq P h]
theorem drop_pg (P : List S35) {i : Nat} (h : i < P.length) : P.drop i = pg P i :: P.drop (i + 1) := by
  rw [List.drop_eq_getElem_cons h, pg_eq P h]
theorem tot_set {L : List S53} {lv : List Int} (hlv : lv.length = L.length) {a : Nat} (ha : a < L.length) (v : Int) (x : Nat) : tot L (lv.set a v) x = tot L lv x + if x ∈ pth L a then v - lv.getD a 0 else 0 := by
  have h := sumTo_upd (j := a) (f := fun y => if x ∈ pth L y then lv.getD y 0 else 0) (g := fun y => if x ∈ pth L y then (lv.set a v).getD y 0 else 0) L.length (fun y hy hn => by
    rw [getD_set _ _ _ _ (by omega), if_neg hn]) ha
  unfold tot
  rw [h, getD_set _ _ _ _ (by omega), if_pos rfl]
  split <;> omega
/-! ### The question -/
abbrev hfree (L : List S53) (P : List S35) (j : Nat) : Prop := ∀ x, x ∈ pth L j → 0 < x → (acc L x).f2 < (acc L x).f1 - cntL L x P
theorem ak_l1 {L : List S53} (hO : Ok L) (P : List S35) {lv : List Int} (hlv : lv.length = L.length) (hl : inB lv) (ht : ∀ x, tot L lv x = cntL L x P) : ∀ d i, i + d = L.length → ∀ q : List (Bool × Bool), q.length = i → (∀ j, j < i → (q.getD j (true, true)).1 = false → hfree L P j) →
    ∃ r, Ev (fun k => reclaimplan_ask.l1 k L (-1) q lv (L.length : Int) (i : Int)) r ∧ (r.2 = 0 ∧ r.1.length = L.length ∧ ∀ j, j < L.length → (r.1.getD j (true, true)).1 = false → hfree L P j) := by
  have hf := hO.few
  intro d
  induction d with
  | zero =>
    intro i hi q hq hp
    obtain rfl : i = L.length := by omega
    refine Evx.step (fun k => by rw [reclaimplan_ask.l1]) ?_
    exact Evx.ite (fun h => absurd h (by omega)) (fun _ => Evx.some ⟨rfl, hq, hp⟩)
  | succ d ih =>
    intro i hi q hq hp
    have hil : i < L.length := by omega
    refine Evx.step (fun k => by rw [reclaimplan_ask.l1]) ?_
    refine Evx.ite (fun _ => ?_) (fun h => absurd h (by omega))
    refine Evx.bind (Evx.of (prog_inside L (i : Int) (-1)) (Q := fun _ => True) trivial) (fun t _ => ?_)
    refine Evx.bind (gu_ev hO hlv hl false hil) (fun g hg => ?_)
    refine Evx.bind (gu_ev hO hlv hl true hil) (fun g2 _ => ?_)
    refine Evx.ite (fun _ => ?_) (fun h => absurd h (by omega))
    rw [w64s hil (by omega)]
    refine ih (i + 1) (by omega) _ (by simp [hq]) (fun j hj hgj => ?_)
    by_cases hji : j = i
    · subst hji
      have e : (q ++ [(g, g2)]).getD j (true, true) = (g, g2) := by
        rw [List.getD_eq_getElem?_getD, List.getElem?_append_right (by omega), hq]
        simp
      rw [e] at hgj
      intro x hx h0
      have := hg hgj rfl x hx h0
      rw [ht x] at this
      exact this
    · refine hp j (by omega) ?_
      have e : (q ++ [(g, g2)]).getD j (true, true) = q.getD j (true, true) := by
        rw [List.getD_eq_getElem?_getD, List.getElem?_append_left (by omega), List.getD_eq_getElem?_getD]
      rw [e] at hgj
      exact hgj
theorem ak_l0 {L : List S53} (hO : Ok L) (P : List S35) (hP : P.length ≤ 300) (hpg : ∀ j, j < P.length → pgOk L (pg P j)) {Q : List (Bool × Bool) × Int → Prop}
    (K : ∀ lv : List Int, lv.length = L.length → inB lv → (∀ x, tot L lv x = cntL L x P) → ∃ r, Ev (fun k => reclaimplan_ask.l1 k L (-1) [] lv (L.length : Int) 0) r ∧ Q r) :
    ∀ d i, i + d = P.length → ∀ lv : List Int, lv.length = L.length → inD lv (i : Int) → (∀ x, tot L lv x = cntL L x (P.take i)) → ∃ r, Ev (fun k => reclaimplan_ask.l0 k L (-1) [] lv P (P.length : Int) (i : Int)) r ∧ Q r := by
  intro d
  induction d with
  | zero =>
    intro i hi lv hlv hb ht
    obtain rfl : i = P.length := by omega
    refine Evx.step (fun k => by rw [reclaimplan_ask.l0]) ?_
    refine Evx.ite (fun h => absurd h (by omega)) (fun _ => ?_)
    refine K lv hlv (fun y hy => ?_) (fun x => by rw [ht x, List.take_length])
    have := hb y hy
    omega
  | succ d ih =>
    intro i hi lv hlv hb ht
    have hil : i < P.length := by omega
    obtain ⟨q1, q2⟩ := hpg i hil
    have hb' : inD lv ((i + 1 : Nat) : Int) := fun y hy => by have := hb y hy; omega
    have hgo : ∀ lv' : List Int, lv'.length = L.length → inD lv' ((i + 1 : Nat) : Int) → (∀ x, tot L lv' x = tot L lv x + if (pg P i).f6 = true ∧ inside L (pg P i).f1 (x : Int) = true then 1 else 0) → ∃ r, Ev (fun k => reclaimplan_ask.l0 k L (-1) [] lv' P (P.length : Int) (wrap64 ((i : Int) + 1))) r ∧ Q r := by
      intro lv' h1 h2 h3
      rw [w64s hil (by omega)]
      refine ih (i + 1) (by omega) lv' h1 h2 (fun x => ?_)
      rw [h3 x, ht x, take_succ_pg P hil, cntL_app, cntL, cntL]
      omega
    refine Evx.step (fun k => by rw [reclaimplan_ask.l0]) ?_
    refine Evx.ite (fun _ => ?_) (fun h => absurd h (by omega))
    refine Evx.ite (fun _ => ?_) (fun h => absurd h (by omega))
    refine Evx.ite (fun _ => ?_) (fun h => absurd h (by omega))
    have e : rd_T35 P (i : Int) = pg P i := rfl
    rw [e]
    refine Evx.ite (fun h6 => ?_) (fun h6 => hgo lv hlv hb' (fun x => by rw [if_neg (fun h => h6 h.1)]; omega))
    refine Evx.ite (fun h1 => ?_) (fun h1 => hgo lv hlv hb' (fun x => by rw [if_neg (fun h => by rw [inside_neg (by omega)] at h; exact absurd h.2 (by decide))]; omega))
    refine Evx.ite (fun _ => ?_) (fun h => absurd h (by omega))
    refine Evx.ite (fun _ => ?_) (fun h => absurd h (by omega))
    obtain ⟨a, ha⟩ : ∃ a : Nat, (pg P i).f1 = (a : Int) := ⟨(pg P i).f1.toNat, by omega⟩
    have hal : a < L.length := by omega
    rw [ha, Int.toNat_natCast]
    have e2 : rd lv (a : Int) = lv.getD a 0 := rfl
    have hba := hb a (by omega)
    rw [e2, w64 (by omega) (by omega)]
    refine hgo _ (by simp [hlv]) (hb.set (by omega) (by omega) (by omega) (by omega)) (fun x => ?_)
    rw [tot_set hlv hal, ha, inside_nat hO hal]
    by_cases hx : x ∈ pth L a
    · rw [if_pos hx, if_pos ⟨h6, decide_eq_true hx⟩]
      omega
    · rw [if_neg hx, if_neg (fun h => hx (of_decide_eq_true h.2))]
theorem ak_ev (L : List S53) (P : List S35) (hP : P.length ≤ 300) (kern : Bool) : ∃ r, Ev (fun k => reclaimplan_ask.f k P L (-1) kern) r ∧ (r.2 = 0 → Ok L ∧ (∀ j, j < P.length → pgOk L (pg P j)) ∧ r.1.length = L.length ∧ ∀ j, j < L.length → (r.1.getD j (true, true)).1 = false → hfree L P j) := by
  refine Evx.bind (pc_ev L P hP) (fun t ht => ?_)
  refine Evx.ite (fun h0 => ?_) (fun h0 => Evx.some (fun h => absurd h h0))
  obtain ⟨hO, hpg⟩ := ht h0
  refine Evx.ite (fun h => absurd h (by decide)) (fun _ => ?_)
  refine Evx.step (fun k => by rw [reclaimplan_ask.j0]) ?_
  refine Evx.ite (fun h => absurd (of_decide_eq_true h) (by omega)) (fun _ => ?_)
  have hf := hO.few
  refine Evx.ite (fun _ => ?_) (fun h => absurd h (by omega))
  refine Evx.ite (fun _ => ?_) (fun h => absurd h (by omega))
  rw [Int.toNat_natCast]
  have hz : ∀ y, (List.replicate L.length (0 : Int)).getD y 0 = 0 := fun y => by
    rw [List.getD_eq_getElem?_getD, List.getElem?_replicate]
    split <;> rfl
  refine ak_l0 hO P hP hpg (fun lv h1 h2 h3 => ?_) P.length 0 (by omega) _ (by simp) (fun y _ => by rw [hz]; exact ⟨Int.le_refl _, Int.le_refl _⟩) (fun x => ?_)
  · exact Evx.mono (ak_l1 hO P h1 h2 h3 L.length 0 (by omega) [] rfl (fun j hj => absurd hj (Nat.not_lt_zero _))) (fun r hr _ => ⟨hO, hpg, hr.2.1, hr.2.2⟩)
  · exact sumTo_zero _ (fun y _ => by rw [hz]; split <;> rfl)
/-! ### Next -/
theorem nxF_mem (l0 : List S35) (hard soft : List Bool) (kern : Bool) : ∀ (ps : List S35) (i best : Int) (pref : Bool), nxF l0 hard soft kern ps i best pref = best ∨ ∃ j, j < ps.length ∧ nxF l0 hard soft kern ps i best pref = i + (j : Int) ∧ rsn hard kern (pg ps j) = 0
  | [], _, _, _ => .inl rfl
  | p :: ps, i, best, pref => by
    have e0 : pg (p :: ps) 0 = p := by rw [pg_eq _ (by simp)]; rfl
    have es : ∀ j, j < ps.length → pg (p :: ps) (j + 1) = pg ps j := fun j hj => by rw [pg_eq _ (by simp; omega), pg_eq _ hj]; rfl
    rw [nxF]
    split
    · rename_i h
      rcases nxF_mem l0 hard soft kern ps (i + 1) i (nxOpen soft p) with h1 | ⟨j, hj, h1, h2⟩
      · exact .inr ⟨0, by simp, by rw [h1]; omega, by rw [e0]; exact h.1⟩
      · exact .inr ⟨j + 1, by simp; omega, by rw [h1]; omega, by rw [es j hj]; exact h2⟩
    · rcases nxF_mem l0 hard soft kern ps (i + 1) best pref with h1 | ⟨j, hj, h1, h2⟩
      · exact .inl h1
      · exact .inr ⟨j + 1, by simp; omega, by rw [h1]; omega, by rw [es j hj]; exact h2⟩
theorem rsn_zero {hard : List Bool} {kern : Bool} {x : S35} (h : rsn hard kern x = 0) : x.f6 = false ∧ (x.f1 < 0 ∨ bget hard x.f1 = false) := by
  unfold rsn at h
  split at h
  · exact absurd h (by decide)
  split at h
  · exact absurd h (by decide)
  rename_i h6
  refine ⟨by simpa using h6, ?_⟩
  split at h
  · rename_i h3
    exact absurd h h3.1
  split at h
  · exact absurd h (by decide)
  rename_i hb
  by_cases h1 : x.f1 < 0
  · exact .inl h1
  · refine .inr ?_
    rw [decide_eq_true (show 0 ≤ x.f1 by omega)] at hb
    simpa using hb
theorem nx_ev (L : List S53) (P : List S35) (hP : P.length ≤ 300) (kern : Bool) : ∃ r, Ev (fun k => reclaimplan_Next.f k P L (-1) kern) r ∧ (0 ≤ r → ∃ j : Nat, r = (j : Int) ∧ j < P.length ∧ Ok L ∧ pgOk L (pg P j) ∧ (pg P j).f6 = false ∧ (0 ≤ (pg P j).f1 → hfree L P (pg P j).f1.toNat)) := by
  refine Evx.ite (fun _ => ?_) (fun h => absurd ⟨rfl, by omega⟩ h)
  refine Evx.bind (ak_ev L P hP kern) (fun hs hh => ?_)
  refine Evx.ite (fun h0 => ?_) (fun _ => Evx.some (fun h => absurd h (by decide)))
  obtain ⟨hO, hpg, hlen, hfr⟩ := hh h0
  refine Evx.ite (fun _ => ?_) (fun h => absurd (fun p hp => ?_) h)
  · refine Evx.some (fun h => ?_)
    rcases nxF_mem P (hs.1.map (·.1)) (hs.1.map (·.2)) kern P 0 (-1) false with h1 | ⟨j, hj, h1, h2⟩
    · rw [h1] at h
      exact absurd h (by decide)
    · obtain ⟨h6, hg⟩ := rsn_zero h2
      refine ⟨j, by rw [h1]; omega, hj, hO, hpg j hj, h6, fun h3 => ?_⟩
      have hlt := (hpg j hj).2
      refine hfr _ (by omega) ?_
      have h4 := hg.resolve_left (by omega)
      have h5 : (hs.1.map (·.1)).getD (pg P j).f1.toNat false = false := h4
      rw [List.getD_eq_getElem?_getD, List.getElem?_map, List.getElem?_eq_getElem (by omega)] at h5
      rw [List.getD_eq_getElem?_getD, List.getElem?_eq_getElem (by omega)]
      exact h5
  · obtain ⟨j, hj, rfl⟩ := List.mem_iff_getElem.1 hp
    rw [hlen, ← pg_eq P hj]
    exact (hpg j hj).2
/-! ### What is left -/
def restV (L : List S53) (P : List S35) (x : Nat) : Int := (acc L x).f1 - cntL L x P
theorem rs_l0 (L : List S53) (P : List S35) (hP : P.length ≤ 300) (x : Nat) : ∀ d i, i + d = P.length → ∀ v : Int, -1000 ≤ v - (d : Int) → v ≤ 1048576 → Ev (fun k => estoverstop_restOf.l0 k L (x : Int) v P (P.length : Int) (i : Int)) (v - cntL L x (P.drop i)) := by
  intro d
  induction d with
  | zero =>
    intro i hi v _ _
    obtain rfl : i = P.length := by omega
    rw [List.drop_length, cntL, Int.sub_zero]
    refine Ev.stepS (fun k => by rw [estoverstop_restOf.l0]) ?_
    exact Ev.some (fun k => if_neg (by omega))
  | succ d ih =>
    intro i hi v h0 h1
    have hil : i < P.length := by omega
    have e : rd_T35 P (i : Int) = pg P i := rfl
    rw [drop_pg P hil, cntL]
    refine Ev.stepS (fun k => by rw [estoverstop_restOf.l0]) ?_
    refine Ev.congr (fun k => by rw [if_pos (by omega), if_pos (by omega), if_pos (by omega), e]) ?_
    have hi1 := w64s hil (n := P.length) (by omega)
    by_cases h6 : (pg P i).f6 = true
    · refine Ev.congr (fun k => if_pos h6) ?_
      refine Ev.bindS (ref_inside L (pg P i).f1 (x : Int)) ?_
      by_cases hin : inside L (pg P i).f1 (x : Int) = true
      · rw [if_pos ⟨h6, hin⟩]
        refine Ev.congr (fun k => by rw [if_pos hin, hi1, w64 (x := v - 1) (by omega) (by omega)]) ?_
        have := ih (i + 1) (by omega) (v - 1) (by omega) (by omega)
        rw [show v - (1 + cntL L x (P.drop (i + 1))) = v - 1 - cntL L x (P.drop (i + 1)) by omega]
        exact this
      · rw [if_neg (fun h => hin h.2), Int.zero_add]
        refine Ev.congr (fun k => by rw [if_neg hin, hi1]) ?_
        exact ih (i + 1) (by omega) v (by omega) h1
    · rw [if_neg (fun h => h6 h.1), Int.zero_add]
      refine Ev.congr (fun k => by rw [if_neg h6, hi1]) ?_
      exact ih (i + 1) (by omega) v (by omega) h1
theorem rs_ev {L : List S53} (hO : Ok L) (P : List S35) (hP : P.length ≤ 300) {x : Nat} (hx : x < L.length) : Ev (fun k => estoverstop_restOf.f k P L (x : Int)) (restV L P x) := by
  obtain ⟨a1, _, _, _⟩ := hO.amt x hx
  unfold inR at a1
  refine Ev.congr (fun k => by unfold estoverstop_restOf.f; rw [if_pos (by omega), if_pos (by omega), rd_acc]) ?_
  have := rs_l0 L P hP x P.length 0 (by omega) (acc L x).f1 (by omega) (by omega)
  exact this
/-- What the law tells of the pages so far. -/
def kept (L : List S53) (g : List Int) (P Q : List S35) : Prop := Q.length = P.length ∧ ∀ x, 1 ≤ x → x < L.length → mn (g.getD x 0) (restV L P x) ≤ restV L Q x
theorem sh_l1 {L : List S53} (hO : Ok L) {g : List Int} (hg : g.length = L.length) (P Q : List S35) (hP : P.length ≤ 300) (hk : kept L g P Q) (a2 : Int) (kern : Bool) : ∀ d i, i + d = L.length → 1 ≤ i → ∃ r, Ev (fun k => estoverstop_TopSharesKept.l1 k g Q (i : Int) P L a2 kern) r ∧ r = true := by
  have hf := hO.few
  intro d
  induction d with
  | zero =>
    intro i hi _
    refine Evx.step (fun k => by rw [estoverstop_TopSharesKept.l1]) ?_
    exact Evx.ite (fun h => absurd h (by omega)) (fun _ => Evx.some rfl)
  | succ d ih =>
    intro i hi h1
    have hil : i < L.length := by omega
    refine Evx.step (fun k => by rw [estoverstop_TopSharesKept.l1]) ?_
    refine Evx.ite (fun _ => ?_) (fun h => absurd h (by omega))
    refine Evx.bind (Evx.of (rs_ev hO Q (by rw [hk.1]; exact hP) hil) (Q := fun r => r = restV L Q i) rfl) ?_
    rintro _ rfl
    refine Evx.ite (fun _ => ?_) (fun h => absurd h (by omega))
    refine Evx.ite (fun _ => ?_) (fun h => absurd h (by omega))
    refine Evx.bind (Evx.of (rs_ev hO P hP hil) (Q := fun r => r = restV L P i) rfl) ?_
    rintro _ rfl
    have e : rd g (i : Int) = g.getD i 0 := rfl
    have := hk.2 i h1 hil
    rw [e]
    refine Evx.ite (fun h => absurd h (by omega)) (fun _ => ?_)
    rw [w64s hil (by omega)]
    exact ih (i + 1) (by omega) (by omega)
theorem cntL_set (L : List S53) (x : Nat) (Q : List S35) {j : Nat} (hj : j < Q.length) (p : S35) : cntL L x (Q.set j p) + (if (pg Q j).f6 = true ∧ inside L (pg Q j).f1 (x : Int) = true then 1 else 0) = cntL L x Q + if p.f6 = true ∧ inside L p.f1 (x : Int) = true then 1 else 0 := by
  have h1 : Q = Q.take j ++ pg Q j :: Q.drop (j + 1) := by rw [← drop_pg Q hj, List.take_append_drop]
  have h2 : Q.set j p = Q.take j ++ p :: Q.drop (j + 1) := by
    rw [List.set_eq_take_append_cons_drop, if_pos hj]
  have e1 : cntL L x Q = cntL L x (Q.take j) + ((if (pg Q j).f6 = true ∧ inside L (pg Q j).f1 (x : Int) = true then 1 else 0) + cntL L x (Q.drop (j + 1))) := by
    conv => lhs; rw [h1]
    rw [cntL_app, cntL]
  rw [h2, e1, cntL_app, cntL]
  omega
theorem sh_l0 {L : List S53} (hO : Ok L) {g : List Int} (hg : g.length = L.length) (hgm : ∀ j, 1 ≤ j → j < L.length → g.getD j 0 ≤ (acc L j).f2) (P : List S35) (hP : P.length ≤ 300) (a2 : Int) (kern : Bool) : ∀ d i, i + d = P.length → ∀ Q : List S35, kept L g P Q → ∃ r, Ev (fun k => estoverstop_TopSharesKept.l0 k g Q (P.length : Int) (i : Int) P L a2 kern) r ∧ r = true := by
  have hpos := hO.pos
  have hend : ∀ Q : List S35, kept L g P Q → ∃ r, Ev (fun k => estoverstop_TopSharesKept.j3 k g Q P L a2 kern) r ∧ r = true := by
    intro Q hk
    refine Evx.step (fun k => by rw [estoverstop_TopSharesKept.j3]) ?_
    exact sh_l1 hO hg P Q hP hk a2 kern (L.length - 1) 1 (by omega) (Nat.le_refl _)
  intro d
  induction d with
  | zero =>
    intro i hi Q hk
    refine Evx.step (fun k => by rw [estoverstop_TopSharesKept.l0]) ?_
    exact Evx.ite (fun h => absurd h (by omega)) (fun _ => hend Q hk)
  | succ d ih =>
    intro i hi Q hk
    refine Evx.step (fun k => by rw [estoverstop_TopSharesKept.l0]) ?_
    refine Evx.ite (fun _ => ?_) (fun h => absurd h (by omega))
    refine Evx.bind (nx_ev L Q (by rw [hk.1]; exact hP) kern) (fun t ht => ?_)
    refine Evx.ite (fun _ => hend Q hk) (fun h0 => ?_)
    refine Evx.ite (fun _ => hend Q hk) (fun h1 => ?_)
    refine Evx.ite (fun h2 => ?_) (fun h => absurd h (by omega))
    refine Evx.ite (fun _ => ?_) (fun h => absurd h (by omega))
    obtain ⟨j, rfl, hj, _, hpj, h6, hfr⟩ := ht h2
    rw [w64s (n := P.length) (by omega) (by omega), Int.toNat_natCast]
    refine ih (i + 1) (by omega) _ ⟨by simp [hk.1], fun x hx1 hx2 => ?_⟩
    have hc := cntL_set L x Q hj (⟨(rd_T35 Q (j : Int)).f0, (rd_T35 Q (j : Int)).f1, (rd_T35 Q (j : Int)).f2, (rd_T35 Q (j : Int)).f3, (rd_T35 Q (j : Int)).f4, (rd_T35 Q (j : Int)).f5, true⟩ : S35)
    rw [if_neg (show ¬ ((pg Q j).f6 = true ∧ inside L (pg Q j).f1 (x : Int) = true) from fun h => by rw [h6] at h; exact absurd h.1 (by decide))] at hc
    have hold := hk.2 x hx1 hx2
    have ep : (rd_T35 Q (j : Int)).f1 = (pg Q j).f1 := rfl
    generalize Q.set j (⟨(rd_T35 Q (j : Int)).f0, (rd_T35 Q (j : Int)).f1, (rd_T35 Q (j : Int)).f2, (rd_T35 Q (j : Int)).f3, (rd_T35 Q (j : Int)).f4, (rd_T35 Q (j : Int)).f5, true⟩ : S35) = Q' at *
    simp only [ep, true_and] at hc
    by_cases hin : inside L (pg Q j).f1 (x : Int) = true
    · rw [if_pos hin] at hc
      have h3 : 0 ≤ (pg Q j).f1 := by
        by_cases h : (pg Q j).f1 < 0
        · rw [inside_neg h] at hin
          exact absurd hin (by decide)
        · omega
      obtain ⟨a, ha⟩ : ∃ a : Nat, (pg Q j).f1 = (a : Int) := ⟨(pg Q j).f1.toNat, by omega⟩
      have hal : a < L.length := by have := hpj.2; omega
      have hfa := hfr h3
      rw [ha, Int.toNat_natCast] at hfa
      rw [ha, inside_nat hO hal] at hin
      have h4 := hfa x (of_decide_eq_true hin) (by omega)
      have h5 := hgm x hx1 hx2
      have h6 : mn (g.getD x 0) (restV L P x) ≤ g.getD x 0 := by unfold mn; split <;> omega
      unfold restV at *
      omega
    · rw [if_neg hin] at hc
      unfold restV at *
      omega
theorem aw20 : Ev (fun k => estoverstop_awake20.f k) true := Ev.of (fun k => estoverstop_awake20.mono k) (k := 40) (by kernel_rfl)
theorem TopSharesKept : estoverstop_TopSharesKept.Pure := by
  intro P L a2 kern _ _ _
  have hT : ∃ r, Ev (fun k => estoverstop_TopSharesKept.j0 k true P L a2 kern) r ∧ r = true := by
    refine Evx.step (fun k => by rw [estoverstop_TopSharesKept.j0]) ?_
    refine Evx.ite (fun _ => ?_) (fun h => absurd rfl h)
    refine Evx.bind (Evx.of aw20 (Q := fun r => r = true) rfl) (fun t ht => Evx.some ht)
  suffices h : ∃ r, Ev (fun k => estoverstop_TopSharesKept.f k P L a2 kern) r ∧ r = true by
    obtain ⟨r, h1, rfl⟩ := h
    exact h1.rounds
  refine Evx.bind (Evx.of aw20 (Q := fun r => r = true) rfl) ?_
  rintro _ rfl
  refine Evx.ite (fun _ => ?_) (fun h => absurd rfl h)
  refine Evx.bind (R := fun b => b = true → P.length ≤ 300) ?_ (fun b hb => ?_)
  · unfold estoverslaw39_Few.f estoversref39_Few.f
    by_cases h : (P.length : Int) ≤ 300
    · exact ⟨_, Ev.congr (fun k => by rw [if_pos h]; rfl) (Ev.now _), fun _ => by omega⟩
    · exact ⟨false, Ev.congr (fun k => by rw [if_neg h]; rfl) (Ev.now _), fun h => absurd h (by decide)⟩
  refine Evx.ite (fun hb' => ?_) (fun _ => hT)
  have hP := hb hb'
  refine Evx.bind (pc_ev L P hP) (fun t ht => ?_)
  refine Evx.ite (fun h0 => ?_) (fun _ => hT)
  obtain ⟨hO, _⟩ := ht h0
  refine Evx.bind (Evx.of (ref_check L) (Q := fun r => r = chk L) rfl) ?_
  rintro _ rfl
  rw [chk_ok.2 hO]
  refine Evx.step (fun k => by rw [estoverstop_TopSharesKept.j0]) ?_
  refine Evx.ite (fun h => absurd h (by decide)) (fun _ => ?_)
  refine Evx.bind (ef_ev hO) ?_
  rintro ⟨g, e⟩ ⟨he, hg, hgm⟩
  refine Evx.ite (fun _ => ?_) (fun h => absurd he h)
  refine Evx.step (fun k => by rw [estoverstop_TopSharesKept.j1]) ?_
  refine Evx.ite (fun h => absurd h (by rw [show (g.length : Int) = (L.length : Int) by simp only at hg; omega]; simp)) (fun _ => ?_)
  refine Evx.bind (Evx.some (Q := fun y => y = []) rfl) ?_
  rintro _ rfl
  refine Evx.ite (fun _ => ?_) (fun h => absurd h (by simp; omega))
  refine Evx.bind (Evx.some (Q := fun y => y = P) (by simp)) ?_
  intro y hy
  rw [hy]
  exact sh_l0 hO hg hgm P hP a2 kern P.length 0 (by omega) P ⟨rfl, fun x _ _ => by unfold mn; split <;> omega⟩

end Go.Proofs.Ytpccpkpljlafcaa.Pure
