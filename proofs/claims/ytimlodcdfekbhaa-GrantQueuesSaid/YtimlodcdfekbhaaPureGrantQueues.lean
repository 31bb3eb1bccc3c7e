/- Each operation of a script on a queue returns what the reference's returns, for every queue and every script; no condition. -/
import Derived.Test.YtimlodcdfekbhaaPGrantQueuesx
import Derived.Test.YtimlodcdfekbhaaQGrantQueues
namespace Go.Proofs.Ytimlodcdfekbhaa.Pure
open Go.RowKit Go.Proofs.Ytimlodcdfekbhaa.PGrantQueues Go.Proofs.YtimlodcdfekbhaaW.PrintWords Go.Proofs.YtimlodcdfekbhaaW.PrintLast Go.Proofs.YtimlodcdfekbhaaW.PrintMore

theorem Ev.bindS {α β : Type} {g : Nat → Option α} {f : Nat → α → Option β} {a : α} {r : β} (h : Ev g a) (k : Ev (fun n => f n a) r) : Ev (fun n => (g n).bind fun x => f n x) r := Ev.bind h k
theorem Ev.some {α : Type} {g : Nat → Option α} {r : α} (h : ∀ k, g k = Option.some r) : Ev g r := Ev.congr h (Ev.now r)
theorem w64s {i n : Nat} (h : i < n) (hn : n ≤ 1000000) : wrap64 ((i : Int) + 1) = ((i + 1 : Nat) : Int) := by
  unfold wrap64
  omega
/-! ### Accounts: what Check computes, told without the program -/

/-- One round, at a number of rounds that is not zero. -/
theorem Ev.stepS {α : Type} {g f : Nat → Option α} {r : α} (h : ∀ k, g (k + 1) = f k) (k : Ev f r) : Ev g r := Ev.step h k
/-- A loop that looks at one place after the other and ends at the first that is wrong. -/
theorem Ev.scan {β : Type} (g : Nat → Int → Option β) (n : Nat) (P : Nat → Prop) [DecidablePred P] (bad r : β)
    (hgo : ∀ i, i < n → P i → ∀ q, Ev (fun k => g k ((i + 1 : Nat) : Int)) q → Ev (fun k => g k (i : Int)) q)
    (hbad : ∀ i, i < n → ¬ P i → Ev (fun k => g k (i : Int)) bad)
    (hend : (∀ i, i < n → P i) → Ev (fun k => g k (n : Int)) r) :
    Ev (fun k => g k 0) (if ∀ i, i < n → P i then r else bad) := by
  have key : ∀ d i, i + d = n → (∀ j, j < i → P j) → Ev (fun k => g k (i : Int)) (if ∀ i, i < n → P i then r else bad) := by
    intro d
    induction d with
    | zero =>
      intro i hi hp
      obtain rfl : i = n := by omega
      rw [if_pos hp]
      exact hend hp
    | succ d ih =>
      intro i hi hp
      by_cases h : P i
      · refine hgo i (by omega) h _ (ih (i + 1) (by omega) ?_)
        intro j hj
        rcases Nat.lt_succ_iff_lt_or_eq.1 hj with h1 | rfl
        · exact hp j h1
        · exact h
      · rw [if_neg (fun h2 => h (h2 i (by omega)))]
        exact hbad i (by omega) h
  exact key n 0 (by omega) (fun j hj => absurd hj (Nat.not_lt_zero _))



/-- The account at a place. -/
def acc (l : List S59) (i : Nat) : S59 := l.getD i z59
def inR (x : Int) : Prop := 0 ≤ x ∧ x ≤ 1048576
instance (x : Int) : Decidable (inR x) := by unfold inR; infer_instance
def treeAt (l : List S59) (i : Nat) : Prop := if i = 0 then (acc l i).f0 = -1 else 0 ≤ (acc l i).f0 ∧ (acc l i).f0 < i
instance (l : List S59) (i : Nat) : Decidable (treeAt l i) := by unfold treeAt; infer_instance
def amtAt (l : List S59) (i : Nat) : Prop := inR (acc l i).f1 ∧ inR (acc l i).f2 ∧ inR (acc l i).f3 ∧ inR (acc l i).f4
instance (l : List S59) (i : Nat) : Decidable (amtAt l i) := by unfold amtAt; infer_instance
/-- The sum of f over the places j of 1 .. n - 1 whose Parent is i. -/
def kidsTo (l : List S59) (i : Int) : Nat → Int
  | 0 => 0
  | n + 1 => kidsTo l i n + if n ≥ 1 ∧ (acc l n).f0 = i then (acc l n).f1 else 0
def kids (l : List S59) (i : Int) : Int := kidsTo l i l.length
def rootOk (l : List S59) : Prop := (acc l 0).f2 = 0 ∧ (acc l 0).f3 = 0
instance (l : List S59) : Decidable (rootOk l) := by unfold rootOk; infer_instance
def maxAt (l : List S59) (i : Nat) : Prop := (acc l i).f1 ≤ (acc l i).f4
instance (l : List S59) (i : Nat) : Decidable (maxAt l i) := by unfold maxAt; infer_instance
def ownAt (l : List S59) (i : Nat) : Prop := kids l i ≤ (acc l i).f1
instance (l : List S59) (i : Nat) : Decidable (ownAt l i) := by unfold ownAt; infer_instance
/-- The error of a list of accounts. -/
def chk (l : List S59) : Int :=
  if l.length < 1 ∨ l.length > 8 then 9
  else if ∀ i, i < l.length → treeAt l i then
    if ∀ i, i < l.length → amtAt l i then
      if rootOk l then
        if ∀ i, i < l.length → maxAt l i then
          if ∀ i, i < l.length → ownAt l i then 0 else 11
        else 17
      else 2
    else 2
  else 1
/-! the sums -/
/-! ### The program's Check -/
/-! ### The reference's Check -/
/-! ### Paths, and what is added on them -/
/-! ### The program's and the reference's functions on paths -/
/-- There is such an account. -/
def isAt (l : List S59) (a : Int) : Prop := chk l = 0 ∧ 0 ≤ a ∧ a < l.length
instance (l : List S59) (a : Int) : Decidable (isAt l a) := by unfold isAt; infer_instance
/-! ### The reference's functions on paths -/
/-! ### Charges of the program -/
/-! ### Same -/
/-! ### Charges of the reference -/
/-! ### Asks -/
theorem aw21 : Ev (fun k => estoverslaw21_awake.f k) true := Ev.of (fun k => estoverslaw21_awake.mono k) (k := 60) (by kernel_rfl)
def ask (q : List S37) (i : Nat) : S37 := q.getD i z37
theorem rd_ask (q : List S37) (i : Nat) : rd_T37 q (i : Int) = ask q i := rfl
theorem ask_get {q : List S37} {i : Nat} (h : i < q.length) : ask q i = q[i] := by
  unfold ask
  rw [List.getD_eq_getElem?_getD, List.getElem?_eq_getElem h]
  rfl
theorem ask_mem {q : List S37} {i : Nat} (h : i < q.length) : ask q i ∈ q := by
  rw [ask_get h]
  exact List.getElem_mem h
def vA (x : S37) : Prop := 0 ≤ x.f0 ∧ x.f0 < 8 ∧ 0 ≤ x.f1 ∧ inR x.f2 ∧ inR x.f3
instance (x : S37) : Decidable (vA x) := by unfold vA; infer_instance
theorem prog_gin (x : Int) : grant_in.f x = some (decide (inR x)) := by
  unfold grant_in.f inR
  by_cases h : x ≥ 0
  · rw [if_pos h]
    congr 1
    exact decide_eq_decide.2 (by omega)
  · rw [if_neg h]
    congr 1
    exact (decide_eq_false (by omega)).symm
theorem prog_valid (x : S37) : grant_valid.f x.f0 x.f1 x.f2 x.f3 = some (decide (vA x)) := by
  unfold grant_valid.f
  simp only [prog_gin, Option.bind_some]
  by_cases h0 : x.f0 ≥ 0
  · rw [if_pos h0]
    by_cases h1 : x.f0 < 8
    · rw [if_pos h1]
      by_cases h2 : x.f1 ≥ 0
      · rw [if_pos h2]
        by_cases h3 : inR x.f2
        · rw [if_pos (decide_eq_true h3)]
          congr 1
          exact decide_eq_decide.2 ⟨fun h => ⟨h0, h1, h2, h3, h⟩, fun h => h.2.2.2.2⟩
        · rw [if_neg (by simp [h3]), decide_eq_false (fun h : vA x => h3 h.2.2.2.1)]
      · rw [if_neg h2, decide_eq_false (fun h : vA x => h2 h.2.2.1)]
    · rw [if_neg h1, decide_eq_false (fun h : vA x => h1 h.2.1)]
  · rw [if_neg h0, decide_eq_false (fun h : vA x => h0 h.1)]
theorem ref_valid (x : S37) : estoversref21_Valid.f x.f0 x.f1 x.f2 x.f3 = some (decide (vA x)) := by
  unfold estoversref21_Valid.f
  by_cases h0 : x.f0 ≥ 0
  · rw [if_pos h0]
    by_cases h1 : x.f0 < 8
    · rw [if_pos h1]
      by_cases h2 : x.f1 ≥ 0
      · rw [if_pos h2]
        by_cases h3 : x.f2 ≥ 0
        · rw [if_pos h3]
          by_cases h4 : x.f2 ≤ 1048576
          · rw [if_pos h4]
            by_cases h5 : x.f3 ≥ 0
            · rw [if_pos h5]
              congr 1
              exact decide_eq_decide.2 ⟨fun h => ⟨h0, h1, h2, ⟨h3, h4⟩, h5, h⟩, fun h => h.2.2.2.2.2⟩
            · rw [if_neg h5, decide_eq_false (fun h : vA x => h5 h.2.2.2.2.1)]
          · rw [if_neg h4, decide_eq_false (fun h : vA x => h4 h.2.2.2.1.2)]
        · rw [if_neg h3, decide_eq_false (fun h : vA x => h3 h.2.2.2.1.1)]
      · rw [if_neg h2, decide_eq_false (fun h : vA x => h2 h.2.2.1)]
    · rw [if_neg h1, decide_eq_false (fun h : vA x => h1 h.2.1)]
  · rw [if_neg h0, decide_eq_false (fun h : vA x => h0 h.1)]
/-! the first place -/
def fst (p : S37 → Bool) : List S37 → Nat → Int
  | [], _ => -1
  | x :: q, i => if p x = true then (i : Int) else fst p q (i + 1)
theorem fst_eq (p : S37 → Bool) : ∀ (q : List S37) (i j : Nat) (_ : j < q.length), p (ask q j) = true → (∀ m, m < j → p (ask q m) = false) → fst p q i = ((i + j : Nat) : Int)
  | [], _, _, h, _, _ => absurd h (Nat.not_lt_zero _)
  | x :: q, i, 0, _, hp, _ => by
    have hx : p x = true := hp
    unfold fst
    rw [if_pos hx]
    rfl
  | x :: q, i, j + 1, h, hp, hn => by
    unfold fst
    have h0 : p x = false := hn 0 (by omega)
    rw [h0, if_neg (by decide), fst_eq p q (i + 1) j (Nat.lt_of_succ_lt_succ h) hp (fun m hm => hn (m + 1) (by omega))]
    omega
theorem fst_le (p : S37 → Bool) : ∀ (q : List S37) (i j : Nat) (_ : j < q.length), p (ask q j) = true → (i : Int) ≤ fst p q i ∧ fst p q i ≤ ((i + j : Nat) : Int)
  | [], _, _, h, _ => absurd h (Nat.not_lt_zero _)
  | x :: q, i, 0, _, hp => by
    have hx : p x = true := hp
    unfold fst
    rw [if_pos hx]
    omega
  | x :: q, i, j + 1, h, hp => by
    have ih := fst_le p q (i + 1) j (Nat.lt_of_succ_lt_succ h) hp
    unfold fst
    split <;> omega
theorem fst_none (p : S37 → Bool) : ∀ (q : List S37) (i : Nat), (∀ x ∈ q, p x = false) → fst p q i = -1
  | [], _, _ => rfl
  | x :: q, i, h => by
    unfold fst
    rw [h x List.mem_cons_self, if_neg (by decide)]
    exact fst_none p q (i + 1) fun y hy => h y (List.mem_cons_of_mem _ hy)
theorem fst_some (p : S37 → Bool) (q : List S37) (i : Nat) : fst p q i ≥ 0 ↔ ∃ x ∈ q, p x = true := by
  constructor
  · intro h
    by_cases hn : ∀ x ∈ q, p x = false
    · rw [fst_none p q i hn] at h
      omega
    · simp only [Classical.not_forall] at hn
      obtain ⟨x, hx, hp⟩ := hn
      exact ⟨x, hx, by simpa using hp⟩
  · rintro ⟨x, hx, hp⟩
    obtain ⟨j, hj, rfl⟩ := List.mem_iff_getElem.1 hx
    have := fst_le p q i j hj (by rw [ask_get hj]; exact hp)
    omega
theorem drop_ask {q : List S37} {i : Nat} (h : i < q.length) : q.drop i = ask q i :: q.drop (i + 1) := by
  rw [List.drop_eq_getElem_cons h, ask_get h]
theorem prog_idx (p : S37 → Bool) (q : List S37) (hq : q.length ≤ 1000) : Ev (fun k => idxAsk.l0 k p q (q.length : Int) 0) (fst p q 0) := by
  have key : ∀ d i, i + d = q.length → Ev (fun k => idxAsk.l0 k p q (q.length : Int) (i : Int)) (fst p (q.drop i) i) := by
    intro d
    induction d with
    | zero =>
      intro i hi
      obtain rfl : i = q.length := by omega
      rw [List.drop_length]
      refine Ev.step (f := fun _ => some (-1)) (fun k => ?_) (Ev.now _)
      simp only [idxAsk.l0]
      rw [if_neg (by omega)]
    | succ d ih =>
      intro i hi
      have hil : i < q.length := by omega
      rw [drop_ask hil]
      unfold fst
      by_cases hp : p (ask q i) = true
      · rw [if_pos hp]
        refine Ev.step (f := fun _ => some (i : Int)) (fun k => ?_) (Ev.now _)
        simp only [idxAsk.l0]
        rw [if_pos (by omega), if_pos (by omega), if_pos (by omega), rd_ask, if_pos hp]
      · rw [if_neg hp]
        refine Ev.step (fun k => ?_) (ih (i + 1) (by omega))
        simp only [idxAsk.l0]
        rw [if_pos (by omega), if_pos (by omega), if_pos (by omega), rd_ask, if_neg hp, w64s hil (by omega)]
  have := key q.length 0 (by omega)
  rw [List.drop_zero] at this
  exact this
def pl (q : List S37) (n : Int) : Int := fst (fun x => x.f0 == n) q 0
theorem prog_of (q : List S37) (hq : q.length ≤ 1000) (n : Int) : Ev (fun k => grant_of.f k q n) (pl q n) := prog_idx _ q hq
theorem ref_at (q : List S37) (hq : q.length ≤ 1000) (n : Int) : Ev (fun k => estoversref21_at.f k q n) (pl q n) := by
  have key : ∀ d i, i + d = q.length → Ev (fun k => estoversref21_at.l0 k q n (i : Int)) (fst (fun x => x.f0 == n) (q.drop i) i) := by
    intro d
    induction d with
    | zero =>
      intro i hi
      obtain rfl : i = q.length := by omega
      rw [List.drop_length]
      refine Ev.step (f := fun _ => some (-1)) (fun k => ?_) (Ev.now _)
      simp only [estoversref21_at.l0]
      rw [if_neg (by omega)]
    | succ d ih =>
      intro i hi
      have hil : i < q.length := by omega
      rw [drop_ask hil]
      unfold fst
      by_cases hp : (ask q i).f0 = n
      · rw [if_pos (by simp [hp])]
        refine Ev.step (f := fun _ => some (i : Int)) (fun k => ?_) (Ev.now _)
        simp only [estoversref21_at.l0]
        rw [if_pos (by omega), if_pos (by omega), rd_ask, if_pos hp]
      · rw [if_neg (by simp [hp])]
        refine Ev.step (fun k => ?_) (ih (i + 1) (by omega))
        simp only [estoversref21_at.l0]
        rw [if_pos (by omega), if_pos (by omega), rd_ask, if_neg hp, w64s hil (by omega)]
  have := key q.length 0 (by omega)
  rw [List.drop_zero] at this
  exact this
/-! Check -/
def dq (q : List S37) : Prop := ∀ i, i < q.length → pl q (ask q i).f0 = (i : Int)
instance (q : List S37) : Decidable (dq q) := by unfold dq; infer_instance
def cq (q : List S37) : Int := if ∀ i, i < q.length → vA (ask q i) then (if dq q then 0 else 7) else 2
theorem prog_cq (q : List S37) (hq : q.length ≤ 1000) : Ev (fun k => grant_Check.f k q) (cq q) := by
  unfold cq dq
  refine Ev.scan (fun k i => grant_Check.l0 k q q (q.length : Int) i) q.length (fun i => vA (ask q i)) 2 _ ?_ ?_ ?_
  · intro i hi hp r hr
    refine Ev.step (fun k => ?_) hr
    simp only [grant_Check.l0]
    rw [if_pos (by omega), if_pos (by omega), if_pos (by omega), rd_ask, prog_valid, decide_eq_true hp, w64s hi (by omega)]
    rfl
  · intro i hi hp
    refine Ev.step (f := fun _ => some 2) (fun k => ?_) (Ev.now _)
    simp only [grant_Check.l0]
    rw [if_pos (by omega), if_pos (by omega), if_pos (by omega), rd_ask, prog_valid, decide_eq_false hp]
    rfl
  · intro _
    refine Ev.step (f := fun k => grant_Check.l1 k q q (q.length : Int) 0) (fun k => ?_) ?_
    · simp only [grant_Check.l0]
      rw [if_neg (by omega)]
    refine Ev.scan (fun k i => grant_Check.l1 k q q (q.length : Int) i) q.length (fun i => pl q (ask q i).f0 = (i : Int)) 7 0 ?_ ?_ ?_
    · intro i hi hp r hr
      refine Ev.stepS (fun k => by simp only [grant_Check.l1]; rw [if_pos (by omega), if_pos (by omega), if_pos (by omega), rd_ask]) ?_
      refine Ev.bindS (prog_of q hq _) ?_
      refine Ev.congr (fun k => if_pos hp) ?_
      rw [w64s hi (by omega)]
      exact hr
    · intro i hi hp
      refine Ev.stepS (fun k => by simp only [grant_Check.l1]; rw [if_pos (by omega), if_pos (by omega), if_pos (by omega), rd_ask]) ?_
      refine Ev.bindS (prog_of q hq _) ?_
      exact Ev.congr (fun k => if_neg hp) (Ev.now _)
    · intro _
      refine Ev.step (f := fun _ => some 0) (fun k => ?_) (Ev.now _)
      simp only [grant_Check.l1]
      rw [if_neg (by omega)]
theorem ref_cq (q : List S37) (hq : q.length ≤ 1000) : Ev (fun k => estoversref21_Check.f k q) (cq q) := by
  unfold cq dq
  refine Ev.scan (fun k i => estoversref21_Check.l0 k q i) q.length (fun i => vA (ask q i)) 2 _ ?_ ?_ ?_
  · intro i hi hp r hr
    refine Ev.step (fun k => ?_) hr
    simp only [estoversref21_Check.l0]
    rw [if_pos (by omega), if_pos (by omega), rd_ask, ref_valid, decide_eq_true hp, w64s hi (by omega)]
    rfl
  · intro i hi hp
    refine Ev.step (f := fun _ => some 2) (fun k => ?_) (Ev.now _)
    simp only [estoversref21_Check.l0]
    rw [if_pos (by omega), if_pos (by omega), rd_ask, ref_valid, decide_eq_false hp]
    rfl
  · intro _
    refine Ev.step (f := fun k => estoversref21_Check.l1 k q 0) (fun k => ?_) ?_
    · simp only [estoversref21_Check.l0]
      rw [if_neg (by omega)]
    have hle : ∀ i, i < q.length → pl q (ask q i).f0 ≤ (i : Int) := fun i hi => by
      have := (fst_le (fun x => x.f0 == (ask q i).f0) q 0 i hi (by simp)).2
      unfold pl
      omega
    refine Ev.scan (fun k i => estoversref21_Check.l1 k q i) q.length (fun i => pl q (ask q i).f0 = (i : Int)) 7 0 ?_ ?_ ?_
    · intro i hi hp r hr
      refine Ev.stepS (fun k => by simp only [estoversref21_Check.l1]; rw [if_pos (by omega), if_pos (by omega), rd_ask]) ?_
      refine Ev.bindS (ref_at q hq _) ?_
      refine Ev.congr (fun k => if_neg (by omega)) ?_
      rw [w64s hi (by omega)]
      exact hr
    · intro i hi hp
      have := hle i hi
      refine Ev.stepS (fun k => by simp only [estoversref21_Check.l1]; rw [if_pos (by omega), if_pos (by omega), rd_ask]) ?_
      refine Ev.bindS (ref_at q hq _) ?_
      exact Ev.congr (fun k => if_pos (by omega)) (Ev.now _)
    · intro _
      refine Ev.step (f := fun _ => some 0) (fun k => ?_) (Ev.now _)
      simp only [estoversref21_Check.l1]
      rw [if_neg (by omega)]
/-- What a queue without an error is. -/
structure OkQ (q : List S37) : Prop where
  val : ∀ x ∈ q, vA x
  dist : (q.map (·.f0)).Nodup
theorem cq_ok {q : List S37} : cq q = 0 ↔ OkQ q := by
  unfold cq
  constructor
  · intro h
    split at h
    · rename_i hv
      split at h
      · rename_i hd
        refine ⟨fun x hx => ?_, ?_⟩
        · obtain ⟨i, hi, rfl⟩ := List.mem_iff_getElem.1 hx
          have := hv i hi
          rwa [ask_get hi] at this
        · rw [List.nodup_iff_pairwise_ne, List.pairwise_iff_getElem]
          intro i j hi hj hij e
          rw [List.length_map] at hi hj
          rw [List.getElem_map, List.getElem_map] at e
          have h1 := hd j hj
          have h2 := (fst_le (fun x => x.f0 == (ask q j).f0) q 0 i hi (by rw [ask_get hi, ask_get hj, e]; simp)).2
          unfold pl at h1
          omega
      · exact absurd h (by decide)
    · exact absurd h (by decide)
  · intro h
    rw [if_pos (fun i hi => h.val _ (ask_mem hi)), if_pos]
    intro i hi
    have := fst_eq (fun x => x.f0 == (ask q i).f0) q 0 i hi (by simp) (fun m hm => by
      have hn := (List.pairwise_iff_getElem.1 (List.nodup_iff_pairwise_ne.1 h.dist)) m i (by rw [List.length_map]; omega) (by rw [List.length_map]; omega) hm
      rw [List.getElem_map, List.getElem_map] at hn
      have hml : m < q.length := by omega
      rw [ask_get hml, ask_get hi]
      simpa using hn)
    unfold pl
    rw [this]
    omega
theorem OkQ.drop {q : List S37} (h : OkQ q) (i : Nat) : OkQ (q.drop i) := by
  refine ⟨fun x hx => h.val x (List.mem_of_mem_drop hx), ?_⟩
  rw [List.map_drop]
  exact h.dist.sublist (List.drop_sublist _ _)
/-! Short -/
/-! Push and Cancel -/
theorem clone_ask {q : List S37} (hq : q.length ≤ 1000) : api_Ask_56.f q = some q := by
  simp only [api_Ask_56.f, Option.bind_some, List.length_nil, List.nil_append]
  rw [if_pos (by omega)]
def psh (q : List S37) (x : S37) : List S37 × Int := if cq q = 0 then (if vA x then (if pl q x.f0 ≥ 0 then ([], 7) else (q ++ [x], 0)) else ([], 2)) else ([], cq q)
def can (q : List S37) (n : Int) : List S37 × Int := if cq q = 0 then (if pl q n < 0 then ([], 6) else (q.take (pl q n).toNat ++ q.drop ((pl q n).toNat + 1), 0)) else ([], cq q)
theorem psh_len (q : List S37) (x : S37) : (psh q x).1.length ≤ q.length + 1 := by
  unfold psh
  split
  · split
    · split <;> simp
    · simp
  · simp
theorem can_len (q : List S37) (n : Int) : (can q n).1.length ≤ q.length + 1 := by
  unfold can
  split
  · split
    · simp
    · simp
      omega
  · simp
theorem prog_push {q : List S37} (hq : q.length ≤ 999) (x : S37) : Ev (fun k => grant_Push.f k q x.f0 x.f1 x.f2 x.f3) (psh q x) := by
  refine Ev.bindS (prog_cq q (by omega)) ?_
  unfold psh
  by_cases h : cq q = 0
  · rw [if_pos h]
    refine Ev.congr (fun k => if_pos h) ?_
    refine Ev.bindS (Ev.some fun k => prog_valid x) ?_
    by_cases hv : vA x
    · rw [if_pos hv]
      refine Ev.congr (fun k => if_pos (decide_eq_true hv)) ?_
      refine Ev.bindS (prog_of q (by omega) x.f0) ?_
      by_cases hp : pl q x.f0 ≥ 0
      · simp only [if_pos hp]
        exact Ev.now _
      · simp only [if_neg hp]
        refine Ev.bindS (Ev.some fun k => clone_ask (by omega)) ?_
        refine Ev.bindS (g := fun _ => Option.some [x]) (Ev.now _) ?_
        refine Ev.congr (fun k => if_pos ?_) (Ev.now _)
        simp only [List.length_cons, List.length_nil]
        omega
    · rw [if_neg hv]
      exact Ev.congr (fun k => if_neg (by rw [decide_eq_false hv]; decide)) (Ev.now _)
  · rw [if_neg h]
    exact Ev.congr (fun k => if_neg h) (Ev.now _)
theorem prog_cancel {q : List S37} (hq : q.length ≤ 999) (n : Int) : Ev (fun k => grant_Cancel.f k q n) (can q n) := by
  refine Ev.bindS (prog_cq q (by omega)) ?_
  unfold can
  by_cases h : cq q = 0
  · rw [if_pos h]
    refine Ev.congr (fun k => if_pos h) ?_
    refine Ev.bindS (prog_of q (by omega) n) ?_
    by_cases hp : pl q n < 0
    · simp only [if_pos hp]
      exact Ev.now _
    · simp only [if_neg hp]
      refine Ev.bindS (Ev.some fun k => clone_ask (by omega)) ?_
      refine Ev.congr (fun k => if_pos ⟨?_, by omega⟩) (Ev.now _)
      obtain ⟨x, hx, hxn⟩ := (fst_some (fun x => x.f0 == n) q 0).1 (by unfold pl at hp; omega)
      obtain ⟨j, hj, rfl⟩ := List.mem_iff_getElem.1 hx
      have := (fst_le (fun x => x.f0 == n) q 0 j hj (by rw [ask_get hj]; exact hxn)).2
      unfold pl
      omega
  · rw [if_neg h]
    exact Ev.congr (fun k => if_neg h) (Ev.now _)
theorem ref_push {q : List S37} (hq : q.length ≤ 999) (x : S37) : Ev (fun k => estoversref21_Push.f k q x.f0 x.f1 x.f2 x.f3) (psh q x) := by
  have key : ∀ d i (acc : List S37), i + d = q.length → acc.length + d ≤ 1000 → Ev (fun k => estoversref21_Push.l0 k q acc (i : Int) x.f0 x.f1 x.f2 x.f3) (acc ++ q.drop i ++ [x], 0) := by
    intro d
    induction d with
    | zero =>
      intro i acc hi hl
      obtain rfl : i = q.length := by omega
      rw [List.drop_length, List.append_nil]
      refine Ev.step (f := fun _ => some (acc ++ [x], 0)) (fun k => ?_) (Ev.now _)
      simp only [estoversref21_Push.l0]
      rw [if_neg (by omega), if_pos (by omega)]
    | succ d ih =>
      intro i acc hi hl
      have hil : i < q.length := by omega
      have := ih (i + 1) (acc ++ [ask q i]) (by omega) (by rw [List.length_append, List.length_singleton]; omega)
      rw [drop_ask hil]
      rw [List.append_assoc acc, List.singleton_append] at this
      refine Ev.step (fun k => ?_) this
      simp only [estoversref21_Push.l0]
      rw [if_pos (by omega), if_pos (by omega), if_pos (by omega), rd_ask, w64s hil (by omega)]
  refine Ev.bindS (ref_cq q (by omega)) ?_
  unfold psh
  by_cases h : cq q = 0
  · rw [if_pos h]
    refine Ev.congr (fun k => if_pos h) ?_
    refine Ev.bindS (Ev.some fun k => ref_valid x) ?_
    by_cases hv : vA x
    · rw [if_pos hv]
      refine Ev.congr (fun k => if_pos (decide_eq_true hv)) ?_
      refine Ev.bindS (ref_at q (by omega) x.f0) ?_
      by_cases hp : pl q x.f0 ≥ 0
      · rw [if_pos hp]
        exact Ev.congr (fun k => if_pos hp) (Ev.now _)
      · rw [if_neg hp]
        refine Ev.congr (fun k => if_neg hp) ?_
        exact key q.length 0 [] (by omega) (by simp only [List.length_nil]; omega)
    · rw [if_neg hv]
      exact Ev.congr (fun k => if_neg (by rw [decide_eq_false hv]; decide)) (Ev.now _)
  · rw [if_neg h]
    exact Ev.congr (fun k => if_neg h) (Ev.now _)
theorem okq_filter {q : List S37} (h : OkQ q) {n : Int} (hp : 0 ≤ pl q n) : q.filter (fun x => !(x.f0 == n)) = q.take (pl q n).toNat ++ q.drop ((pl q n).toNat + 1) := by
  obtain ⟨x, hx, hxn⟩ := (fst_some (fun x => x.f0 == n) q 0).1 hp
  obtain ⟨j, hj, rfl⟩ := List.mem_iff_getElem.1 hx
  have hd : ∀ i (hi : i < q.length), q[i].f0 = n → pl q n = (i : Int) := by
    intro i hi hin
    have hc := cq_ok.2 h
    unfold cq at hc
    rw [if_pos (fun i hi => h.val _ (ask_mem hi))] at hc
    have hdq : dq q := by
      by_cases hd : dq q
      · exact hd
      · rw [if_neg hd] at hc
        exact absurd hc (by decide)
    have := hdq i hi
    rwa [ask_get hi, hin] at this
  have hjn : q[j].f0 = n := by simpa using hxn
  have e := hd j hj hjn
  rw [e, Int.toNat_natCast]
  have e2 : q = q.take j ++ q[j] :: q.drop (j + 1) := by
    rw [← List.drop_eq_getElem_cons hj, List.take_append_drop]
  have k1 : (q.take j).filter (fun x => !(x.f0 == n)) = q.take j := by
    rw [List.filter_eq_self]
    intro y hy
    obtain ⟨i, hi, rfl⟩ := List.mem_iff_getElem.1 hy
    rw [List.length_take] at hi
    rw [List.getElem_take]
    by_cases hin : (q[i]'(by omega)).f0 = n
    · have := hd i (by omega) hin
      omega
    · simp [hin]
  have k2 : (q.drop (j + 1)).filter (fun x => !(x.f0 == n)) = q.drop (j + 1) := by
    rw [List.filter_eq_self]
    intro y hy
    obtain ⟨i, hi, rfl⟩ := List.mem_iff_getElem.1 hy
    rw [List.length_drop] at hi
    rw [List.getElem_drop]
    by_cases hin : (q[j + 1 + i]'(by omega)).f0 = n
    · have := hd (j + 1 + i) (by omega) hin
      omega
    · simp [hin]
  conv => lhs; rw [e2]
  rw [List.filter_append, k1, List.filter_cons_of_neg (by simp [hjn]), k2]
theorem ref_cancel {q : List S37} (hq : q.length ≤ 999) (n : Int) : Ev (fun k => estoversref21_Cancel.f k q n) (can q n) := by
  have key : ∀ d i (acc : List S37), i + d = q.length → acc.length + d ≤ 1000 → Ev (fun k => estoversref21_Cancel.l0 k q n acc (i : Int)) (acc ++ (q.drop i).filter (fun x => !(x.f0 == n)), 0) := by
    intro d
    induction d with
    | zero =>
      intro i acc hi hl
      obtain rfl : i = q.length := by omega
      rw [List.drop_length, List.filter_nil, List.append_nil]
      refine Ev.step (f := fun _ => some (acc, 0)) (fun k => ?_) (Ev.now _)
      simp only [estoversref21_Cancel.l0]
      rw [if_neg (by omega)]
    | succ d ih =>
      intro i acc hi hl
      have hil : i < q.length := by omega
      rw [drop_ask hil]
      by_cases hn : (ask q i).f0 = n
      · rw [List.filter_cons_of_neg (by simp [hn])]
        refine Ev.step (fun k => ?_) (ih (i + 1) acc (by omega) (by omega))
        simp only [estoversref21_Cancel.l0]
        rw [if_pos (by omega), if_pos (by omega), rd_ask, if_pos hn, w64s hil (by omega)]
      · rw [List.filter_cons_of_pos (by simp [hn])]
        have := ih (i + 1) (acc ++ [ask q i]) (by omega) (by rw [List.length_append, List.length_singleton]; omega)
        rw [List.append_assoc acc, List.singleton_append] at this
        refine Ev.step (fun k => ?_) this
        simp only [estoversref21_Cancel.l0]
        rw [if_pos (by omega), if_pos (by omega), rd_ask, if_neg hn, if_pos (by omega), w64s hil (by omega)]
  refine Ev.bindS (ref_cq q (by omega)) ?_
  unfold can
  by_cases h : cq q = 0
  · rw [if_pos h]
    refine Ev.congr (fun k => if_pos h) ?_
    refine Ev.bindS (ref_at q (by omega) n) ?_
    by_cases hp : pl q n < 0
    · rw [if_pos hp]
      exact Ev.congr (fun k => if_pos hp) (Ev.now _)
    · rw [if_neg hp]
      refine Ev.congr (fun k => if_neg hp) ?_
      rw [← okq_filter (cq_ok.1 h) (by omega)]
      exact key q.length 0 [] (by omega) (by simp only [List.length_nil]; omega)
  · rw [if_neg h]
    exact Ev.congr (fun k => if_neg h) (Ev.now _)
theorem ref_same21 (l : List S37) (hn : l.length ≤ 1000) : Ev (fun k => estoversref21_Same.f k l l) true := by
  have key : ∀ d i, i + d = l.length → Ev (fun k => estoversref21_Same.l0 k l l (i : Int)) true := by
    intro d
    induction d with
    | zero =>
      intro i hi
      obtain rfl : i = l.length := by omega
      refine Ev.step (f := fun _ => some true) (fun k => ?_) (Ev.now _)
      simp only [estoversref21_Same.l0]
      rw [if_neg (by omega)]
    | succ d ih =>
      intro i hi
      have hil : i < l.length := by omega
      refine Ev.step (fun k => ?_) (ih (i + 1) (by omega))
      simp only [estoversref21_Same.l0]
      rw [if_pos (by omega), if_pos (by omega), if_pos (by omega), if_neg (by simp), w64s hil (by omega)]
  refine Ev.congr (fun k => ?_) (key l.length 0 (by omega))
  unfold estoversref21_Same.f
  rw [if_pos rfl]
  rfl

-- PARTS: base acc1 acc2 acc3 acc4 acc5 acc6 acc7 same acc8 grant1 grant8
theorem queues_aw (q : List S37) (l : List S64) : Ev (fun k => estoverslaw21_GrantQueues.j0 k q l true) true := by
  refine Ev.step (f := fun k => (estoverslaw21_awake.f k).bind fun t => some t) (fun k => by simp [estoverslaw21_GrantQueues.j0]) ?_
  exact Ev.bindS aw21 (Ev.now _)
theorem queues_end {q : List S37} {r : List S37 × Int} {ops : List S64} {n i j : Int} (hr : r.1.length ≤ 1000) (hj : wrap64 (i + 1) = j)
    (h1 : Ev (fun k => estoverslaw21_GrantQueues.l0 k r.1 ops n j) true) (h2 : Ev (fun k => estoverslaw21_GrantQueues.l0 k q ops n j) true) :
    Ev (fun k => estoverslaw21_GrantQueues.j2 k q r.1 r.2 r.1 r.2 ops n i) true := by
  refine Ev.stepS (fun k => by simp only [estoverslaw21_GrantQueues.j2]; rw [if_pos trivial]) ?_
  refine Ev.bindS (ref_same21 r.1 hr) ?_
  by_cases h : r.2 = 0
  · refine Ev.stepS (fun k => by simp only [estoverslaw21_GrantQueues.j3]; rw [if_neg (by decide), if_pos h]) ?_
    rw [hj]
    exact h1
  · refine Ev.stepS (fun k => by simp only [estoverslaw21_GrantQueues.j3]; rw [if_neg (by decide), if_neg h]) ?_
    rw [hj]
    exact h2
theorem queues_loop (ops : List S64) (ho : ops.length ≤ 40) : ∀ d i (q : List S37), i + d = ops.length → q.length ≤ 20 + i → Ev (fun k => estoverslaw21_GrantQueues.l0 k q ops (ops.length : Int) (i : Int)) true := by
  intro d
  induction d with
  | zero =>
    intro i q hi hq
    obtain rfl : i = ops.length := by omega
    refine Ev.step (f := fun _ => some true) (fun k => ?_) (Ev.now _)
    simp only [estoverslaw21_GrantQueues.l0]
    rw [if_neg (by omega)]
  | succ d ih =>
    intro i q hi hq
    have hil : i < ops.length := by omega
    refine Ev.stepS (fun k => by simp only [estoverslaw21_GrantQueues.l0]; rw [if_pos (by omega), if_pos (by omega), if_pos (by omega)]) ?_
    refine Ev.bindS (prog_push (by omega) (rd_T64 ops (i : Int)).f1) ?_
    refine Ev.bindS (ref_push (by omega) (rd_T64 ops (i : Int)).f1) ?_
    have h2 := ih (i + 1) q (by omega) (by omega)
    by_cases hc : (rd_T64 ops (i : Int)).f0 = true
    · refine Ev.congr (fun k => if_pos hc) ?_
      refine Ev.bindS (prog_cancel (by omega) (rd_T64 ops (i : Int)).f1.f0) ?_
      refine Ev.bindS (ref_cancel (by omega) (rd_T64 ops (i : Int)).f1.f0) ?_
      have hl := can_len q (rd_T64 ops (i : Int)).f1.f0
      exact queues_end (r := can q (rd_T64 ops (i : Int)).f1.f0) (by omega) (w64s hil (by omega)) (ih (i + 1) _ (by omega) (by omega)) h2
    · refine Ev.congr (fun k => if_neg hc) ?_
      have hl := psh_len q (rd_T64 ops (i : Int)).f1
      exact queues_end (r := psh q (rd_T64 ops (i : Int)).f1) (by omega) (w64s hil (by omega)) (ih (i + 1) _ (by omega) (by omega)) h2
theorem GrantQueues : estoverslaw21_GrantQueues.Pure := by
  intro q ops _ _
  refine Ev.rounds ?_
  refine Ev.bindS aw21 ?_
  refine Ev.congr (fun k => if_pos rfl) ?_
  by_cases h1 : (q.length : Int) > 20
  · exact Ev.congr (fun k => if_pos h1) (queues_aw q ops)
  · refine Ev.congr (fun k => if_neg h1) ?_
    by_cases h2 : (ops.length : Int) > 40
    · rw [decide_eq_true h2]
      exact queues_aw q ops
    · rw [decide_eq_false h2]
      refine Ev.stepS (fun k => by simp only [estoverslaw21_GrantQueues.j0]; rw [if_neg (by decide)]) ?_
      refine Ev.bindS (prog_cq q (by omega)) ?_
      refine Ev.bindS (ref_cq q (by omega)) ?_
      refine Ev.congr (fun k => if_pos rfl) ?_
      exact queues_loop ops (by omega) ops.length 0 q (by omega) (by omega)

end Go.Proofs.Ytimlodcdfekbhaa.Pure
