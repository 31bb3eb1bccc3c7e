/-
  Words of this session beside the printed ones: a call through a function value that stands in a slot; arguments that are slices of flat structs, read as the print reads them.
-/
import Derived.Maps.OwnIn
import Derived.LoopIn
import Derived.LoopNIn
import Derived.TacticsInMore
import Derived.OwnWalkIn
import Derived.WalkKit
import Derived.Shelf.RegionOpen
import Derived.Shelf.Abstract
import Derived.RangeFuncBox
import Derived.RangeFuncLeaves
import Derived.RangeFuncCalls
import Derived.RangeFuncBound
import Derived.RangeFuncNested
import Derived.Shelf.SlSortCmp.NoneTotal
import Derived.DeepKeys4
import Derived.Maps.OwnSet
import Derived.Test.YtpccpkpljlafcaaWMore
import Derived.Test.YtpccpkpljlafcaaWLast
import Derived.Deep.Slices
import Derived.Lib.SmallJoins
import Derived.Lib.SliceRun
import Derived.Deep.RegionLaw
namespace Go.Proofs.YtpccpkpljlafcaaW.PrintMore
open Go.RowKit Go.Proofs.YtpccpkpljlafcaaW.PrintWords Go.Proofs.YtpccpkpljlafcaaW.PrintLast
section
variable {P : Program} {ops : Array Oper} {rest : List Oper} {o : Oper} {a : Act} {Q : Exit → Act → World → Prop} {W : World}
/-- The operation is a call of what slot t holds. -/
theorem gate_calleeT {t : Tmp} {args_ : Array Operand} {ts : Array TypeId} (_ho : o.op = .call { callee := .value (.tmp t), args := args_, argTypes := ts }) (h : wpList P ops Q (o :: rest) a W) : wpList P ops Q (o :: rest) a W := h
/-- A call of a function value without captured variables, as an arm of go_wp2_with. -/
theorem goesT_ {rest : List Oper} {oi : Oper} {a : Act} {w : World} (N : Option Tmp) (hd : oi.dst = N) (hg : oi.guard = none) {f : FuncId} {fn : Func} {t : Tmp} {args_ : Array Operand} {ts : Array TypeId} (hf : P.funcs[f]? = some fn) (hname : (fn.name == "runtime.NumGoroutine") = false) (hb : fn.body.isSome = true) (args : Array Value)
    (hop : oi.op = .call { callee := .value (.tmp t), args := args_, argTypes := ts }) (ht : a.eval (.tmp t) = .func (.func f) #[] #[]) (hargs : args_.map a.eval = args)
    (h : Calls P f args w fun e w' => ∃ v, e = .returned v ∧ wpList P ops Q rest (a.put N v) w') : wpList P ops Q (oi :: rest) a w := by
  refine wpList_plain hg fun K hK => ?_
  have he := enters_ hf hname hb args w
  have hrun : (execOp a.eval oi).run P w = .ok (.enter f args) w := by
    unfold execOp
    simp [hop, resolve, ht, Deferred.ofValue, invoke, hargs, he]
  unfold Oper.wp
  rw [hrun, Oper.upon_enter]
  refine h.mono fun e w'' hh => ?_
  obtain ⟨v, rfl, hk⟩ := hh
  subst hd
  exact hK _ _ hk
/-- A call of a function value that has captured variables. -/
theorem goesC_ {rest : List Oper} {oi : Oper} {a : Act} {w : World} (N : Option Tmp) (hd : oi.dst = N) (hg : oi.guard = none) {f : FuncId} {fn : Func} {cap : Array Value} {t : Tmp} {es : Array Operand} {ts : Array TypeId} (hf : P.funcs[f]? = some fn) (hname : (fn.name == "runtime.NumGoroutine") = false) (hb : fn.body.isSome = true) (args : Array Value)
    (hop : oi.op = .call { callee := .value (.tmp t), args := es, argTypes := ts }) (ht : a.eval (.tmp t) = .func (.func f) #[] cap) (hargs : es.map a.eval = args)
    (h : Calls P f (args ++ cap) w fun e w' => ∃ v, e = .returned v ∧ wpList P ops Q rest (a.put N v) w') : wpList P ops Q (oi :: rest) a w := by
  refine wpList_plain hg fun K hK => ?_
  have he := enters_ hf hname hb (args ++ cap) w
  have hrun : (execOp a.eval oi).run P w = .ok (.enter f (args ++ cap)) w := by
    unfold execOp
    simp [hop, resolve, ht, Deferred.ofValue, invoke, hargs, he]
  unfold Oper.wp
  rw [hrun, Oper.upon_enter]
  refine h.mono fun e w'' hh => ?_
  obtain ⟨v, rfl, hk⟩ := hh
  subst hd
  exact hK _ _ hk
variable {K : Act → World → Prop}
/-- The same as one step of a region that draws. -/
theorem goesTs_ {oi : Oper} {N : Option Tmp} {a : Act} {w : World} {f : FuncId} {fn : Func} {t : Tmp} {es : Array Operand} {ts : Array TypeId} (hf : P.funcs[f]? = some fn) (hname : (fn.name == "runtime.NumGoroutine") = false) (hb : fn.body.isSome = true) (args : Array Value)
    (hw : Region.wanted oi (yielded ops a.tmps) = true) (hN : oi.dst = N) (hop : oi.op = .call { callee := .value (.tmp t), args := es, argTypes := ts }) (ht : a.eval (.tmp t) = .func (.func f) #[] #[]) (hargs : es.map a.eval = args)
    (h : Calls P f args w fun e w' => ∃ v, e = .returned v ∧ K (a.put N v) w') : if Region.wanted oi (yielded ops a.tmps) = true then Oper.wp P oi a w K Q else K (a.put N undef) w := by
  refine call_ f args hw hN ?_ h
  have he := enters_ hf hname hb args w
  unfold execOp
  simp [hop, resolve, ht, Deferred.ofValue, invoke, hargs, he]
theorem goesCs_ {oi : Oper} {N : Option Tmp} {a : Act} {w : World} {f : FuncId} {fn : Func} {cap : Array Value} {t : Tmp} {es : Array Operand} {ts : Array TypeId} (hf : P.funcs[f]? = some fn) (hname : (fn.name == "runtime.NumGoroutine") = false) (hb : fn.body.isSome = true) (args : Array Value)
    (hw : Region.wanted oi (yielded ops a.tmps) = true) (hN : oi.dst = N) (hop : oi.op = .call { callee := .value (.tmp t), args := es, argTypes := ts }) (ht : a.eval (.tmp t) = .func (.func f) #[] cap) (hargs : es.map a.eval = args)
    (h : Calls P f (args ++ cap) w fun e w' => ∃ v, e = .returned v ∧ K (a.put N v) w') : if Region.wanted oi (yielded ops a.tmps) = true then Oper.wp P oi a w K Q else K (a.put N undef) w := by
  refine call_ f (args ++ cap) hw hN ?_ h
  have he := enters_ hf hname hb (args ++ cap) w
  unfold execOp
  simp [hop, resolve, ht, Deferred.ofValue, invoke, hargs, he]
end
/-- 's == nil' of a slice that is nil, and of one that is not. -/
theorem nil_yes {P : Program} {t e : TypeId} (h : P.underlying t = some (.slice e)) : ∀ (n c : Nat) (W : World), (binOp .eql t (.slice none n c) (.slice none 0 0)).run P W = .ok (.bool true) W := fun n c W => Go.Lib.run_eql_slice_nil W t e none n c 0 0 h
theorem nil_no {P : Program} {t e : TypeId} (ad : Addr) (h : P.underlying t = some (.slice e)) : ∀ (n c : Nat) (W : World), (binOp .eql t (.slice (some ad) n c) (.slice none 0 0)).run P W = .ok (.bool false) W := fun n c W => Go.Lib.run_eql_slice_nil W t e (some ad) n c 0 0 h
/-- What came in, handed to what may share it. -/
theorem V_of_C {α : Type} {d : Kd α} {e : Nat} {w : World} {A : Option Addr} {c : Nat} {xs : List α} (hd : Kd.Heap d) (h : Kd.C d w A xs.length xs) (hl : xs.length ≤ c) : Kd.V d e w w.heap.size (fun k => k < w.heap.size) (.slice A xs.length c) xs := Kd.V_mk hl (Kd.C_F hd h)
section
open Go.ChangeShapes Go.WideShapes Go.Deep
variable {H : Type} {enc : TypeId × Value → H} {P : Program} {W : World} {base : Nat} {spare : Nat → Bool} {held : Bool}
/-- A slice that came in, read as a row of elements that are told by d. -/
theorem C_of_cell {α : Type} {d : Kd α} {Q : α → Prop} {t e : TypeId} {A : Option Addr} {len cap : Nat} (ht : P.underlying t = some (.slice e)) (hs : P.cellsOf e = d.sz)
    (hel : ∀ (n : Nat) (cs : List Value) (x : DataW H × List MemPlace), DataW.trod enc P W base spare held n e cs = some x → cs.length = d.sz → ∃ p : α, d.K W p cs ∧ Q p)
    (h : ∃ fuel x, DataW.trod enc P W base spare held fuel t [.slice A len cap] = some x) :
    ∃ l : List α, len = l.length ∧ l.length ≤ cap ∧ Kd.C d W A l.length l ∧ ∀ p ∈ l, Q p := by
  obtain ⟨fuel, x, h⟩ := h
  rcases open_slice ht h with ⟨hcs, _⟩ | ⟨a, len', cap', m, n, D, Pl, hcs, _, hl, hm, hmm, _, hx⟩
  · have h1 := List.cons.inj hcs |>.1
    injection h1 with h2 h3 h4
    subst h2 h3 h4
    exact ⟨[], rfl, Nat.le_refl _, ⟨rfl, Nat.zero_le _, fun h => absurd h (Nat.not_lt_zero _)⟩, fun p hp => by cases hp⟩
  · have h1 := List.cons.inj hcs |>.1
    injection h1 with h2 h3 h4
    subst h2 h3 h4
    have hlm : len ≤ m := by rw [hmm]; split <;> omega
    have hall : ∀ k, k ≤ len → ∃ l : List α, l.length = k ∧ ∀ j p, l[j]? = some p → (∃ c, c.length = d.sz ∧ d.K W p c ∧ ∀ i u, c[i]? = some u → W.cell? (a.add (j * d.sz + i)) = some u) ∧ Q p := by
      intro k
      induction k with
      | zero => intro _; exact ⟨[], rfl, fun j p hj => by simp at hj⟩
      | succ k ih =>
        intro hk
        obtain ⟨l, hlk, hl2⟩ := ih (by omega)
        obtain ⟨cs', hc1, hc2⟩ := hx k (by omega)
        rw [hs] at hc1
        obtain ⟨_, hcl, hcell⟩ := World.cells?_some hc1
        obtain ⟨p, hp, hq⟩ := hel _ _ _ hc2 hcl
        refine ⟨l ++ [p], by simp [hlk], fun j q hj => ?_⟩
        by_cases hjk : j < l.length
        · rw [List.getElem?_append_left hjk] at hj
          exact hl2 j q hj
        · have hj0 : j = k := by
            have := (List.getElem?_eq_some_iff.1 hj).1
            simp at this
            omega
          subst hj0
          rw [List.getElem?_append_right (by omega), hlk] at hj
          simp at hj
          subst hj
          refine ⟨⟨cs', hcl, hp, fun i u hu => ?_⟩, hq⟩
          have hi := (List.getElem?_eq_some_iff.1 hu).1
          have := hcell i (by omega)
          rw [Go.Deep.add_add] at this
          rw [this, hu]
    obtain ⟨l, hlk, hl2⟩ := hall len (Nat.le_refl _)
    subst hlk
    refine ⟨l, rfl, hl, ⟨rfl, ?_, fun _ => ⟨a, rfl, fun j p hj => (hl2 j p hj).1⟩⟩, fun p hp => ?_⟩
    · unfold maxLen at hm
      omega
    · obtain ⟨j, hj⟩ := List.getElem?_of_mem hp
      exact (hl2 j p hj).2
theorem C_of_trod {α : Type} {d : Kd α} {Q : α → Prop} {t e : TypeId} {A : Option Addr} {len cap : Nat} {x : DataW H} {ps : List MemPlace} (ht : P.underlying t = some (.slice e)) (hs : P.cellsOf e = d.sz)
    (hel : ∀ (n : Nat) (cs : List Value) (x : DataW H × List MemPlace), DataW.trod enc P W base spare held n e cs = some x → cs.length = d.sz → ∃ p : α, d.K W p cs ∧ Q p)
    (h : DataW.Trod enc P W base spare held t (.slice A len cap) x ps) :
    ∃ l : List α, len = l.length ∧ l.length ≤ cap ∧ Kd.C d W A l.length l ∧ ∀ p ∈ l, Q p := by
  obtain ⟨fuel, hf⟩ := h
  exact C_of_cell ht hs hel ⟨fuel, _, by simpa [Value.cells] using hf⟩
theorem int_of_trod {e : TypeId} {k : IntKind} {n : Nat} {cs : List Value} {x : DataW H × List MemPlace} (he : P.underlying e = some (.int k)) (h : DataW.trod enc P W base spare held n e cs = some x) :
    ∃ p : Int, (Kd.int k).K W p cs ∧ (Lit.int k p).wf = true := by
  obtain ⟨p, rfl, _, hw⟩ := DataW.trod_int he h
  exact ⟨p, rfl, hw⟩
theorem slice1_of_trod {t e : TypeId} {fuel : Nat} {v : Value} {y : DataW H × List MemPlace} (ht : P.underlying t = some (.slice e)) (hf : DataW.trod enc P W base spare held fuel t [v] = some y) : ∃ a l c, v = .slice a l c := by
  obtain ⟨a, l, c, h⟩ := Go.Joins.slice_form ht hf
  exact ⟨a, l, c, List.cons.inj h |>.1⟩
theorem bool1_of_trod {t : TypeId} {fuel : Nat} {v : Value} {y : DataW H × List MemPlace} (ht : P.underlying t = some .bool) (hf : DataW.trod enc P W base spare held fuel t [v] = some y) : ∃ b, v = .bool b := by
  obtain ⟨b, h, _⟩ := DataW.trod_bool ht hf
  exact ⟨b, List.cons.inj h |>.1⟩
theorem int1_of_trod {t : TypeId} {k : IntKind} {fuel : Nat} {v : Value} {y : DataW H × List MemPlace} (ht : P.underlying t = some (.int k)) (hf : DataW.trod enc P W base spare held fuel t [v] = some y) : ∃ n, v = .int k n ∧ (Lit.int k n).wf = true := by
  obtain ⟨n, h, _, hw⟩ := DataW.trod_int ht hf
  exact ⟨n, List.cons.inj h |>.1, hw⟩
end
section
open Go.ChangeShapes Go.WideShapes
section
variable {H : Type} {enc : TypeId × Value → H} {P : Program} {W : World} {base : Nat} {spare : Nat → Bool} {held : Bool}
/-- An array of one-celled elements, by value. -/
theorem arr_open {r : Reach} {b0 : Nat} {t e : TypeId} {n : Nat} {v : Value} {d : DataW H} {p : List MemPlace} (ht : P.underlying t = some (.array n e)) (hce : P.cellsOf e = 1) (hct : P.cellsOf t = n)
    (hv : Value.okWide P W r b0 t v) (h : DataW.Trod enc P W base spare held t v d p) :
    ∃ cs : Array Value, v = .agg cs ∧ cs.size = n ∧ ∀ (i : Nat) (c : Value), cs[i]? = some c → ∃ fuel y, DataW.trod enc P W base spare held fuel e [c] = some y := by
  simp only [Value.okWide, ht] at hv
  obtain ⟨cs, rfl, hs, _⟩ := hv
  obtain ⟨fuel, hf⟩ := h
  obtain ⟨xs, m, _, _, _, hl, hx⟩ := DataW.trod_array ht hf
  refine ⟨cs, rfl, hs.trans hct, fun i c hi => ?_⟩
  have hin : i < n := by
    have := (Array.getElem?_eq_some_iff.1 hi).1
    omega
  have := hx i hin
  rw [hce, Nat.mul_one] at this
  have hc : (List.drop i (Value.cells (.agg cs)).toList).take 1 = [c] := by
    show (List.drop i cs.toList).take 1 = [c]
    have h2 : cs.toList[i]? = some c := by simpa using hi
    obtain ⟨h3, h4⟩ := List.getElem?_eq_some_iff.1 h2
    rw [List.drop_eq_getElem_cons h3, h4]
    rfl
  rw [hc] at this
  rw [List.getElem?_eq_getElem (by omega)] at this
  exact ⟨m, _, this⟩
theorem arr_open2 {r : Reach} {b0 : Nat} {t e : TypeId} {v : Value} {d : DataW H} {p : List MemPlace} (ht : P.underlying t = some (.array 2 e)) (hce : P.cellsOf e = 1) (hct : P.cellsOf t = 2)
    (hv : Value.okWide P W r b0 t v) (h : DataW.Trod enc P W base spare held t v d p) :
    ∃ c0 c1 f0 f1 y0 y1, v = .agg #[c0, c1] ∧ DataW.trod enc P W base spare held f0 e [c0] = some y0 ∧ DataW.trod enc P W base spare held f1 e [c1] = some y1 := by
  obtain ⟨cs, rfl, hs, hx⟩ := arr_open ht hce hct hv h
  obtain ⟨c0, c1, rfl⟩ := Go.Joins.array2 hs
  obtain ⟨f0, y0, h0⟩ := hx 0 c0 rfl
  obtain ⟨f1, y1, h1⟩ := hx 1 c1 rfl
  exact ⟨c0, c1, f0, f1, y0, y1, rfl, h0, h1⟩
theorem arr_open4 {r : Reach} {b0 : Nat} {t e : TypeId} {v : Value} {d : DataW H} {p : List MemPlace} (ht : P.underlying t = some (.array 4 e)) (hce : P.cellsOf e = 1) (hct : P.cellsOf t = 4)
    (hv : Value.okWide P W r b0 t v) (h : DataW.Trod enc P W base spare held t v d p) :
    ∃ c0 c1 c2 c3 f0 f1 f2 f3 y0 y1 y2 y3, v = .agg #[c0, c1, c2, c3] ∧ DataW.trod enc P W base spare held f0 e [c0] = some y0 ∧ DataW.trod enc P W base spare held f1 e [c1] = some y1 ∧ DataW.trod enc P W base spare held f2 e [c2] = some y2 ∧ DataW.trod enc P W base spare held f3 e [c3] = some y3 := by
  obtain ⟨cs, rfl, hs, hx⟩ := arr_open ht hce hct hv h
  obtain ⟨c0, c1, c2, c3, rfl⟩ := Go.Joins.array4 hs
  obtain ⟨f0, y0, h0⟩ := hx 0 c0 rfl
  obtain ⟨f1, y1, h1⟩ := hx 1 c1 rfl
  obtain ⟨f2, y2, h2⟩ := hx 2 c2 rfl
  obtain ⟨f3, y3, h3⟩ := hx 3 c3 rfl
  exact ⟨c0, c1, c2, c3, f0, f1, f2, f3, y0, y1, y2, y3, rfl, h0, h1, h2, h3⟩
end
end
end Go.Proofs.YtpccpkpljlafcaaW.PrintMore
