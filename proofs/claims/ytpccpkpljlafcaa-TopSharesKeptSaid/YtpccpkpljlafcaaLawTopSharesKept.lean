-- Printed by a copy of the kit's printer that this session has patched (wip/tools/patch_print.py): the session's own text. Lean checks it.
import Derived.Test.YtpccpkpljlafcaaRows
import Derived.Test.YtpccpkpljlafcaaPTopSharesKeptx
import Derived.Test.YtpccpkpljlafcaaQTopSharesKept
import Derived.Test.YtpccpkpljlafcaaPureTopSharesKept
import Derived.WalkKit
import Derived.ProofKit
import Derived.OpenShut
import Derived.ShutString
import Derived.ChangeOld
import Derived.Below
import Derived.SizedLaws
import Derived.Deep.Slices
import Derived.Lib.SmallJoins
import Derived.Test.YtpccpkpljlafcaaWSized
namespace Go.Proofs.Ytpccpkpljlafcaa.topSharesKept
open Go.ChangeShapes Go.WideShapes Go.ChangeAt Go.RowKit Go.Proofs.YtpccpkpljlafcaaW.PrintMore Go.Proofs.YtpccpkpljlafcaaW.PrintWords
open Go.ChangeMaps (open_string shut_string)
set_option linter.unusedVariables false
theorem own : ownKnob Try.prog.godebug = none := by kernel_rfl
theorem laidOut : laidOutB Try.prog = true := by kernel_rfl
theorem open35 {H : Type} {enc : TypeId × Value → H} {W : World} {base : Nat} {spare : Nat → Bool} {held : Bool} {n : Nat} {cs : List Value} {x : DataW H × List MemPlace} (h : DataW.trod enc Try.prog W base spare held n 35 cs = some x) (hl : cs.length = 7) :
    ∃ p : PTopSharesKept.S35, PTopSharesKept.k35.K W p cs ∧ PTopSharesKept.wf35 p := by
  obtain ⟨v0, v1, v2, v3, v4, v5, v6, rfl⟩ : ∃ v0 v1 v2 v3 v4 v5 v6, cs = [v0, v1, v2, v3, v4, v5, v6] := by match cs, hl with | [v0, v1, v2, v3, v4, v5, v6], _ => exact ⟨v0, v1, v2, v3, v4, v5, v6, rfl⟩
  obtain ⟨xs1, m1, _, _, hl1, hx1, hf1⟩ := DataW.trod_struct Try.underlying35 h
  have hx1' : xs1.length = 7 := hx1
  obtain ⟨y1_0, y1_1, y1_2, y1_3, y1_4, y1_5, y1_6, rfl⟩ : ∃ y1_0 y1_1 y1_2 y1_3 y1_4 y1_5 y1_6, xs1 = [y1_0, y1_1, y1_2, y1_3, y1_4, y1_5, y1_6] := by match xs1, hx1' with | [y1_0, y1_1, y1_2, y1_3, y1_4, y1_5, y1_6], _ => exact ⟨y1_0, y1_1, y1_2, y1_3, y1_4, y1_5, y1_6, rfl⟩
  have g1_0 : DataW.trod enc Try.prog W base spare held m1 3 [v0] = some y1_0 := by have h_ : DataW.trod enc Try.prog W base spare held m1 3 (List.take (Try.prog.cellsOf 3) (List.drop 0 [v0, v1, v2, v3, v4, v5, v6])) = some y1_0 := hf1 0 _ rfl; rw [show Try.prog.cellsOf 3 = 1 from by kernel_rfl] at h_; exact h_
  have g1_1 : DataW.trod enc Try.prog W base spare held m1 3 [v1] = some y1_1 := by have h_ : DataW.trod enc Try.prog W base spare held m1 3 (List.take (Try.prog.cellsOf 3) (List.drop 1 [v0, v1, v2, v3, v4, v5, v6])) = some y1_1 := hf1 1 _ rfl; rw [show Try.prog.cellsOf 3 = 1 from by kernel_rfl] at h_; exact h_
  have g1_2 : DataW.trod enc Try.prog W base spare held m1 3 [v2] = some y1_2 := by have h_ : DataW.trod enc Try.prog W base spare held m1 3 (List.take (Try.prog.cellsOf 3) (List.drop 2 [v0, v1, v2, v3, v4, v5, v6])) = some y1_2 := hf1 2 _ rfl; rw [show Try.prog.cellsOf 3 = 1 from by kernel_rfl] at h_; exact h_
  have g1_3 : DataW.trod enc Try.prog W base spare held m1 3 [v3] = some y1_3 := by have h_ : DataW.trod enc Try.prog W base spare held m1 3 (List.take (Try.prog.cellsOf 3) (List.drop 3 [v0, v1, v2, v3, v4, v5, v6])) = some y1_3 := hf1 3 _ rfl; rw [show Try.prog.cellsOf 3 = 1 from by kernel_rfl] at h_; exact h_
  have g1_4 : DataW.trod enc Try.prog W base spare held m1 3 [v4] = some y1_4 := by have h_ : DataW.trod enc Try.prog W base spare held m1 3 (List.take (Try.prog.cellsOf 3) (List.drop 4 [v0, v1, v2, v3, v4, v5, v6])) = some y1_4 := hf1 4 _ rfl; rw [show Try.prog.cellsOf 3 = 1 from by kernel_rfl] at h_; exact h_
  have g1_5 : DataW.trod enc Try.prog W base spare held m1 4 [v5] = some y1_5 := by have h_ : DataW.trod enc Try.prog W base spare held m1 4 (List.take (Try.prog.cellsOf 4) (List.drop 5 [v0, v1, v2, v3, v4, v5, v6])) = some y1_5 := hf1 5 _ rfl; rw [show Try.prog.cellsOf 4 = 1 from by kernel_rfl] at h_; exact h_
  have g1_6 : DataW.trod enc Try.prog W base spare held m1 4 [v6] = some y1_6 := by have h_ : DataW.trod enc Try.prog W base spare held m1 4 (List.take (Try.prog.cellsOf 4) (List.drop 6 [v0, v1, v2, v3, v4, v5, v6])) = some y1_6 := hf1 6 _ rfl; rw [show Try.prog.cellsOf 4 = 1 from by kernel_rfl] at h_; exact h_
  obtain ⟨b0, hb0, _, w0⟩ := DataW.trod_int Try.underlying3 g1_0
  obtain rfl := List.cons.inj hb0 |>.1
  obtain ⟨b1, hb1, _, w1⟩ := DataW.trod_int Try.underlying3 g1_1
  obtain rfl := List.cons.inj hb1 |>.1
  obtain ⟨b2, hb2, _, w2⟩ := DataW.trod_int Try.underlying3 g1_2
  obtain rfl := List.cons.inj hb2 |>.1
  obtain ⟨b3, hb3, _, w3⟩ := DataW.trod_int Try.underlying3 g1_3
  obtain rfl := List.cons.inj hb3 |>.1
  obtain ⟨b4, hb4, _, w4⟩ := DataW.trod_int Try.underlying3 g1_4
  obtain rfl := List.cons.inj hb4 |>.1
  obtain ⟨b5, hb5, _⟩ := DataW.trod_bool Try.underlying4 g1_5
  obtain rfl := List.cons.inj hb5 |>.1
  obtain ⟨b6, hb6, _⟩ := DataW.trod_bool Try.underlying4 g1_6
  obtain rfl := List.cons.inj hb6 |>.1
  exact ⟨(⟨b0, b1, b2, b3, b4, b5, b6⟩ : PTopSharesKept.S35), PTopSharesKept.k35_mk W _, ⟨w0, w1, w2, w3, w4⟩⟩
theorem open53 {H : Type} {enc : TypeId × Value → H} {W : World} {base : Nat} {spare : Nat → Bool} {held : Bool} {n : Nat} {cs : List Value} {x : DataW H × List MemPlace} (h : DataW.trod enc Try.prog W base spare held n 53 cs = some x) (hl : cs.length = 5) :
    ∃ p : PTopSharesKept.S53, PTopSharesKept.k53.K W p cs ∧ PTopSharesKept.wf53 p := by
  obtain ⟨v0, v1, v2, v3, v4, rfl⟩ : ∃ v0 v1 v2 v3 v4, cs = [v0, v1, v2, v3, v4] := by match cs, hl with | [v0, v1, v2, v3, v4], _ => exact ⟨v0, v1, v2, v3, v4, rfl⟩
  obtain ⟨xs1, m1, _, _, hl1, hx1, hf1⟩ := DataW.trod_struct Try.underlying53 h
  have hx1' : xs1.length = 5 := hx1
  obtain ⟨y1_0, y1_1, y1_2, y1_3, y1_4, rfl⟩ : ∃ y1_0 y1_1 y1_2 y1_3 y1_4, xs1 = [y1_0, y1_1, y1_2, y1_3, y1_4] := by match xs1, hx1' with | [y1_0, y1_1, y1_2, y1_3, y1_4], _ => exact ⟨y1_0, y1_1, y1_2, y1_3, y1_4, rfl⟩
  have g1_0 : DataW.trod enc Try.prog W base spare held m1 3 [v0] = some y1_0 := by have h_ : DataW.trod enc Try.prog W base spare held m1 3 (List.take (Try.prog.cellsOf 3) (List.drop 0 [v0, v1, v2, v3, v4])) = some y1_0 := hf1 0 _ rfl; rw [show Try.prog.cellsOf 3 = 1 from by kernel_rfl] at h_; exact h_
  have g1_1 : DataW.trod enc Try.prog W base spare held m1 3 [v1] = some y1_1 := by have h_ : DataW.trod enc Try.prog W base spare held m1 3 (List.take (Try.prog.cellsOf 3) (List.drop 1 [v0, v1, v2, v3, v4])) = some y1_1 := hf1 1 _ rfl; rw [show Try.prog.cellsOf 3 = 1 from by kernel_rfl] at h_; exact h_
  have g1_2 : DataW.trod enc Try.prog W base spare held m1 3 [v2] = some y1_2 := by have h_ : DataW.trod enc Try.prog W base spare held m1 3 (List.take (Try.prog.cellsOf 3) (List.drop 2 [v0, v1, v2, v3, v4])) = some y1_2 := hf1 2 _ rfl; rw [show Try.prog.cellsOf 3 = 1 from by kernel_rfl] at h_; exact h_
  have g1_3 : DataW.trod enc Try.prog W base spare held m1 3 [v3] = some y1_3 := by have h_ : DataW.trod enc Try.prog W base spare held m1 3 (List.take (Try.prog.cellsOf 3) (List.drop 3 [v0, v1, v2, v3, v4])) = some y1_3 := hf1 3 _ rfl; rw [show Try.prog.cellsOf 3 = 1 from by kernel_rfl] at h_; exact h_
  have g1_4 : DataW.trod enc Try.prog W base spare held m1 3 [v4] = some y1_4 := by have h_ : DataW.trod enc Try.prog W base spare held m1 3 (List.take (Try.prog.cellsOf 3) (List.drop 4 [v0, v1, v2, v3, v4])) = some y1_4 := hf1 4 _ rfl; rw [show Try.prog.cellsOf 3 = 1 from by kernel_rfl] at h_; exact h_
  obtain ⟨b0, hb0, _, w0⟩ := DataW.trod_int Try.underlying3 g1_0
  obtain rfl := List.cons.inj hb0 |>.1
  obtain ⟨b1, hb1, _, w1⟩ := DataW.trod_int Try.underlying3 g1_1
  obtain rfl := List.cons.inj hb1 |>.1
  obtain ⟨b2, hb2, _, w2⟩ := DataW.trod_int Try.underlying3 g1_2
  obtain rfl := List.cons.inj hb2 |>.1
  obtain ⟨b3, hb3, _, w3⟩ := DataW.trod_int Try.underlying3 g1_3
  obtain rfl := List.cons.inj hb3 |>.1
  obtain ⟨b4, hb4, _, w4⟩ := DataW.trod_int Try.underlying3 g1_4
  obtain rfl := List.cons.inj hb4 |>.1
  exact ⟨(⟨b0, b1, b2, b3, b4⟩ : PTopSharesKept.S53), PTopSharesKept.k53_mk W _, ⟨w0, w1, w2, w3, w4⟩⟩
set_option maxRecDepth 100000 in
theorem lifted (os : Os) (started : os.Started) (H : Type) (enc : TypeId × Value → H) :
    ReturnsInHanded {} Try.checked os 3 .any (Rows.topSharesKeptSpec.pre6 enc Try.prog Try.f3 Rows.topSharesKeptRow.domain false) (Rows.topSharesKeptSpec.post enc Try.prog Try.f3 false true false false) := by
  refine returnsInHanded_of_change_sized (C := Try.checked) own started (by kernel_rfl) Try.func3
    (ChangeSpec.witness6 (enc := enc) (C := Try.checked) false ⟨#[], #[.agg #[.slice none 0 0, .slice none 0 0, .int .i64 0, .bool false]], []⟩ 8 (by kernel_rfl) (by kernel_rfl) (by kernel_rfl) (by kernel_rfl)) ?_
  intro W base args ds gs before hval0 hW hcnd hsz0 _
  have hval : ∀ (j : Nat) t v, Try.f3.params[j]? = some t → args[j]? = some v → Value.okWide Try.prog W .any base t v := hval0
  have hW' := hW
  obtain ⟨p, q, hA0, hV, rfl, hfz, hnd⟩ := hW
  have hA : DataW.TrodAll enc Try.prog W 0 (fun _ => true) true Try.f3.params.toList args.toList ds p := hA0
  rw [Try.params3] at hA hval
  obtain ⟨v0, vs0, d0, ds0, p0, q0, hargs, rfl, rfl, h0, r0⟩ := trodAll_cons hA
  obtain ⟨rfl, rfl, rfl⟩ := trodAll_nil r0
  obtain rfl : args = #[v0] := by cases args; simp_all
  obtain ⟨rfl, rfl⟩ := trodVars_none hV
  have k0 := h0
  have lt0 : ∀ x ∈ p0, x.block < W.heap.size := by obtain ⟨m, hm⟩ := k0; exact DataW.trod_lt m _ _ _ hm
  obtain ⟨c0_0, c0_1, c0_2, c0_3, y0_0, y0_1, y0_2, y0_3, n0_, rfl, _, _, h0_0, h0_1, h0_2, h0_3⟩ := Go.Joins.open_agg4 Try.underlying25 (by kernel_rfl) (by kernel_rfl) (hval 0 25 v0 rfl rfl) h0
  obtain ⟨A0_0, len0_0, cap0_0, rfl⟩ := slice1_of_trod Try.underlying22 h0_0
  obtain ⟨l0_0, rfl, hl0_0, hC0_0, hq0_0⟩ := C_of_cell (d := PTopSharesKept.k35) (Q := PTopSharesKept.wf35) Try.underlying22 (by kernel_rfl) (fun _ _ _ h_ hl_ => open35 h_ hl_) ⟨_, _, h0_0⟩
  obtain ⟨A0_1, len0_1, cap0_1, rfl⟩ := slice1_of_trod Try.underlying23 h0_1
  obtain ⟨l0_1, rfl, hl0_1, hC0_1, hq0_1⟩ := C_of_cell (d := PTopSharesKept.k53) (Q := PTopSharesKept.wf53) Try.underlying23 (by kernel_rfl) (fun _ _ _ h_ hl_ => open53 h_ hl_) ⟨_, _, h0_1⟩
  obtain ⟨a0_2, rfl, w0_2⟩ := int1_of_trod Try.underlying3 h0_2
  obtain ⟨a0_3, rfl⟩ := bool1_of_trod Try.underlying4 h0_3
  obtain ⟨k, hP⟩ := Pure.TopSharesKept l0_0 l0_1 a0_2 a0_3 hq0_0 hq0_1 w0_2
  clear hA0 hval0 hsz0
  refine (PTopSharesKept.estoverstop_TopSharesKept.calls k _ _ l0_0 _ _ l0_1 a0_2 a0_3 true W hC0_0 hl0_0 hC0_1 hl0_1 hP).mono fun e W' hh => ?_
  obtain ⟨he, hd⟩ := hh
  have bel : Below W.heap.size W W' := hd
  subst he
  exact ⟨_, rfl, _, _, _, [], _, [], hW', trodAll_mk1 (shut_bool Try.underlying4 _), (trodAll_cons_mk (Below.trod laidOut (by kernel_rfl) (of_decide_eq_true (by kernel_rfl)) k0 bel lt0) trodAll_mk0), rfl, bel.frame _, fun h => by cases h⟩
theorem over : Rows.topSharesKeptRow.holds Try.pinned (OpenSpec.ofChange Rows.topSharesKeptSpec) :=
  OpenClaim.holds_of_wide 3 Try.f3 rfl rfl rfl rfl rfl rfl rfl ⟨rfl, rfl, rfl, rfl, rfl⟩ rfl rfl rfl rfl rfl (by kernel_rfl) Try.func3 (by kernel_rfl)
    (of_decide_eq_true (by kernel_rfl)) (by unfold Func.isWrapper; first | (rw [if_pos (by decide +kernel)]; kernel_rfl) | (rw [if_neg (by decide +kernel)]; exact ⟨rfl, rfl⟩))
    (fun os started H enc _ => lifted os started H enc)
theorem proved : Rows.TopSharesKeptSaid := over
#print axioms proved
end Go.Proofs.Ytpccpkpljlafcaa.topSharesKept
namespace Go.Proofs.Ytpccpkpljlafcaa
/-- The row, under a short name, for the claim. -/
theorem topSharesKept_holds : Rows.TopSharesKeptSaid := topSharesKept.proved
end Go.Proofs.Ytpccpkpljlafcaa
