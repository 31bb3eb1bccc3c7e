-- Printed by a copy of the kit's printer that this session has patched (wip/tools/patch_print.py): the session's own text. Lean checks it.
import Derived.Test.YtpccpkpljlafcaaRows
import Derived.Test.YtpccpkpljlafcaaPTopOldestFirstx
import Derived.Test.YtpccpkpljlafcaaQTopOldestFirst
import Derived.Test.YtpccpkpljlafcaaPureTopOldestFirst
import Derived.WalkKit
import Derived.ProofKit
import Derived.OpenShut
import Derived.ShutString
import Derived.ChangeOld
import Derived.Below
import Derived.SizedLaws
import Derived.Deep.Slices
import Derived.Lib.SmallJoins
import Derived.Test.YtpccpkpljlafcaaWSized
namespace Go.Proofs.Ytpccpkpljlafcaa.topOldestFirst
open Go.ChangeShapes Go.WideShapes Go.ChangeAt Go.RowKit Go.Proofs.YtpccpkpljlafcaaW.PrintMore Go.Proofs.YtpccpkpljlafcaaW.PrintWords
open Go.ChangeMaps (open_string shut_string)
set_option linter.unusedVariables false
theorem own : ownKnob Try.prog.godebug = none := by kernel_rfl
theorem laidOut : laidOutB Try.prog = true := by kernel_rfl
theorem open77 {H : Type} {enc : TypeId × Value → H} {W : World} {base : Nat} {spare : Nat → Bool} {held : Bool} {n : Nat} {cs : List Value} {x : DataW H × List MemPlace} (h : DataW.trod enc Try.prog W base spare held n 77 cs = some x) (hl : cs.length = 4) :
    ∃ p : PTopOldestFirst.S77, PTopOldestFirst.k77.K W p cs ∧ PTopOldestFirst.wf77 p := by
  obtain ⟨v0, v1, v2, v3, rfl⟩ : ∃ v0 v1 v2 v3, cs = [v0, v1, v2, v3] := by match cs, hl with | [v0, v1, v2, v3], _ => exact ⟨v0, v1, v2, v3, rfl⟩
  obtain ⟨xs1, m1, _, _, hl1, hx1, hf1⟩ := DataW.trod_struct Try.underlying77 h
  have hx1' : xs1.length = 4 := hx1
  obtain ⟨y1_0, y1_1, y1_2, y1_3, rfl⟩ : ∃ y1_0 y1_1 y1_2 y1_3, xs1 = [y1_0, y1_1, y1_2, y1_3] := by match xs1, hx1' with | [y1_0, y1_1, y1_2, y1_3], _ => exact ⟨y1_0, y1_1, y1_2, y1_3, rfl⟩
  have g1_0 : DataW.trod enc Try.prog W base spare held m1 5 [v0] = some y1_0 := by have h_ : DataW.trod enc Try.prog W base spare held m1 5 (List.take (Try.prog.cellsOf 5) (List.drop 0 [v0, v1, v2, v3])) = some y1_0 := hf1 0 _ rfl; rw [show Try.prog.cellsOf 5 = 1 from by kernel_rfl] at h_; exact h_
  have g1_1 : DataW.trod enc Try.prog W base spare held m1 5 [v1] = some y1_1 := by have h_ : DataW.trod enc Try.prog W base spare held m1 5 (List.take (Try.prog.cellsOf 5) (List.drop 1 [v0, v1, v2, v3])) = some y1_1 := hf1 1 _ rfl; rw [show Try.prog.cellsOf 5 = 1 from by kernel_rfl] at h_; exact h_
  have g1_2 : DataW.trod enc Try.prog W base spare held m1 5 [v2] = some y1_2 := by have h_ : DataW.trod enc Try.prog W base spare held m1 5 (List.take (Try.prog.cellsOf 5) (List.drop 2 [v0, v1, v2, v3])) = some y1_2 := hf1 2 _ rfl; rw [show Try.prog.cellsOf 5 = 1 from by kernel_rfl] at h_; exact h_
  have g1_3 : DataW.trod enc Try.prog W base spare held m1 4 [v3] = some y1_3 := by have h_ : DataW.trod enc Try.prog W base spare held m1 4 (List.take (Try.prog.cellsOf 4) (List.drop 3 [v0, v1, v2, v3])) = some y1_3 := hf1 3 _ rfl; rw [show Try.prog.cellsOf 4 = 1 from by kernel_rfl] at h_; exact h_
  obtain ⟨b0, hb0, _, w0⟩ := DataW.trod_int Try.underlying5 g1_0
  obtain rfl := List.cons.inj hb0 |>.1
  obtain ⟨b1, hb1, _, w1⟩ := DataW.trod_int Try.underlying5 g1_1
  obtain rfl := List.cons.inj hb1 |>.1
  obtain ⟨b2, hb2, _, w2⟩ := DataW.trod_int Try.underlying5 g1_2
  obtain rfl := List.cons.inj hb2 |>.1
  obtain ⟨b3, hb3, _⟩ := DataW.trod_bool Try.underlying4 g1_3
  obtain rfl := List.cons.inj hb3 |>.1
  exact ⟨(⟨b0, b1, b2, b3⟩ : PTopOldestFirst.S77), PTopOldestFirst.k77_mk W _, ⟨w0, w1, w2⟩⟩
set_option maxRecDepth 100000 in
theorem lifted (os : Os) (started : os.Started) (H : Type) (enc : TypeId × Value → H) :
    ReturnsInHanded {} Try.checked os 4 .any (Rows.topOldestFirstSpec.pre6 enc Try.prog Try.f4 Rows.topOldestFirstRow.domain false) (Rows.topOldestFirstSpec.post enc Try.prog Try.f4 false true false false) := by
  refine returnsInHanded_of_change_sized (C := Try.checked) own started (by kernel_rfl) Try.func4
    (ChangeSpec.witness6 (enc := enc) (C := Try.checked) false ⟨#[], #[.slice none 0 0], []⟩ 8 (by kernel_rfl) (by kernel_rfl) (by kernel_rfl) (by kernel_rfl)) ?_
  intro W base args ds gs before hval0 hW hcnd hsz0 _
  have hval : ∀ (j : Nat) t v, Try.f4.params[j]? = some t → args[j]? = some v → Value.okWide Try.prog W .any base t v := hval0
  have hW' := hW
  obtain ⟨p, q, hA0, hV, rfl, hfz, hnd⟩ := hW
  have hA : DataW.TrodAll enc Try.prog W 0 (fun _ => true) true Try.f4.params.toList args.toList ds p := hA0
  rw [Try.params4] at hA hval
  obtain ⟨v0, vs0, d0, ds0, p0, q0, hargs, rfl, rfl, h0, r0⟩ := trodAll_cons hA
  obtain ⟨rfl, rfl, rfl⟩ := trodAll_nil r0
  obtain rfl : args = #[v0] := by cases args; simp_all
  obtain ⟨rfl, rfl⟩ := trodVars_none hV
  obtain ⟨A0, len0, cap0, rfl⟩ := okWide_slice Try.underlying37 (hval 0 37 v0 rfl rfl)
  have k0 := h0
  have lt0 : ∀ x ∈ p0, x.block < W.heap.size := by obtain ⟨m, hm⟩ := k0; exact DataW.trod_lt m _ _ _ hm
  obtain ⟨l0, rfl, hl0, hC0, hq0⟩ := C_of_trod (d := PTopOldestFirst.k77) (Q := PTopOldestFirst.wf77) Try.underlying37 (by kernel_rfl) (fun _ _ _ h_ hl_ => open77 h_ hl_) h0
  obtain ⟨k, hP⟩ := Pure.TopOldestFirst l0 hq0
  clear hA0 hval0 hsz0
  refine (PTopOldestFirst.estoverstop_TopOldestFirst.calls k _ _ l0 true W hC0 hl0 hP).mono fun e W' hh => ?_
  obtain ⟨he, hd⟩ := hh
  have bel : Below W.heap.size W W' := hd
  subst he
  exact ⟨_, rfl, _, _, _, [], _, [], hW', trodAll_mk1 (shut_bool Try.underlying4 _), (trodAll_cons_mk (Below.trod laidOut (by kernel_rfl) (of_decide_eq_true (by kernel_rfl)) k0 bel lt0) trodAll_mk0), rfl, bel.frame _, fun h => by cases h⟩
theorem over : Rows.topOldestFirstRow.holds Try.pinned (OpenSpec.ofChange Rows.topOldestFirstSpec) :=
  OpenClaim.holds_of_wide 4 Try.f4 rfl rfl rfl rfl rfl rfl rfl ⟨rfl, rfl, rfl, rfl, rfl⟩ rfl rfl rfl rfl rfl (by kernel_rfl) Try.func4 (by kernel_rfl)
    (of_decide_eq_true (by kernel_rfl)) (by unfold Func.isWrapper; first | (rw [if_pos (by decide +kernel)]; kernel_rfl) | (rw [if_neg (by decide +kernel)]; exact ⟨rfl, rfl⟩))
    (fun os started H enc _ => lifted os started H enc)
theorem proved : Rows.TopOldestFirstSaid := over
#print axioms proved
end Go.Proofs.Ytpccpkpljlafcaa.topOldestFirst
namespace Go.Proofs.Ytpccpkpljlafcaa
/-- The row, under a short name, for the claim. -/
theorem topOldestFirst_holds : Rows.TopOldestFirstSaid := topOldestFirst.proved
end Go.Proofs.Ytpccpkpljlafcaa
