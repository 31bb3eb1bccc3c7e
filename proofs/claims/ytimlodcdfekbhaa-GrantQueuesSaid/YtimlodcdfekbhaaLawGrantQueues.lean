-- Printed by a copy of the kit's printer that this session has patched (wip/tools/patch_print.py): the session's own text. Lean checks it.
import Derived.Test.YtimlodcdfekbhaaRows
import Derived.Test.YtimlodcdfekbhaaPGrantQueuesx
import Derived.Test.YtimlodcdfekbhaaQGrantQueues
import Derived.Test.YtimlodcdfekbhaaPureGrantQueues
import Derived.WalkKit
import Derived.ProofKit
import Derived.OpenShut
import Derived.ShutString
import Derived.ChangeOld
import Derived.Below
import Derived.SizedLaws
import Derived.Deep.Slices
import Derived.Lib.SmallJoins
import Derived.Test.YtimlodcdfekbhaaWSized
namespace Go.Proofs.Ytimlodcdfekbhaa.grantQueues
open Go.ChangeShapes Go.WideShapes Go.ChangeAt Go.RowKit Go.Proofs.YtimlodcdfekbhaaW.PrintMore Go.Proofs.YtimlodcdfekbhaaW.PrintWords
open Go.ChangeMaps (open_string shut_string)
set_option linter.unusedVariables false
theorem own : ownKnob Try.prog.godebug = none := by kernel_rfl
theorem laidOut : laidOutB Try.prog = true := by kernel_rfl
theorem open37 {H : Type} {enc : TypeId × Value → H} {W : World} {base : Nat} {spare : Nat → Bool} {held : Bool} {n : Nat} {cs : List Value} {x : DataW H × List MemPlace} (h : DataW.trod enc Try.prog W base spare held n 37 cs = some x) (hl : cs.length = 4) :
    ∃ p : PGrantQueues.S37, PGrantQueues.k37.K W p cs ∧ PGrantQueues.wf37 p := by
  obtain ⟨v0, v1, v2, v3, rfl⟩ : ∃ v0 v1 v2 v3, cs = [v0, v1, v2, v3] := by match cs, hl with | [v0, v1, v2, v3], _ => exact ⟨v0, v1, v2, v3, rfl⟩
  obtain ⟨xs1, m1, _, _, hl1, hx1, hf1⟩ := DataW.trod_struct Try.underlying37 h
  have hx1' : xs1.length = 4 := hx1
  obtain ⟨y1_0, y1_1, y1_2, y1_3, rfl⟩ : ∃ y1_0 y1_1 y1_2 y1_3, xs1 = [y1_0, y1_1, y1_2, y1_3] := by match xs1, hx1' with | [y1_0, y1_1, y1_2, y1_3], _ => exact ⟨y1_0, y1_1, y1_2, y1_3, rfl⟩
  have g1_0 : DataW.trod enc Try.prog W base spare held m1 3 [v0] = some y1_0 := by have h_ : DataW.trod enc Try.prog W base spare held m1 3 (List.take (Try.prog.cellsOf 3) (List.drop 0 [v0, v1, v2, v3])) = some y1_0 := hf1 0 _ rfl; rw [show Try.prog.cellsOf 3 = 1 from by kernel_rfl] at h_; exact h_
  have g1_1 : DataW.trod enc Try.prog W base spare held m1 3 [v1] = some y1_1 := by have h_ : DataW.trod enc Try.prog W base spare held m1 3 (List.take (Try.prog.cellsOf 3) (List.drop 1 [v0, v1, v2, v3])) = some y1_1 := hf1 1 _ rfl; rw [show Try.prog.cellsOf 3 = 1 from by kernel_rfl] at h_; exact h_
  have g1_2 : DataW.trod enc Try.prog W base spare held m1 3 [v2] = some y1_2 := by have h_ : DataW.trod enc Try.prog W base spare held m1 3 (List.take (Try.prog.cellsOf 3) (List.drop 2 [v0, v1, v2, v3])) = some y1_2 := hf1 2 _ rfl; rw [show Try.prog.cellsOf 3 = 1 from by kernel_rfl] at h_; exact h_
  have g1_3 : DataW.trod enc Try.prog W base spare held m1 3 [v3] = some y1_3 := by have h_ : DataW.trod enc Try.prog W base spare held m1 3 (List.take (Try.prog.cellsOf 3) (List.drop 3 [v0, v1, v2, v3])) = some y1_3 := hf1 3 _ rfl; rw [show Try.prog.cellsOf 3 = 1 from by kernel_rfl] at h_; exact h_
  obtain ⟨b0, hb0, _, w0⟩ := DataW.trod_int Try.underlying3 g1_0
  obtain rfl := List.cons.inj hb0 |>.1
  obtain ⟨b1, hb1, _, w1⟩ := DataW.trod_int Try.underlying3 g1_1
  obtain rfl := List.cons.inj hb1 |>.1
  obtain ⟨b2, hb2, _, w2⟩ := DataW.trod_int Try.underlying3 g1_2
  obtain rfl := List.cons.inj hb2 |>.1
  obtain ⟨b3, hb3, _, w3⟩ := DataW.trod_int Try.underlying3 g1_3
  obtain rfl := List.cons.inj hb3 |>.1
  exact ⟨(⟨b0, b1, b2, b3⟩ : PGrantQueues.S37), PGrantQueues.k37_mk W _, ⟨w0, w1, w2, w3⟩⟩
theorem open64 {H : Type} {enc : TypeId × Value → H} {W : World} {base : Nat} {spare : Nat → Bool} {held : Bool} {n : Nat} {cs : List Value} {x : DataW H × List MemPlace} (h : DataW.trod enc Try.prog W base spare held n 64 cs = some x) (hl : cs.length = 5) :
    ∃ p : PGrantQueues.S64, PGrantQueues.k64.K W p cs ∧ PGrantQueues.wf64 p := by
  obtain ⟨v0, v1, v2, v3, v4, rfl⟩ : ∃ v0 v1 v2 v3 v4, cs = [v0, v1, v2, v3, v4] := by match cs, hl with | [v0, v1, v2, v3, v4], _ => exact ⟨v0, v1, v2, v3, v4, rfl⟩
  obtain ⟨xs1, m1, _, _, hl1, hx1, hf1⟩ := DataW.trod_struct Try.underlying64 h
  have hx1' : xs1.length = 2 := hx1
  obtain ⟨y1_0, y1_1, rfl⟩ : ∃ y1_0 y1_1, xs1 = [y1_0, y1_1] := by match xs1, hx1' with | [y1_0, y1_1], _ => exact ⟨y1_0, y1_1, rfl⟩
  have g1_0 : DataW.trod enc Try.prog W base spare held m1 4 [v0] = some y1_0 := by have h_ : DataW.trod enc Try.prog W base spare held m1 4 (List.take (Try.prog.cellsOf 4) (List.drop 0 [v0, v1, v2, v3, v4])) = some y1_0 := hf1 0 _ rfl; rw [show Try.prog.cellsOf 4 = 1 from by kernel_rfl] at h_; exact h_
  have g1_1 : DataW.trod enc Try.prog W base spare held m1 37 [v1, v2, v3, v4] = some y1_1 := by have h_ : DataW.trod enc Try.prog W base spare held m1 37 (List.take (Try.prog.cellsOf 37) (List.drop 1 [v0, v1, v2, v3, v4])) = some y1_1 := hf1 1 _ rfl; rw [show Try.prog.cellsOf 37 = 4 from by kernel_rfl] at h_; exact h_
  obtain ⟨xs2, m2, _, _, hl2, hx2, hf2⟩ := DataW.trod_struct Try.underlying37 g1_1
  have hx2' : xs2.length = 4 := hx2
  obtain ⟨y2_0, y2_1, y2_2, y2_3, rfl⟩ : ∃ y2_0 y2_1 y2_2 y2_3, xs2 = [y2_0, y2_1, y2_2, y2_3] := by match xs2, hx2' with | [y2_0, y2_1, y2_2, y2_3], _ => exact ⟨y2_0, y2_1, y2_2, y2_3, rfl⟩
  have g2_0 : DataW.trod enc Try.prog W base spare held m2 3 [v1] = some y2_0 := by have h_ : DataW.trod enc Try.prog W base spare held m2 3 (List.take (Try.prog.cellsOf 3) (List.drop 0 [v1, v2, v3, v4])) = some y2_0 := hf2 0 _ rfl; rw [show Try.prog.cellsOf 3 = 1 from by kernel_rfl] at h_; exact h_
  have g2_1 : DataW.trod enc Try.prog W base spare held m2 3 [v2] = some y2_1 := by have h_ : DataW.trod enc Try.prog W base spare held m2 3 (List.take (Try.prog.cellsOf 3) (List.drop 1 [v1, v2, v3, v4])) = some y2_1 := hf2 1 _ rfl; rw [show Try.prog.cellsOf 3 = 1 from by kernel_rfl] at h_; exact h_
  have g2_2 : DataW.trod enc Try.prog W base spare held m2 3 [v3] = some y2_2 := by have h_ : DataW.trod enc Try.prog W base spare held m2 3 (List.take (Try.prog.cellsOf 3) (List.drop 2 [v1, v2, v3, v4])) = some y2_2 := hf2 2 _ rfl; rw [show Try.prog.cellsOf 3 = 1 from by kernel_rfl] at h_; exact h_
  have g2_3 : DataW.trod enc Try.prog W base spare held m2 3 [v4] = some y2_3 := by have h_ : DataW.trod enc Try.prog W base spare held m2 3 (List.take (Try.prog.cellsOf 3) (List.drop 3 [v1, v2, v3, v4])) = some y2_3 := hf2 3 _ rfl; rw [show Try.prog.cellsOf 3 = 1 from by kernel_rfl] at h_; exact h_
  obtain ⟨b0, hb0, _⟩ := DataW.trod_bool Try.underlying4 g1_0
  obtain rfl := List.cons.inj hb0 |>.1
  obtain ⟨b1, hb1, _, w1⟩ := DataW.trod_int Try.underlying3 g2_0
  obtain rfl := List.cons.inj hb1 |>.1
  obtain ⟨b2, hb2, _, w2⟩ := DataW.trod_int Try.underlying3 g2_1
  obtain rfl := List.cons.inj hb2 |>.1
  obtain ⟨b3, hb3, _, w3⟩ := DataW.trod_int Try.underlying3 g2_2
  obtain rfl := List.cons.inj hb3 |>.1
  obtain ⟨b4, hb4, _, w4⟩ := DataW.trod_int Try.underlying3 g2_3
  obtain rfl := List.cons.inj hb4 |>.1
  exact ⟨(⟨b0, ⟨b1, b2, b3, b4⟩⟩ : PGrantQueues.S64), PGrantQueues.k64_mk W _, ⟨w1, w2, w3, w4⟩⟩
set_option maxRecDepth 100000 in
theorem lifted (os : Os) (started : os.Started) (H : Type) (enc : TypeId × Value → H) :
    ReturnsInHanded {} Try.checked os 10 .any (Rows.grantQueuesSpec.pre6 enc Try.prog Try.f10 Rows.grantQueuesRow.domain false) (Rows.grantQueuesSpec.post enc Try.prog Try.f10 false true false false) := by
  refine returnsInHanded_of_change_sized (C := Try.checked) own started (by kernel_rfl) Try.func10
    (ChangeSpec.witness6 (enc := enc) (C := Try.checked) false ⟨#[], #[.slice none 0 0, .slice none 0 0], []⟩ 8 (by kernel_rfl) (by kernel_rfl) (by kernel_rfl) (by kernel_rfl)) ?_
  intro W base args ds gs before hval0 hW hcnd hsz0 _
  have hval : ∀ (j : Nat) t v, Try.f10.params[j]? = some t → args[j]? = some v → Value.okWide Try.prog W .any base t v := hval0
  have hW' := hW
  obtain ⟨p, q, hA0, hV, rfl, hfz, hnd⟩ := hW
  have hA : DataW.TrodAll enc Try.prog W 0 (fun _ => true) true Try.f10.params.toList args.toList ds p := hA0
  rw [Try.params10] at hA hval
  obtain ⟨v0, vs0, d0, ds0, p0, q0, hargs, rfl, rfl, h0, r0⟩ := trodAll_cons hA
  obtain ⟨v1, vs1, d1, ds1, p1, q1, rfl, rfl, rfl, h1, r1⟩ := trodAll_cons r0
  obtain ⟨rfl, rfl, rfl⟩ := trodAll_nil r1
  obtain rfl : args = #[v0, v1] := by cases args; simp_all
  obtain ⟨rfl, rfl⟩ := trodVars_none hV
  obtain ⟨A0, len0, cap0, rfl⟩ := okWide_slice Try.underlying29 (hval 0 29 v0 rfl rfl)
  have k0 := h0
  have lt0 : ∀ x ∈ p0, x.block < W.heap.size := by obtain ⟨m, hm⟩ := k0; exact DataW.trod_lt m _ _ _ hm
  obtain ⟨l0, rfl, hl0, hC0, hq0⟩ := C_of_trod (d := PGrantQueues.k37) (Q := PGrantQueues.wf37) Try.underlying29 (by kernel_rfl) (fun _ _ _ h_ hl_ => open37 h_ hl_) h0
  obtain ⟨A1, len1, cap1, rfl⟩ := okWide_slice Try.underlying61 (hval 1 61 v1 rfl rfl)
  have k1 := h1
  have lt1 : ∀ x ∈ p1, x.block < W.heap.size := by obtain ⟨m, hm⟩ := k1; exact DataW.trod_lt m _ _ _ hm
  obtain ⟨l1, rfl, hl1, hC1, hq1⟩ := C_of_trod (d := PGrantQueues.k64) (Q := PGrantQueues.wf64) Try.underlying61 (by kernel_rfl) (fun _ _ _ h_ hl_ => open64 h_ hl_) h1
  obtain ⟨k, hP⟩ := Pure.GrantQueues l0 l1 hq0 hq1
  clear hA0 hval0 hsz0
  refine (PGrantQueues.estoverslaw21_GrantQueues.calls k (fun k_ => k_ < W.heap.size) _ _ l0 _ _ l1 true W (Go.Proofs.YtimlodcdfekbhaaW.PrintMore.V_of_C PGrantQueues.k37_heap hC0 hl0) hC1 hl1 hP).mono fun e W' hh => ?_
  obtain ⟨he, hd⟩ := hh
  have bel : Below W.heap.size W W' := hd
  subst he
  exact ⟨_, rfl, _, _, _, [], _, [], hW', trodAll_mk1 (shut_bool Try.underlying4 _), (trodAll_cons_mk (Below.trod laidOut (by kernel_rfl) (of_decide_eq_true (by kernel_rfl)) k0 bel lt0) (trodAll_cons_mk (Below.trod laidOut (by kernel_rfl) (of_decide_eq_true (by kernel_rfl)) k1 bel lt1) trodAll_mk0)), rfl, bel.frame _, fun h => by cases h⟩
theorem over : Rows.grantQueuesRow.holds Try.pinned (OpenSpec.ofChange Rows.grantQueuesSpec) :=
  OpenClaim.holds_of_wide 10 Try.f10 rfl rfl rfl rfl rfl rfl rfl ⟨rfl, rfl, rfl, rfl, rfl⟩ rfl rfl rfl rfl rfl (by kernel_rfl) Try.func10 (by kernel_rfl)
    (of_decide_eq_true (by kernel_rfl)) (by unfold Func.isWrapper; first | (rw [if_pos (by decide +kernel)]; kernel_rfl) | (rw [if_neg (by decide +kernel)]; exact ⟨rfl, rfl⟩))
    (fun os started H enc _ => lifted os started H enc)
theorem proved : Rows.GrantQueuesSaid := over
#print axioms proved
end Go.Proofs.Ytimlodcdfekbhaa.grantQueues
namespace Go.Proofs.Ytimlodcdfekbhaa
/-- The row, under a short name, for the claim. -/
theorem grantQueues_holds : Rows.GrantQueuesSaid := grantQueues.proved
end Go.Proofs.Ytimlodcdfekbhaa
