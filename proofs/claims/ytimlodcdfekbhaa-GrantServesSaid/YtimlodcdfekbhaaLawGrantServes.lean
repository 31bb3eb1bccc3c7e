-- Printed by a copy of the kit's printer that this session has patched (wip/tools/patch_print.py): the session's own text. Lean checks it.
import Derived.Test.YtimlodcdfekbhaaRows
import Derived.Test.YtimlodcdfekbhaaPGrantServesx
import Derived.Test.YtimlodcdfekbhaaQGrantServes
import Derived.Test.YtimlodcdfekbhaaPureGrantServes
import Derived.WalkKit
import Derived.ProofKit
import Derived.OpenShut
import Derived.ShutString
import Derived.ChangeOld
import Derived.Below
import Derived.SizedLaws
import Derived.Deep.Slices
import Derived.Lib.SmallJoins
import Derived.Test.YtimlodcdfekbhaaWSized
namespace Go.Proofs.Ytimlodcdfekbhaa.grantServes
open Go.ChangeShapes Go.WideShapes Go.ChangeAt Go.RowKit Go.Proofs.YtimlodcdfekbhaaW.PrintMore Go.Proofs.YtimlodcdfekbhaaW.PrintWords
open Go.ChangeMaps (open_string shut_string)
set_option linter.unusedVariables false
theorem own : ownKnob Try.prog.godebug = none := by kernel_rfl
theorem laidOut : laidOutB Try.prog = true := by kernel_rfl
theorem open37 {H : Type} {enc : TypeId × Value → H} {W : World} {base : Nat} {spare : Nat → Bool} {held : Bool} {n : Nat} {cs : List Value} {x : DataW H × List MemPlace} (h : DataW.trod enc Try.prog W base spare held n 37 cs = some x) (hl : cs.length = 4) :
    ∃ p : PGrantServes.S37, PGrantServes.k37.K W p cs ∧ PGrantServes.wf37 p := by
  obtain ⟨v0, v1, v2, v3, rfl⟩ : ∃ v0 v1 v2 v3, cs = [v0, v1, v2, v3] := by match cs, hl with | [v0, v1, v2, v3], _ => exact ⟨v0, v1, v2, v3, rfl⟩
  obtain ⟨xs1, m1, _, _, hl1, hx1, hf1⟩ := DataW.trod_struct Try.underlying37 h
  have hx1' : xs1.length = 4 := hx1
  obtain ⟨y1_0, y1_1, y1_2, y1_3, rfl⟩ : ∃ y1_0 y1_1 y1_2 y1_3, xs1 = [y1_0, y1_1, y1_2, y1_3] := by match xs1, hx1' with | [y1_0, y1_1, y1_2, y1_3], _ => exact ⟨y1_0, y1_1, y1_2, y1_3, rfl⟩
  have g1_0 : DataW.trod enc Try.prog W base spare held m1 3 [v0] = some y1_0 := by have h_ : DataW.trod enc Try.prog W base spare held m1 3 (List.take (Try.prog.cellsOf 3) (List.drop 0 [v0, v1, v2, v3])) = some y1_0 := hf1 0 _ rfl; rw [show Try.prog.cellsOf 3 = 1 from by kernel_rfl] at h_; exact h_
  have g1_1 : DataW.trod enc Try.prog W base spare held m1 3 [v1] = some y1_1 := by have h_ : DataW.trod enc Try.prog W base spare held m1 3 (List.take (Try.prog.cellsOf 3) (List.drop 1 [v0, v1, v2, v3])) = some y1_1 := hf1 1 _ rfl; rw [show Try.prog.cellsOf 3 = 1 from by kernel_rfl] at h_; exact h_
  have g1_2 : DataW.trod enc Try.prog W base spare held m1 3 [v2] = some y1_2 := by have h_ : DataW.trod enc Try.prog W base spare held m1 3 (List.take (Try.prog.cellsOf 3) (List.drop 2 [v0, v1, v2, v3])) = some y1_2 := hf1 2 _ rfl; rw [show Try.prog.cellsOf 3 = 1 from by kernel_rfl] at h_; exact h_
  have g1_3 : DataW.trod enc Try.prog W base spare held m1 3 [v3] = some y1_3 := by have h_ : DataW.trod enc Try.prog W base spare held m1 3 (List.take (Try.prog.cellsOf 3) (List.drop 3 [v0, v1, v2, v3])) = some y1_3 := hf1 3 _ rfl; rw [show Try.prog.cellsOf 3 = 1 from by kernel_rfl] at h_; exact h_
  obtain ⟨b0, hb0, _, w0⟩ := DataW.trod_int Try.underlying3 g1_0
  obtain rfl := List.cons.inj hb0 |>.1
  obtain ⟨b1, hb1, _, w1⟩ := DataW.trod_int Try.underlying3 g1_1
  obtain rfl := List.cons.inj hb1 |>.1
  obtain ⟨b2, hb2, _, w2⟩ := DataW.trod_int Try.underlying3 g1_2
  obtain rfl := List.cons.inj hb2 |>.1
  obtain ⟨b3, hb3, _, w3⟩ := DataW.trod_int Try.underlying3 g1_3
  obtain rfl := List.cons.inj hb3 |>.1
  exact ⟨(⟨b0, b1, b2, b3⟩ : PGrantServes.S37), PGrantServes.k37_mk W _, ⟨w0, w1, w2, w3⟩⟩
theorem open59 {H : Type} {enc : TypeId × Value → H} {W : World} {base : Nat} {spare : Nat → Bool} {held : Bool} {n : Nat} {cs : List Value} {x : DataW H × List MemPlace} (h : DataW.trod enc Try.prog W base spare held n 59 cs = some x) (hl : cs.length = 5) :
    ∃ p : PGrantServes.S59, PGrantServes.k59.K W p cs ∧ PGrantServes.wf59 p := by
  obtain ⟨v0, v1, v2, v3, v4, rfl⟩ : ∃ v0 v1 v2 v3 v4, cs = [v0, v1, v2, v3, v4] := by match cs, hl with | [v0, v1, v2, v3, v4], _ => exact ⟨v0, v1, v2, v3, v4, rfl⟩
  obtain ⟨xs1, m1, _, _, hl1, hx1, hf1⟩ := DataW.trod_struct Try.underlying59 h
  have hx1' : xs1.length = 5 := hx1
  obtain ⟨y1_0, y1_1, y1_2, y1_3, y1_4, rfl⟩ : ∃ y1_0 y1_1 y1_2 y1_3 y1_4, xs1 = [y1_0, y1_1, y1_2, y1_3, y1_4] := by match xs1, hx1' with | [y1_0, y1_1, y1_2, y1_3, y1_4], _ => exact ⟨y1_0, y1_1, y1_2, y1_3, y1_4, rfl⟩
  have g1_0 : DataW.trod enc Try.prog W base spare held m1 3 [v0] = some y1_0 := by have h_ : DataW.trod enc Try.prog W base spare held m1 3 (List.take (Try.prog.cellsOf 3) (List.drop 0 [v0, v1, v2, v3, v4])) = some y1_0 := hf1 0 _ rfl; rw [show Try.prog.cellsOf 3 = 1 from by kernel_rfl] at h_; exact h_
  have g1_1 : DataW.trod enc Try.prog W base spare held m1 3 [v1] = some y1_1 := by have h_ : DataW.trod enc Try.prog W base spare held m1 3 (List.take (Try.prog.cellsOf 3) (List.drop 1 [v0, v1, v2, v3, v4])) = some y1_1 := hf1 1 _ rfl; rw [show Try.prog.cellsOf 3 = 1 from by kernel_rfl] at h_; exact h_
  have g1_2 : DataW.trod enc Try.prog W base spare held m1 3 [v2] = some y1_2 := by have h_ : DataW.trod enc Try.prog W base spare held m1 3 (List.take (Try.prog.cellsOf 3) (List.drop 2 [v0, v1, v2, v3, v4])) = some y1_2 := hf1 2 _ rfl; rw [show Try.prog.cellsOf 3 = 1 from by kernel_rfl] at h_; exact h_
  have g1_3 : DataW.trod enc Try.prog W base spare held m1 3 [v3] = some y1_3 := by have h_ : DataW.trod enc Try.prog W base spare held m1 3 (List.take (Try.prog.cellsOf 3) (List.drop 3 [v0, v1, v2, v3, v4])) = some y1_3 := hf1 3 _ rfl; rw [show Try.prog.cellsOf 3 = 1 from by kernel_rfl] at h_; exact h_
  have g1_4 : DataW.trod enc Try.prog W base spare held m1 3 [v4] = some y1_4 := by have h_ : DataW.trod enc Try.prog W base spare held m1 3 (List.take (Try.prog.cellsOf 3) (List.drop 4 [v0, v1, v2, v3, v4])) = some y1_4 := hf1 4 _ rfl; rw [show Try.prog.cellsOf 3 = 1 from by kernel_rfl] at h_; exact h_
  obtain ⟨b0, hb0, _, w0⟩ := DataW.trod_int Try.underlying3 g1_0
  obtain rfl := List.cons.inj hb0 |>.1
  obtain ⟨b1, hb1, _, w1⟩ := DataW.trod_int Try.underlying3 g1_1
  obtain rfl := List.cons.inj hb1 |>.1
  obtain ⟨b2, hb2, _, w2⟩ := DataW.trod_int Try.underlying3 g1_2
  obtain rfl := List.cons.inj hb2 |>.1
  obtain ⟨b3, hb3, _, w3⟩ := DataW.trod_int Try.underlying3 g1_3
  obtain rfl := List.cons.inj hb3 |>.1
  obtain ⟨b4, hb4, _, w4⟩ := DataW.trod_int Try.underlying3 g1_4
  obtain rfl := List.cons.inj hb4 |>.1
  exact ⟨(⟨b0, b1, b2, b3, b4⟩ : PGrantServes.S59), PGrantServes.k59_mk W _, ⟨w0, w1, w2, w3, w4⟩⟩
set_option maxRecDepth 100000 in
theorem lifted (os : Os) (started : os.Started) (H : Type) (enc : TypeId × Value → H) :
    ReturnsInHanded {} Try.checked os 5 .any (Rows.grantServesSpec.pre6 enc Try.prog Try.f5 Rows.grantServesRow.domain false) (Rows.grantServesSpec.post enc Try.prog Try.f5 false true false false) := by
  refine returnsInHanded_of_change_sized (C := Try.checked) own started (by kernel_rfl) Try.func5
    (ChangeSpec.witness6 (enc := enc) (C := Try.checked) false ⟨#[], #[.slice none 0 0, .slice none 0 0, .agg #[.int .i64 0, .int .i64 0]], []⟩ 8 (by kernel_rfl) (by kernel_rfl) (by kernel_rfl) (by kernel_rfl)) ?_
  intro W base args ds gs before hval0 hW hcnd hsz0 _
  have hval : ∀ (j : Nat) t v, Try.f5.params[j]? = some t → args[j]? = some v → Value.okWide Try.prog W .any base t v := hval0
  have hW' := hW
  obtain ⟨p, q, hA0, hV, rfl, hfz, hnd⟩ := hW
  have hA : DataW.TrodAll enc Try.prog W 0 (fun _ => true) true Try.f5.params.toList args.toList ds p := hA0
  rw [Try.params5] at hA hval
  obtain ⟨v0, vs0, d0, ds0, p0, q0, hargs, rfl, rfl, h0, r0⟩ := trodAll_cons hA
  obtain ⟨v1, vs1, d1, ds1, p1, q1, rfl, rfl, rfl, h1, r1⟩ := trodAll_cons r0
  obtain ⟨v2, vs2, d2, ds2, p2, q2, rfl, rfl, rfl, h2, r2⟩ := trodAll_cons r1
  obtain ⟨rfl, rfl, rfl⟩ := trodAll_nil r2
  obtain rfl : args = #[v0, v1, v2] := by cases args; simp_all
  obtain ⟨rfl, rfl⟩ := trodVars_none hV
  obtain ⟨A0, len0, cap0, rfl⟩ := okWide_slice Try.underlying29 (hval 0 29 v0 rfl rfl)
  have k0 := h0
  have lt0 : ∀ x ∈ p0, x.block < W.heap.size := by obtain ⟨m, hm⟩ := k0; exact DataW.trod_lt m _ _ _ hm
  obtain ⟨l0, rfl, hl0, hC0, hq0⟩ := C_of_trod (d := PGrantServes.k37) (Q := PGrantServes.wf37) Try.underlying29 (by kernel_rfl) (fun _ _ _ h_ hl_ => open37 h_ hl_) h0
  obtain ⟨A1, len1, cap1, rfl⟩ := okWide_slice Try.underlying30 (hval 1 30 v1 rfl rfl)
  have k1 := h1
  have lt1 : ∀ x ∈ p1, x.block < W.heap.size := by obtain ⟨m, hm⟩ := k1; exact DataW.trod_lt m _ _ _ hm
  obtain ⟨l1, rfl, hl1, hC1, hq1⟩ := C_of_trod (d := PGrantServes.k59) (Q := PGrantServes.wf59) Try.underlying30 (by kernel_rfl) (fun _ _ _ h_ hl_ => open59 h_ hl_) h1
  have k2 := h2
  have lt2 : ∀ x ∈ p2, x.block < W.heap.size := by obtain ⟨m, hm⟩ := k2; exact DataW.trod_lt m _ _ _ hm
  obtain ⟨c2_0, c2_1, f2_0, f2_1, y2_0, y2_1, rfl, h2_0, h2_1⟩ := arr_open2 Try.underlying41 (by kernel_rfl) (by kernel_rfl) (hval 2 41 v2 rfl rfl) h2
  obtain ⟨a2_0, rfl, w2_0⟩ := int1_of_trod Try.underlying3 h2_0
  obtain ⟨a2_1, rfl, w2_1⟩ := int1_of_trod Try.underlying3 h2_1
  obtain ⟨k, hP⟩ := Pure.GrantServes l0 l1 a2_0 a2_1 hq0 hq1 w2_0 w2_1
  clear hA0 hval0 hsz0
  refine (PGrantServes.estoverslaw21_GrantServes.calls k _ _ l0 _ _ l1 a2_0 a2_1 true W hC0 hl0 hC1 hl1 hP).mono fun e W' hh => ?_
  obtain ⟨he, hd⟩ := hh
  have bel : Below W.heap.size W W' := hd
  subst he
  exact ⟨_, rfl, _, _, _, [], _, [], hW', trodAll_mk1 (shut_bool Try.underlying4 _), (trodAll_cons_mk (Below.trod laidOut (by kernel_rfl) (of_decide_eq_true (by kernel_rfl)) k0 bel lt0) (trodAll_cons_mk (Below.trod laidOut (by kernel_rfl) (of_decide_eq_true (by kernel_rfl)) k1 bel lt1) (trodAll_cons_mk (Below.trod laidOut (by kernel_rfl) (of_decide_eq_true (by kernel_rfl)) k2 bel lt2) trodAll_mk0))), rfl, bel.frame _, fun h => by cases h⟩
theorem over : Rows.grantServesRow.holds Try.pinned (OpenSpec.ofChange Rows.grantServesSpec) :=
  OpenClaim.holds_of_wide 5 Try.f5 rfl rfl rfl rfl rfl rfl rfl ⟨rfl, rfl, rfl, rfl, rfl⟩ rfl rfl rfl rfl rfl (by kernel_rfl) Try.func5 (by kernel_rfl)
    (of_decide_eq_true (by kernel_rfl)) (by unfold Func.isWrapper; first | (rw [if_pos (by decide +kernel)]; kernel_rfl) | (rw [if_neg (by decide +kernel)]; exact ⟨rfl, rfl⟩))
    (fun os started H enc _ => lifted os started H enc)
theorem proved : Rows.GrantServesSaid := over
#print axioms proved
end Go.Proofs.Ytimlodcdfekbhaa.grantServes
namespace Go.Proofs.Ytimlodcdfekbhaa
/-- The row, under a short name, for the claim. -/
theorem grantServes_holds : Rows.GrantServesSaid := grantServes.proved
end Go.Proofs.Ytimlodcdfekbhaa
