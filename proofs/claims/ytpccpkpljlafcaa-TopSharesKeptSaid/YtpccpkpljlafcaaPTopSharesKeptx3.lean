-- Printed by a copy of the kit's printer that this session has patched (wip/tools/patch_print.py): the session's own text. Lean checks it.
import Derived.Test.YtpccpkpljlafcaaPTopSharesKeptx0
namespace Go.Proofs.Ytpccpkpljlafcaa.PTopSharesKept
open Go.RowKit Go.Proofs.YtpccpkpljlafcaaW.PrintWords Go.Proofs.YtpccpkpljlafcaaW.PrintLast Go.Proofs.YtpccpkpljlafcaaW.PrintMore
attribute [local go_sem] max2_int min2_int max_two min_two max_three min_three max_four min_four   -- for this text's walks alone
set_option linter.unusedVariables false
set_option linter.unusedSimpArgs false
def protection_Effective_1.f (a0 : Int) (l1 : List S53) : Option Int := if 0 ≤ a0 ∧ a0 < (l1.length : Int) then some (mn (rd_T53 l1 a0).f2 (rd_T53 l1 a0).f1) else none
set_option maxHeartbeats 8000000 in
set_option maxRecDepth 100000 in
theorem protection_Effective_1.calls (a0 : Int) (gb : Nat) (A1 : Option Addr) (c1 : Nat) (l1 : List S53) (r : Int) (w : World) (hr1 : Kd.C k53 w A1 l1.length l1) (hc1 : l1.length ≤ c1) (hcap : w.cell? ⟨gb, 0, none⟩ = some (.slice A1 l1.length c1)) (h : protection_Effective_1.f a0 l1 = some r) :
  Calls Try.prog 26 #[.int .i64 a0, .pointer (some ⟨gb, 0, none⟩)] w fun e w' => e = .returned (.int .i64 r) ∧ Drawn0 w w' := by
 have hu53 := Try.underlying53
 unfold protection_Effective_1.f at h
 by_cases hc : 0 ≤ a0 ∧ a0 < (l1.length : Int)
 case neg => rw [if_neg hc] at h; cases h
 rw [if_pos hc] at h
 obtain rfl := Option.some.inj h
 obtain ⟨ad, e0, x0, x1, x2, x3, x4⟩ := at_T53 hr1 a0 hc.1 hc.2
 cases e0
 have y1 : ∀ n, (w.drewN n).cell? ⟨(ad.add (a0.toNat * 5)).block, (ad.add (a0.toNat * 5)).off + 1, none⟩ = some (.int .i64 (rd_T53 l1 a0).f1) := fun _ => x1
 have y2 : ∀ n, (w.drewN n).cell? ⟨(ad.add (a0.toNat * 5)).block, (ad.add (a0.toNat * 5)).off + 2, none⟩ = some (.int .i64 (rd_T53 l1 a0).f2) := fun _ => x2
 have yc : ∀ n, (w.drewN n).cell? ⟨gb, 0, none⟩ = some (.slice (some ad) l1.length c1) := fun _ => hcap
 have p0 := eq_true hc.1
 have p1 := eq_true hc.2
 clear h x0 x1 x2 x3 x4 hr1 hc1 hcap hc
 by_cases hm : (rd_T53 l1 a0).f1 < (rd_T53 l1 a0).f2
 ·have hmn : mn (rd_T53 l1 a0).f2 (rd_T53 l1 a0).f1 = (rd_T53 l1 a0).f1 := if_pos hm
  rw [hmn]
  clear hmn
  have hm1 := decide_eq_true hm
  replace hm := eq_true hm
  go_enter Try.func26, Try.ntmps26
  go_wp2
  go_quiet (fail)
  go_wp2
  go_ret
  exact ⟨rfl, ⟨_, rfl⟩⟩
 ·have hmn : mn (rd_T53 l1 a0).f2 (rd_T53 l1 a0).f1 = (rd_T53 l1 a0).f2 := if_neg hm
  rw [hmn]
  clear hmn
  have hm1 := decide_eq_false hm
  replace hm := eq_false hm
  go_enter Try.func26, Try.ntmps26
  go_wp2
  go_quiet (fail)
  go_wp2
  go_ret
  exact ⟨rfl, ⟨_, rfl⟩⟩
end Go.Proofs.Ytpccpkpljlafcaa.PTopSharesKept
