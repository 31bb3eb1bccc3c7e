/- The program's Background answers as the reference does, for all numbers: no condition. -/
import Derived.Test.YtpomppjeknmciaaPThrottleHalfx5
namespace Go.Proofs.Ytpomppjeknmciaa.Pure
open Go.RowKit Go.Proofs.Ytpomppjeknmciaa.PThrottleHalf Go.Proofs.YtpomppjeknmciaaW.PrintWords Go.Proofs.YtpomppjeknmciaaW.PrintLast Go.Proofs.YtpomppjeknmciaaW.PrintMore


theorem awake_true : estoverslaw30_awake.f 20 = some true := by kernel_rfl

theorem ThrottleHalf : estoverslaw30_ThrottleHalf.Pure := by
  intro a b _ _
  refine ⟨20, ?_⟩
  unfold estoverslaw30_ThrottleHalf.f
  rw [awake_true]
  have he : throttle_Background.f a b = estoversref30_Background.f a b := rfl
  have hs : ∃ t, estoversref30_Background.f a b = some t := by
    unfold estoversref30_Background.f
    split
    · split <;> exact ⟨_, rfl⟩
    · exact ⟨_, rfl⟩
  obtain ⟨t, ht⟩ := hs
  rw [he, ht]
  simp

end Go.Proofs.Ytpomppjeknmciaa.Pure
