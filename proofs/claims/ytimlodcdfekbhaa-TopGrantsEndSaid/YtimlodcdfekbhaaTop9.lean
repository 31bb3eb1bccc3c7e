/- One operation on a queue in one sentence: step answers true, and the queue is what the operation makes of it. -/
import Derived.Test.YtimlodcdfekbhaaTop8
namespace Go.Proofs.Ytimlodcdfekbhaa.Pure
open Go.RowKit Go.Proofs.Ytimlodcdfekbhaa.PTopGrantsEnd Go.Proofs.YtimlodcdfekbhaaW.PrintWords Go.Proofs.YtimlodcdfekbhaaW.PrintLast Go.Proofs.YtimlodcdfekbhaaW.PrintMore
def prO (o1 : Int) : Int := (wrap64 o1).tmod 8
def askO (o1 o2 o3 : Int) : S37 := ⟨prO o1, (wrap64 o2).tmod 3, (wrap64 o3).tmod 3, (wrap64 ((wrap64 o3).tdiv 3)).tmod 4⟩
def Stp (s : BQ) (o0 o1 o2 o3 : Int) (s' : BQ) : Prop :=
  (o0.tmod 4 = 0 ∧ s' = st0 s (prO o1) (askO o1 o2 o3)) ∨ (o0.tmod 4 = 1 ∧ s' = st1 s (prO o1)) ∨ (o0.tmod 4 = 2 ∧ s' = st2 s) ∨ (o0.tmod 4 = 3 ∧ Gave s (prO o1) s')
theorem u8w {x : Int} (h : 0 ≤ x ∧ x ≤ 255) : wrap64 x = x := w64 (by omega) (by omega)
theorem prO_u8 {x : Int} (h : 0 ≤ x ∧ x ≤ 255) : prO x = x % 8 := by
  unfold prO
  rw [u8w h, Int.tmod_eq_emod_of_nonneg h.1]
theorem askO_sm {o1 o2 o3 : Int} (h1 : 0 ≤ o1 ∧ o1 ≤ 255) (h2 : 0 ≤ o2 ∧ o2 ≤ 255) (h3 : 0 ≤ o3 ∧ o3 ≤ 255) : smA (askO o1 o2 o3) := by
  have e2 : (wrap64 o2).tmod 3 = o2 % 3 := by rw [u8w h2, Int.tmod_eq_emod_of_nonneg h2.1]
  have e3 : (wrap64 o3).tmod 3 = o3 % 3 := by rw [u8w h3, Int.tmod_eq_emod_of_nonneg h3.1]
  have e5 : (wrap64 o3).tdiv 3 = o3 / 3 := by rw [u8w h3, Int.tdiv_eq_ediv_of_nonneg h3.1]
  have e4 : (wrap64 ((wrap64 o3).tdiv 3)).tmod 4 = o3 / 3 % 4 := by
    rw [e5, u8w (by omega), Int.tmod_eq_emod_of_nonneg (by omega)]
  unfold askO
  rw [prO_u8 h1, e2, e3, e4]
  refine ⟨⟨?_, ?_, ?_, ?_, ?_⟩, ?_, ?_, ?_⟩ <;> simp only [inR] <;> omega
theorem Stp.inv {s s' : BQ} {o0 o1 o2 o3 : Int} {N : Nat} (h : Inv s N) (h1 : 0 ≤ o1 ∧ o1 ≤ 255) (h2 : 0 ≤ o2 ∧ o2 ≤ 255) (h3 : 0 ≤ o3 ∧ o3 ≤ 255) (hs : Stp s o0 o1 o2 o3 s') : Inv s' (N + 1) := by
  rcases hs with ⟨_, rfl⟩ | ⟨_, rfl⟩ | ⟨_, rfl⟩ | ⟨_, hg⟩
  · exact inv_st0 h (askO_sm h1 h2 h3)
  · exact (inv_st1 h _).more
  · exact (inv_st2 h).more
  · exact (inv_gave h hg).more
theorem step_calls {w : World} {base g : Nat} {s : BQ} {N : Nat} (hst : St w base g s) (h : Inv s N) (hN : N ≤ 500) (hb : base ≤ w.heap.size) {o0 o1 o2 o3 : Int} (h0 : 0 ≤ o0 ∧ o0 ≤ 255) (h1 : 0 ≤ o1 ∧ o1 ≤ 255) (h2 : 0 ≤ o2 ∧ o2 ≤ 255) (h3 : 0 ≤ o3 ∧ o3 ≤ 255) :
    Calls Try.prog 13 #[.pointer (some ⟨g, 0, none⟩), .agg #[.int .u8 o0, .int .u8 o1, .int .u8 o2, .int .u8 o3]] w fun e w' => e = .returned (.bool true) ∧ ∃ s', Stp s o0 o1 o2 o3 s' ∧ St w' base g s' ∧ Fr base g w w' := by
  obtain ⟨vq, vl, vo, hv⟩ := hst
  have hl := h.len
  have hnx := h.nx
  have hsm := askO_sm h1 h2 h3
  have hk : o0.tmod 4 = 0 ∨ o0.tmod 4 = 1 ∨ o0.tmod 4 = 2 ∨ o0.tmod 4 = 3 := by
    rw [Int.tmod_eq_emod_of_nonneg h0.1]
    omega
  rcases hk with hk | hk | hk | hk
  · refine (step0.calls w base g s vq vl vo o0 o1 o2 o3 (prO o1) _ _ _ hv (h.rt (by omega)) h.ok hb (by omega) rfl hsm.1.1 hsm.1.2.1 rfl rfl rfl hsm.1 ⟨h.nx0, by omega⟩ hk).mono ?_
    rintro e w' ⟨rfl, a, b⟩
    exact ⟨rfl, _, .inl ⟨hk, rfl⟩, a, b⟩
  · refine (step1.calls w base g s vq vl vo o0 o1 o2 o3 (prO o1) hv (h.rt (by omega)) h.ok hb (by omega) rfl hk).mono ?_
    rintro e w' ⟨rfl, a, b⟩
    exact ⟨rfl, _, .inr (.inl ⟨hk, rfl⟩), a, b⟩
  · refine (step2.calls w base g s vq vl vo o0 o1 o2 o3 (prO o1) hv (h.rt (by omega)) h.ok h.sm hb (by omega) rfl h.na (by omega) h.ascJ hk).mono ?_
    rintro e w' ⟨rfl, a, b⟩
    exact ⟨rfl, _, .inr (.inr (.inl ⟨hk, rfl⟩)), a, b⟩
  · refine (step3.calls w base g s vq vl vo o0 o1 o2 o3 (prO o1) hv (h.rt (by omega)) hb (by omega) rfl h.na hk).mono ?_
    rintro e w' ⟨rfl, s', hg, a, b⟩
    exact ⟨rfl, s', .inr (.inr (.inr ⟨hk, hg⟩)), a, b⟩
end Go.Proofs.Ytimlodcdfekbhaa.Pure
