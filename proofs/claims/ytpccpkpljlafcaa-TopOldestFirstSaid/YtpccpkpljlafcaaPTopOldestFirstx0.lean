-- Printed by a copy of the kit's printer that this session has patched (wip/tools/patch_print.py): the session's own text. Lean checks it.
import Derived.Test.YtpccpkpljlafcaaProg
import Derived.Below
import Derived.Deep.Draws
import Derived.Deep.AppendLies
import Derived.Maps.AppendAt
import Derived.OwnWalk
import Derived.Laws.BytesArg
import Derived.Laws.MakeOwn
import Derived.Laws.OwnMore
import Derived.Deep.OwnRows
import Derived.Tactics
import Derived.Lib.ConvBytes
import Derived.Laws.Slices
import Derived.WalkKit
import Derived.KernelRfl
import Derived.RowKit3
import Derived.Deep.LoopGhost
import Derived.Deep.QuietTactic
import Derived.BigQuiet
import Derived.WideLaws
import Derived.Deep.DeepCutAuto
import Derived.Deep.CutBlock
import Derived.Deep.RegionHeld3
import Derived.Laws.Rows
import Derived.Lib.AppendStr
import Derived.ArgAppend
import Derived.Laws.IdiomCopy
import Derived.OrdersHeld
import Derived.Laws.BitsLemmas
import Derived.RowKit
import Derived.Test.YtpccpkpljlafcaaWWords
import Derived.Test.YtpccpkpljlafcaaWLast
import Derived.Test.YtpccpkpljlafcaaWTab
import Derived.Test.YtpccpkpljlafcaaWFour
import Derived.Test.YtpccpkpljlafcaaWQPut
import Derived.Test.YtpccpkpljlafcaaWApart
import Derived.Test.YtpccpkpljlafcaaWArr
import Derived.Test.YtpccpkpljlafcaaWZeros
import Derived.Test.YtpccpkpljlafcaaWFoot
import Derived.Test.YtpccpkpljlafcaaWKept
import Derived.Test.YtpccpkpljlafcaaWShare
import Derived.Test.YtpccpkpljlafcaaWN
import Derived.Test.YtpccpkpljlafcaaWFootNe
import Derived.Test.YtpccpkpljlafcaaWAt
import Derived.Test.YtpccpkpljlafcaaWEqStruct
import Derived.Test.YtpccpkpljlafcaaWRepsOne
import Derived.Test.YtpccpkpljlafcaaWInv
import Derived.Test.YtpccpkpljlafcaaWInvWords
import Derived.Test.YtpccpkpljlafcaaWGuard
import Derived.Test.YtpccpkpljlafcaaWNEv
import Derived.Test.YtpccpkpljlafcaaWMore
import Derived.Test.YtpccpkpljlafcaaXWords
namespace Go.Proofs.Ytpccpkpljlafcaa.PTopOldestFirst
open Go.RowKit Go.Proofs.YtpccpkpljlafcaaW.PrintWords Go.Proofs.YtpccpkpljlafcaaW.PrintLast Go.Proofs.YtpccpkpljlafcaaW.PrintMore
attribute [local go_sem] max2_int min2_int max_two min_two max_three min_three max_four min_four   -- for this text's walks alone
set_option linter.unusedVariables false
set_option linter.unusedSimpArgs false



def errW : Option Int → Value
  | none => .nilIface
  | some c => .iface 0 (.int .i64 c)
theorem errW_none : errW none = .nilIface := rfl
theorem errW_some (c : Int) : errW (some c) = .iface 0 (.int .i64 c) := rfl

theorem info3 : (Try.prog.info? 3).map (fun i => (i.zero, i.size, i.bytes)) = some (some (.int .i64 0), 1, 8) := by kernel_rfl
theorem info48 : (Try.prog.info? 48).map (fun i => (i.zero, i.size, i.bytes)) = some (some (.agg #[(.int .i64 0), (.int .i64 0), (.int .i64 0), (.int .i64 0), (.int .i64 0), (.int .i64 0), (.int .i64 0), (.int .i64 0), (.int .i64 0), (.int .i64 0), (.bool false), (.bool false), (.bool false), (.int .i64 0), (.slice none 0 0), (.slice none 0 0)]), 16, 144) := by kernel_rfl
theorem info50 : (Try.prog.info? 50).map (fun i => (i.zero, i.size, i.bytes)) = some (some (.agg #[(.int .i64 0), (.int .i64 0), (.int .i64 0)]), 3, 24) := by kernel_rfl
-- the values' own types
/-! #### struct type 50 -/
structure S50 where
  f0 : Int
  f1 : Int
  f2 : Int
def z50 : S50 := ⟨(0 : Int), (0 : Int), (0 : Int)⟩
def k50 : Kd S50 := Kd.iso (Kd.pair (Kd.int .i64) (Kd.pair (Kd.int .i64) (Kd.int .i64))) (fun x : S50 => (x.f0, x.f1, x.f2))
theorem k50_open {w : World} {x : S50} {cs : List Value} (h : k50.K w x cs) : cs = [.int .i64 x.f0, .int .i64 x.f1, .int .i64 x.f2] := by
  obtain ⟨_, _, rfl, rfl, ⟨_, _, rfl, rfl, rfl⟩⟩ := h
  exact rfl
theorem k50_openM {w : World} {base : Nat} {ok : Nat → Prop} {x : S50} {cs : List Value} (h : k50.M w base ok x cs) : cs = [.int .i64 x.f0, .int .i64 x.f1, .int .i64 x.f2] := by
  obtain ⟨_, _, rfl, rfl, ⟨_, _, rfl, rfl, rfl⟩⟩ := h
  exact rfl
theorem k50_mk (w : World) (x : S50)  : k50.K w x [.int .i64 x.f0, .int .i64 x.f1, .int .i64 x.f2] := ⟨[.int .i64 x.f0], [.int .i64 x.f1, .int .i64 x.f2], rfl, rfl, ⟨[.int .i64 x.f1], [.int .i64 x.f2], rfl, rfl, rfl⟩⟩
theorem k50_mkM (w : World) (base : Nat) (ok : Nat → Prop) (x : S50)  : k50.M w base ok x [.int .i64 x.f0, .int .i64 x.f1, .int .i64 x.f2] := ⟨[.int .i64 x.f0], [.int .i64 x.f1, .int .i64 x.f2], rfl, rfl, ⟨[.int .i64 x.f1], [.int .i64 x.f2], rfl, rfl, rfl⟩⟩
def rd_T50 (xs : List S50) (i : Int) : S50 := xs.getD i.toNat z50
theorem at_T50 {w : World} {A : Option Addr} {n : Nat} {xs : List S50} (h : Kd.C k50 w A n xs) (i : Int) (h0 : 0 ≤ i) (h1 : i < n) : ∃ ad , A = some ad ∧ w.cell? (ad.add (i.toNat * 3)) = some (.int .i64 (rd_T50 xs i).f0) ∧ w.cell? ⟨(ad.add (i.toNat * 3)).block, (ad.add (i.toNat * 3)).off + 1, none⟩ = some (.int .i64 (rd_T50 xs i).f1) ∧ w.cell? ⟨(ad.add (i.toNat * 3)).block, (ad.add (i.toNat * 3)).off + 2, none⟩ = some (.int .i64 (rd_T50 xs i).f2) := by
  obtain ⟨ad, c, e, _, hK, hc0⟩ := Kd.C_get h z50 i h0 h1
  have hc : ∀ j u, c[j]? = some u → w.cell? (ad.add (i.toNat * 3 + j)) = some u := hc0
  obtain rfl := k50_open hK
  exact ⟨ad, e, hc 0 _ rfl, by rw [← add_field _ _ 1 (by omega)]; exact hc 1 _ rfl, by rw [← add_field _ _ 2 (by omega)]; exact hc 2 _ rfl⟩

/-! #### struct type 153 -/
structure S153 where
  f0 : Int
  f1 : Int
def z153 : S153 := ⟨(0 : Int), (0 : Int)⟩
def k153 : Kd S153 := Kd.iso (Kd.pair (Kd.int .i64) (Kd.int .i64)) (fun x : S153 => (x.f0, x.f1))
theorem k153_open {w : World} {x : S153} {cs : List Value} (h : k153.K w x cs) : cs = [.int .i64 x.f0, .int .i64 x.f1] := by
  obtain ⟨_, _, rfl, rfl, rfl⟩ := h
  exact rfl
theorem k153_openM {w : World} {base : Nat} {ok : Nat → Prop} {x : S153} {cs : List Value} (h : k153.M w base ok x cs) : cs = [.int .i64 x.f0, .int .i64 x.f1] := by
  obtain ⟨_, _, rfl, rfl, rfl⟩ := h
  exact rfl
theorem k153_mk (w : World) (x : S153)  : k153.K w x [.int .i64 x.f0, .int .i64 x.f1] := ⟨[.int .i64 x.f0], [.int .i64 x.f1], rfl, rfl, rfl⟩
theorem k153_mkM (w : World) (base : Nat) (ok : Nat → Prop) (x : S153)  : k153.M w base ok x [.int .i64 x.f0, .int .i64 x.f1] := ⟨[.int .i64 x.f0], [.int .i64 x.f1], rfl, rfl, rfl⟩
def rd_T153 (xs : List S153) (i : Int) : S153 := xs.getD i.toNat z153
theorem at_T153 {w : World} {A : Option Addr} {n : Nat} {xs : List S153} (h : Kd.C k153 w A n xs) (i : Int) (h0 : 0 ≤ i) (h1 : i < n) : ∃ ad , A = some ad ∧ w.cell? (ad.add (i.toNat * 2)) = some (.int .i64 (rd_T153 xs i).f0) ∧ w.cell? ⟨(ad.add (i.toNat * 2)).block, (ad.add (i.toNat * 2)).off + 1, none⟩ = some (.int .i64 (rd_T153 xs i).f1) := by
  obtain ⟨ad, c, e, _, hK, hc0⟩ := Kd.C_get h z153 i h0 h1
  have hc : ∀ j u, c[j]? = some u → w.cell? (ad.add (i.toNat * 2 + j)) = some u := hc0
  obtain rfl := k153_open hK
  exact ⟨ad, e, hc 0 _ rfl, by rw [← add_field _ _ 1 (by omega)]; exact hc 1 _ rfl⟩

def rd_L5 (xs : List (List S153)) (i : Int) : (List S153) := xs.getD i.toNat ([] : List S153)
theorem at_L5 {w : World} {A : Option Addr} {n : Nat} {xs : List (List S153)} (h : Kd.C (Kd.slice 153 k153) w A n xs) (i : Int) (h0 : 0 ≤ i) (h1 : i < n) : ∃ ad A0 c0, A = some ad ∧ w.cell? (ad.add i.toNat) = some (.slice A0 (rd_L5 xs i).length c0) ∧ (rd_L5 xs i).length ≤ c0 ∧ k153.C w A0 (rd_L5 xs i).length (rd_L5 xs i) := by
  obtain ⟨ad, c, e, _, hK, hc0⟩ := Kd.C_get h ([] : List S153) i h0 h1
  have hc : ∀ j u, c[j]? = some u → w.cell? (ad.add (i.toNat * 1 + j)) = some u := hc0
  obtain ⟨A0, c0, rfl, l0, g0⟩ := hK
  exact ⟨ad, A0, c0, e, by have hq := hc 0 _ rfl; rwa [Nat.mul_one, Nat.add_zero] at hq, l0, g0⟩

def rd_L6 (xs : List (List Int)) (i : Int) : (List Int) := xs.getD i.toNat ([] : List Int)
theorem at_L6 {w : World} {A : Option Addr} {n : Nat} {xs : List (List Int)} (h : Kd.C (Kd.slice 5 (Kd.int .u8)) w A n xs) (i : Int) (h0 : 0 ≤ i) (h1 : i < n) : ∃ ad A0 c0, A = some ad ∧ w.cell? (ad.add i.toNat) = some (.slice A0 (rd_L6 xs i).length c0) ∧ (rd_L6 xs i).length ≤ c0 ∧ (Kd.int .u8).C w A0 (rd_L6 xs i).length (rd_L6 xs i) := by
  obtain ⟨ad, c, e, _, hK, hc0⟩ := Kd.C_get h ([] : List Int) i h0 h1
  have hc : ∀ j u, c[j]? = some u → w.cell? (ad.add (i.toNat * 1 + j)) = some u := hc0
  obtain ⟨A0, c0, rfl, l0, g0⟩ := hK
  exact ⟨ad, A0, c0, e, by have hq := hc 0 _ rfl; rwa [Nat.mul_one, Nat.add_zero] at hq, l0, g0⟩

/-! #### struct type 48 -/
structure S48 where
  f0 : Int
  f1 : Int
  f2 : Int
  f3 : Int
  f4 : Int
  f5 : Int
  f6 : Int
  f7 : Int
  f8 : Int
  f9 : Int
  f10 : Bool
  f11 : Bool
  f12 : Bool
  f13 : Int
  f14 : (List S153)
  f15 : (List Int)
def z48 : S48 := ⟨(0 : Int), (0 : Int), (0 : Int), (0 : Int), (0 : Int), (0 : Int), (0 : Int), (0 : Int), (0 : Int), (0 : Int), false, false, false, (0 : Int), ([] : List S153), ([] : List Int)⟩
def k48 : Kd S48 := Kd.iso (Kd.pair (Kd.int .i64) (Kd.pair (Kd.int .i64) (Kd.pair (Kd.int .i64) (Kd.pair (Kd.int .i64) (Kd.pair (Kd.int .i64) (Kd.pair (Kd.int .i64) (Kd.pair (Kd.int .i64) (Kd.pair (Kd.int .i64) (Kd.pair (Kd.int .i64) (Kd.pair (Kd.int .i64) (Kd.pair Kd.bool (Kd.pair Kd.bool (Kd.pair Kd.bool (Kd.pair (Kd.int .i64) (Kd.pair (Kd.slice 153 k153) (Kd.slice 5 (Kd.int .u8))))))))))))))))) (fun x : S48 => (x.f0, x.f1, x.f2, x.f3, x.f4, x.f5, x.f6, x.f7, x.f8, x.f9, x.f10, x.f11, x.f12, x.f13, x.f14, x.f15))
theorem k48_open {w : World} {x : S48} {cs : List Value} (h : k48.K w x cs) : ∃ A14 c14 A15 c15, cs = [.int .i64 x.f0, .int .i64 x.f1, .int .i64 x.f2, .int .i64 x.f3, .int .i64 x.f4, .int .i64 x.f5, .int .i64 x.f6, .int .i64 x.f7, .int .i64 x.f8, .int .i64 x.f9, .bool x.f10, .bool x.f11, .bool x.f12, .int .i64 x.f13, .slice A14 x.f14.length c14, .slice A15 x.f15.length c15] ∧ x.f14.length ≤ c14 ∧ k153.C w A14 x.f14.length x.f14 ∧ x.f15.length ≤ c15 ∧ (Kd.int .u8).C w A15 x.f15.length x.f15 := by
  obtain ⟨_, _, rfl, rfl, ⟨_, _, rfl, rfl, ⟨_, _, rfl, rfl, ⟨_, _, rfl, rfl, ⟨_, _, rfl, rfl, ⟨_, _, rfl, rfl, ⟨_, _, rfl, rfl, ⟨_, _, rfl, rfl, ⟨_, _, rfl, rfl, ⟨_, _, rfl, rfl, ⟨_, _, rfl, rfl, ⟨_, _, rfl, rfl, ⟨_, _, rfl, rfl, ⟨_, _, rfl, rfl, ⟨_, _, rfl, ⟨A14, c14, rfl, l14, g14⟩, ⟨A15, c15, rfl, l15, g15⟩⟩⟩⟩⟩⟩⟩⟩⟩⟩⟩⟩⟩⟩⟩⟩ := h
  exact ⟨A14, c14, A15, c15, rfl, l14, g14, l15, g15⟩
theorem k48_openM {w : World} {base : Nat} {ok : Nat → Prop} {x : S48} {cs : List Value} (h : k48.M w base ok x cs) : ∃ v14 v15, cs = [.int .i64 x.f0, .int .i64 x.f1, .int .i64 x.f2, .int .i64 x.f3, .int .i64 x.f4, .int .i64 x.f5, .int .i64 x.f6, .int .i64 x.f7, .int .i64 x.f8, .int .i64 x.f9, .bool x.f10, .bool x.f11, .bool x.f12, .int .i64 x.f13, v14, v15] ∧ k153.R 153 w base ok v14 x.f14 ∧ (Kd.int .u8).R 5 w base ok v15 x.f15 := by
  obtain ⟨_, _, rfl, rfl, ⟨_, _, rfl, rfl, ⟨_, _, rfl, rfl, ⟨_, _, rfl, rfl, ⟨_, _, rfl, rfl, ⟨_, _, rfl, rfl, ⟨_, _, rfl, rfl, ⟨_, _, rfl, rfl, ⟨_, _, rfl, rfl, ⟨_, _, rfl, rfl, ⟨_, _, rfl, rfl, ⟨_, _, rfl, rfl, ⟨_, _, rfl, rfl, ⟨_, _, rfl, rfl, ⟨_, _, rfl, ⟨v14, rfl, g14⟩, ⟨v15, rfl, g15⟩⟩⟩⟩⟩⟩⟩⟩⟩⟩⟩⟩⟩⟩⟩⟩ := h
  exact ⟨v14, v15, rfl, g14, g15⟩
theorem k48_mk (w : World) (x : S48) {A14 : Option Addr} {c14 : Nat} (l14 : x.f14.length ≤ c14) (g14 : k153.C w A14 x.f14.length x.f14) {A15 : Option Addr} {c15 : Nat} (l15 : x.f15.length ≤ c15) (g15 : (Kd.int .u8).C w A15 x.f15.length x.f15) : k48.K w x [.int .i64 x.f0, .int .i64 x.f1, .int .i64 x.f2, .int .i64 x.f3, .int .i64 x.f4, .int .i64 x.f5, .int .i64 x.f6, .int .i64 x.f7, .int .i64 x.f8, .int .i64 x.f9, .bool x.f10, .bool x.f11, .bool x.f12, .int .i64 x.f13, .slice A14 x.f14.length c14, .slice A15 x.f15.length c15] := ⟨[.int .i64 x.f0], [.int .i64 x.f1, .int .i64 x.f2, .int .i64 x.f3, .int .i64 x.f4, .int .i64 x.f5, .int .i64 x.f6, .int .i64 x.f7, .int .i64 x.f8, .int .i64 x.f9, .bool x.f10, .bool x.f11, .bool x.f12, .int .i64 x.f13, .slice A14 x.f14.length c14, .slice A15 x.f15.length c15], rfl, rfl, ⟨[.int .i64 x.f1], [.int .i64 x.f2, .int .i64 x.f3, .int .i64 x.f4, .int .i64 x.f5, .int .i64 x.f6, .int .i64 x.f7, .int .i64 x.f8, .int .i64 x.f9, .bool x.f10, .bool x.f11, .bool x.f12, .int .i64 x.f13, .slice A14 x.f14.length c14, .slice A15 x.f15.length c15], rfl, rfl, ⟨[.int .i64 x.f2], [.int .i64 x.f3, .int .i64 x.f4, .int .i64 x.f5, .int .i64 x.f6, .int .i64 x.f7, .int .i64 x.f8, .int .i64 x.f9, .bool x.f10, .bool x.f11, .bool x.f12, .int .i64 x.f13, .slice A14 x.f14.length c14, .slice A15 x.f15.length c15], rfl, rfl, ⟨[.int .i64 x.f3], [.int .i64 x.f4, .int .i64 x.f5, .int .i64 x.f6, .int .i64 x.f7, .int .i64 x.f8, .int .i64 x.f9, .bool x.f10, .bool x.f11, .bool x.f12, .int .i64 x.f13, .slice A14 x.f14.length c14, .slice A15 x.f15.length c15], rfl, rfl, ⟨[.int .i64 x.f4], [.int .i64 x.f5, .int .i64 x.f6, .int .i64 x.f7, .int .i64 x.f8, .int .i64 x.f9, .bool x.f10, .bool x.f11, .bool x.f12, .int .i64 x.f13, .slice A14 x.f14.length c14, .slice A15 x.f15.length c15], rfl, rfl, ⟨[.int .i64 x.f5], [.int .i64 x.f6, .int .i64 x.f7, .int .i64 x.f8, .int .i64 x.f9, .bool x.f10, .bool x.f11, .bool x.f12, .int .i64 x.f13, .slice A14 x.f14.length c14, .slice A15 x.f15.length c15], rfl, rfl, ⟨[.int .i64 x.f6], [.int .i64 x.f7, .int .i64 x.f8, .int .i64 x.f9, .bool x.f10, .bool x.f11, .bool x.f12, .int .i64 x.f13, .slice A14 x.f14.length c14, .slice A15 x.f15.length c15], rfl, rfl, ⟨[.int .i64 x.f7], [.int .i64 x.f8, .int .i64 x.f9, .bool x.f10, .bool x.f11, .bool x.f12, .int .i64 x.f13, .slice A14 x.f14.length c14, .slice A15 x.f15.length c15], rfl, rfl, ⟨[.int .i64 x.f8], [.int .i64 x.f9, .bool x.f10, .bool x.f11, .bool x.f12, .int .i64 x.f13, .slice A14 x.f14.length c14, .slice A15 x.f15.length c15], rfl, rfl, ⟨[.int .i64 x.f9], [.bool x.f10, .bool x.f11, .bool x.f12, .int .i64 x.f13, .slice A14 x.f14.length c14, .slice A15 x.f15.length c15], rfl, rfl, ⟨[.bool x.f10], [.bool x.f11, .bool x.f12, .int .i64 x.f13, .slice A14 x.f14.length c14, .slice A15 x.f15.length c15], rfl, rfl, ⟨[.bool x.f11], [.bool x.f12, .int .i64 x.f13, .slice A14 x.f14.length c14, .slice A15 x.f15.length c15], rfl, rfl, ⟨[.bool x.f12], [.int .i64 x.f13, .slice A14 x.f14.length c14, .slice A15 x.f15.length c15], rfl, rfl, ⟨[.int .i64 x.f13], [.slice A14 x.f14.length c14, .slice A15 x.f15.length c15], rfl, rfl, ⟨[.slice A14 x.f14.length c14], [.slice A15 x.f15.length c15], rfl, ⟨A14, c14, rfl, l14, g14⟩, ⟨A15, c15, rfl, l15, g15⟩⟩⟩⟩⟩⟩⟩⟩⟩⟩⟩⟩⟩⟩⟩⟩
theorem k48_mkM (w : World) (base : Nat) (ok : Nat → Prop) (x : S48) {v14 : Value} (g14 : k153.R 153 w base ok v14 x.f14) {v15 : Value} (g15 : (Kd.int .u8).R 5 w base ok v15 x.f15) : k48.M w base ok x [.int .i64 x.f0, .int .i64 x.f1, .int .i64 x.f2, .int .i64 x.f3, .int .i64 x.f4, .int .i64 x.f5, .int .i64 x.f6, .int .i64 x.f7, .int .i64 x.f8, .int .i64 x.f9, .bool x.f10, .bool x.f11, .bool x.f12, .int .i64 x.f13, v14, v15] := ⟨[.int .i64 x.f0], [.int .i64 x.f1, .int .i64 x.f2, .int .i64 x.f3, .int .i64 x.f4, .int .i64 x.f5, .int .i64 x.f6, .int .i64 x.f7, .int .i64 x.f8, .int .i64 x.f9, .bool x.f10, .bool x.f11, .bool x.f12, .int .i64 x.f13, v14, v15], rfl, rfl, ⟨[.int .i64 x.f1], [.int .i64 x.f2, .int .i64 x.f3, .int .i64 x.f4, .int .i64 x.f5, .int .i64 x.f6, .int .i64 x.f7, .int .i64 x.f8, .int .i64 x.f9, .bool x.f10, .bool x.f11, .bool x.f12, .int .i64 x.f13, v14, v15], rfl, rfl, ⟨[.int .i64 x.f2], [.int .i64 x.f3, .int .i64 x.f4, .int .i64 x.f5, .int .i64 x.f6, .int .i64 x.f7, .int .i64 x.f8, .int .i64 x.f9, .bool x.f10, .bool x.f11, .bool x.f12, .int .i64 x.f13, v14, v15], rfl, rfl, ⟨[.int .i64 x.f3], [.int .i64 x.f4, .int .i64 x.f5, .int .i64 x.f6, .int .i64 x.f7, .int .i64 x.f8, .int .i64 x.f9, .bool x.f10, .bool x.f11, .bool x.f12, .int .i64 x.f13, v14, v15], rfl, rfl, ⟨[.int .i64 x.f4], [.int .i64 x.f5, .int .i64 x.f6, .int .i64 x.f7, .int .i64 x.f8, .int .i64 x.f9, .bool x.f10, .bool x.f11, .bool x.f12, .int .i64 x.f13, v14, v15], rfl, rfl, ⟨[.int .i64 x.f5], [.int .i64 x.f6, .int .i64 x.f7, .int .i64 x.f8, .int .i64 x.f9, .bool x.f10, .bool x.f11, .bool x.f12, .int .i64 x.f13, v14, v15], rfl, rfl, ⟨[.int .i64 x.f6], [.int .i64 x.f7, .int .i64 x.f8, .int .i64 x.f9, .bool x.f10, .bool x.f11, .bool x.f12, .int .i64 x.f13, v14, v15], rfl, rfl, ⟨[.int .i64 x.f7], [.int .i64 x.f8, .int .i64 x.f9, .bool x.f10, .bool x.f11, .bool x.f12, .int .i64 x.f13, v14, v15], rfl, rfl, ⟨[.int .i64 x.f8], [.int .i64 x.f9, .bool x.f10, .bool x.f11, .bool x.f12, .int .i64 x.f13, v14, v15], rfl, rfl, ⟨[.int .i64 x.f9], [.bool x.f10, .bool x.f11, .bool x.f12, .int .i64 x.f13, v14, v15], rfl, rfl, ⟨[.bool x.f10], [.bool x.f11, .bool x.f12, .int .i64 x.f13, v14, v15], rfl, rfl, ⟨[.bool x.f11], [.bool x.f12, .int .i64 x.f13, v14, v15], rfl, rfl, ⟨[.bool x.f12], [.int .i64 x.f13, v14, v15], rfl, rfl, ⟨[.int .i64 x.f13], [v14, v15], rfl, rfl, ⟨[v14], [v15], rfl, ⟨v14, rfl, g14⟩, ⟨v15, rfl, g15⟩⟩⟩⟩⟩⟩⟩⟩⟩⟩⟩⟩⟩⟩⟩⟩
def rd_T48 (xs : List S48) (i : Int) : S48 := xs.getD i.toNat z48
theorem at_T48 {w : World} {A : Option Addr} {n : Nat} {xs : List S48} (h : Kd.C k48 w A n xs) (i : Int) (h0 : 0 ≤ i) (h1 : i < n) : ∃ ad A14 c14 A15 c15, A = some ad ∧ w.cell? (ad.add (i.toNat * 16)) = some (.int .i64 (rd_T48 xs i).f0) ∧ w.cell? ⟨(ad.add (i.toNat * 16)).block, (ad.add (i.toNat * 16)).off + 1, none⟩ = some (.int .i64 (rd_T48 xs i).f1) ∧ w.cell? ⟨(ad.add (i.toNat * 16)).block, (ad.add (i.toNat * 16)).off + 2, none⟩ = some (.int .i64 (rd_T48 xs i).f2) ∧ w.cell? ⟨(ad.add (i.toNat * 16)).block, (ad.add (i.toNat * 16)).off + 3, none⟩ = some (.int .i64 (rd_T48 xs i).f3) ∧ w.cell? ⟨(ad.add (i.toNat * 16)).block, (ad.add (i.toNat * 16)).off + 4, none⟩ = some (.int .i64 (rd_T48 xs i).f4) ∧ w.cell? ⟨(ad.add (i.toNat * 16)).block, (ad.add (i.toNat * 16)).off + 5, none⟩ = some (.int .i64 (rd_T48 xs i).f5) ∧ w.cell? ⟨(ad.add (i.toNat * 16)).block, (ad.add (i.toNat * 16)).off + 6, none⟩ = some (.int .i64 (rd_T48 xs i).f6) ∧ w.cell? ⟨(ad.add (i.toNat * 16)).block, (ad.add (i.toNat * 16)).off + 7, none⟩ = some (.int .i64 (rd_T48 xs i).f7) ∧ w.cell? ⟨(ad.add (i.toNat * 16)).block, (ad.add (i.toNat * 16)).off + 8, none⟩ = some (.int .i64 (rd_T48 xs i).f8) ∧ w.cell? ⟨(ad.add (i.toNat * 16)).block, (ad.add (i.toNat * 16)).off + 9, none⟩ = some (.int .i64 (rd_T48 xs i).f9) ∧ w.cell? ⟨(ad.add (i.toNat * 16)).block, (ad.add (i.toNat * 16)).off + 10, none⟩ = some (.bool (rd_T48 xs i).f10) ∧ w.cell? ⟨(ad.add (i.toNat * 16)).block, (ad.add (i.toNat * 16)).off + 11, none⟩ = some (.bool (rd_T48 xs i).f11) ∧ w.cell? ⟨(ad.add (i.toNat * 16)).block, (ad.add (i.toNat * 16)).off + 12, none⟩ = some (.bool (rd_T48 xs i).f12) ∧ w.cell? ⟨(ad.add (i.toNat * 16)).block, (ad.add (i.toNat * 16)).off + 13, none⟩ = some (.int .i64 (rd_T48 xs i).f13) ∧ w.cell? ⟨(ad.add (i.toNat * 16)).block, (ad.add (i.toNat * 16)).off + 14, none⟩ = some (.slice A14 (rd_T48 xs i).f14.length c14) ∧ w.cell? ⟨(ad.add (i.toNat * 16)).block, (ad.add (i.toNat * 16)).off + 15, none⟩ = some (.slice A15 (rd_T48 xs i).f15.length c15) ∧ (rd_T48 xs i).f14.length ≤ c14 ∧ k153.C w A14 (rd_T48 xs i).f14.length (rd_T48 xs i).f14 ∧ (rd_T48 xs i).f15.length ≤ c15 ∧ (Kd.int .u8).C w A15 (rd_T48 xs i).f15.length (rd_T48 xs i).f15 := by
  obtain ⟨ad, c, e, _, hK, hc0⟩ := Kd.C_get h z48 i h0 h1
  have hc : ∀ j u, c[j]? = some u → w.cell? (ad.add (i.toNat * 16 + j)) = some u := hc0
  obtain ⟨A14, c14, A15, c15, rfl, l14, g14, l15, g15⟩ := k48_open hK
  exact ⟨ad, A14, c14, A15, c15, e, hc 0 _ rfl, by rw [← add_field _ _ 1 (by omega)]; exact hc 1 _ rfl, by rw [← add_field _ _ 2 (by omega)]; exact hc 2 _ rfl, by rw [← add_field _ _ 3 (by omega)]; exact hc 3 _ rfl, by rw [← add_field _ _ 4 (by omega)]; exact hc 4 _ rfl, by rw [← add_field _ _ 5 (by omega)]; exact hc 5 _ rfl, by rw [← add_field _ _ 6 (by omega)]; exact hc 6 _ rfl, by rw [← add_field _ _ 7 (by omega)]; exact hc 7 _ rfl, by rw [← add_field _ _ 8 (by omega)]; exact hc 8 _ rfl, by rw [← add_field _ _ 9 (by omega)]; exact hc 9 _ rfl, by rw [← add_field _ _ 10 (by omega)]; exact hc 10 _ rfl, by rw [← add_field _ _ 11 (by omega)]; exact hc 11 _ rfl, by rw [← add_field _ _ 12 (by omega)]; exact hc 12 _ rfl, by rw [← add_field _ _ 13 (by omega)]; exact hc 13 _ rfl, by rw [← add_field _ _ 14 (by omega)]; exact hc 14 _ rfl, by rw [← add_field _ _ 15 (by omega)]; exact hc 15 _ rfl, l14, g14, l15, g15⟩

/-! #### struct type 77 -/
structure S77 where
  f0 : Int
  f1 : Int
  f2 : Int
  f3 : Bool
def z77 : S77 := ⟨(0 : Int), (0 : Int), (0 : Int), false⟩
def k77 : Kd S77 := Kd.iso (Kd.pair (Kd.int .u8) (Kd.pair (Kd.int .u8) (Kd.pair (Kd.int .u8) Kd.bool))) (fun x : S77 => (x.f0, x.f1, x.f2, x.f3))
theorem k77_open {w : World} {x : S77} {cs : List Value} (h : k77.K w x cs) : cs = [.int .u8 x.f0, .int .u8 x.f1, .int .u8 x.f2, .bool x.f3] := by
  obtain ⟨_, _, rfl, rfl, ⟨_, _, rfl, rfl, ⟨_, _, rfl, rfl, rfl⟩⟩⟩ := h
  exact rfl
theorem k77_openM {w : World} {base : Nat} {ok : Nat → Prop} {x : S77} {cs : List Value} (h : k77.M w base ok x cs) : cs = [.int .u8 x.f0, .int .u8 x.f1, .int .u8 x.f2, .bool x.f3] := by
  obtain ⟨_, _, rfl, rfl, ⟨_, _, rfl, rfl, ⟨_, _, rfl, rfl, rfl⟩⟩⟩ := h
  exact rfl
theorem k77_mk (w : World) (x : S77)  : k77.K w x [.int .u8 x.f0, .int .u8 x.f1, .int .u8 x.f2, .bool x.f3] := ⟨[.int .u8 x.f0], [.int .u8 x.f1, .int .u8 x.f2, .bool x.f3], rfl, rfl, ⟨[.int .u8 x.f1], [.int .u8 x.f2, .bool x.f3], rfl, rfl, ⟨[.int .u8 x.f2], [.bool x.f3], rfl, rfl, rfl⟩⟩⟩
theorem k77_mkM (w : World) (base : Nat) (ok : Nat → Prop) (x : S77)  : k77.M w base ok x [.int .u8 x.f0, .int .u8 x.f1, .int .u8 x.f2, .bool x.f3] := ⟨[.int .u8 x.f0], [.int .u8 x.f1, .int .u8 x.f2, .bool x.f3], rfl, rfl, ⟨[.int .u8 x.f1], [.int .u8 x.f2, .bool x.f3], rfl, rfl, ⟨[.int .u8 x.f2], [.bool x.f3], rfl, rfl, rfl⟩⟩⟩
def rd_T77 (xs : List S77) (i : Int) : S77 := xs.getD i.toNat z77
theorem at_T77 {w : World} {A : Option Addr} {n : Nat} {xs : List S77} (h : Kd.C k77 w A n xs) (i : Int) (h0 : 0 ≤ i) (h1 : i < n) : ∃ ad , A = some ad ∧ w.cell? (ad.add (i.toNat * 4)) = some (.int .u8 (rd_T77 xs i).f0) ∧ w.cell? ⟨(ad.add (i.toNat * 4)).block, (ad.add (i.toNat * 4)).off + 1, none⟩ = some (.int .u8 (rd_T77 xs i).f1) ∧ w.cell? ⟨(ad.add (i.toNat * 4)).block, (ad.add (i.toNat * 4)).off + 2, none⟩ = some (.int .u8 (rd_T77 xs i).f2) ∧ w.cell? ⟨(ad.add (i.toNat * 4)).block, (ad.add (i.toNat * 4)).off + 3, none⟩ = some (.bool (rd_T77 xs i).f3) := by
  obtain ⟨ad, c, e, _, hK, hc0⟩ := Kd.C_get h z77 i h0 h1
  have hc : ∀ j u, c[j]? = some u → w.cell? (ad.add (i.toNat * 4 + j)) = some u := hc0
  obtain rfl := k77_open hK
  exact ⟨ad, e, hc 0 _ rfl, by rw [← add_field _ _ 1 (by omega)]; exact hc 1 _ rfl, by rw [← add_field _ _ 2 (by omega)]; exact hc 2 _ rfl, by rw [← add_field _ _ 3 (by omega)]; exact hc 3 _ rfl⟩

end Go.Proofs.Ytpccpkpljlafcaa.PTopOldestFirst
