-- Written by a program of this session (hprint.py), out of the translation; functions that the print does not take are given by hand.
import Derived.Test.YtphonmldcbgklaaProg
import Derived.Below
import Derived.Deep.Draws
import Derived.Deep.AppendLies
import Derived.Maps.AppendAt
import Derived.OwnWalk
import Derived.Laws.BytesArg
import Derived.Laws.MakeOwn
import Derived.Laws.OwnMore
import Derived.Deep.OwnRows
import Derived.Tactics
import Derived.Lib.ConvBytes
import Derived.Laws.Slices
import Derived.WalkKit
import Derived.KernelRfl
import Derived.RowKit3
import Derived.Deep.LoopGhost
import Derived.Deep.QuietTactic
import Derived.BigQuiet
import Derived.WideLaws
import Derived.Deep.DeepCutAuto
import Derived.Deep.CutBlock
import Derived.Deep.RegionHeld3
import Derived.Laws.Rows
import Derived.Lib.AppendStr
import Derived.ArgAppend
import Derived.Laws.IdiomCopy
import Derived.OrdersHeld
import Derived.Laws.BitsLemmas
import Derived.RowKit
import Derived.Test.YtphonmldcbgklaaMine
import Derived.Test.YtphonmldcbgklaaMem
import Derived.Test.YtphonmldcbgklaaWWords
import Derived.Test.YtphonmldcbgklaaWLast
import Derived.Test.YtphonmldcbgklaaWTab
import Derived.Test.YtphonmldcbgklaaWFour
import Derived.Test.YtphonmldcbgklaaWQPut
import Derived.Test.YtphonmldcbgklaaWApart
import Derived.Test.YtphonmldcbgklaaWArr
import Derived.Test.YtphonmldcbgklaaWZeros
import Derived.Test.YtphonmldcbgklaaWFoot
import Derived.Test.YtphonmldcbgklaaWKept
import Derived.Test.YtphonmldcbgklaaWShare
import Derived.Test.YtphonmldcbgklaaWN
import Derived.Test.YtphonmldcbgklaaWFootNe
import Derived.Test.YtphonmldcbgklaaWAt
import Derived.Test.YtphonmldcbgklaaWEqStruct
import Derived.Test.YtphonmldcbgklaaWRepsOne
import Derived.Test.YtphonmldcbgklaaWInv
import Derived.Test.YtphonmldcbgklaaWInvWords
import Derived.Test.YtphonmldcbgklaaWGuard
import Derived.Test.YtphonmldcbgklaaWNEv
import Derived.Test.YtphonmldcbgklaaWMore
namespace Go.Proofs.Ytphonmldcbgklaa.P
open Go.RowKit Go.Proofs.YtphonmldcbgklaaM Go.Proofs.YtphonmldcbgklaaW.PrintWords Go.Proofs.YtphonmldcbgklaaW.PrintLast Go.Proofs.YtphonmldcbgklaaW.PrintMore
attribute [local go_sem] max2_int min2_int max_two min_two max_three min_three max_four min_four   -- for this text's walks alone
set_option linter.unusedVariables false
set_option linter.unusedSimpArgs false



def errW : Option Int → Value
  | none => .nilIface
  | some c => .iface 0 (.int .i64 c)
theorem errW_none : errW none = .nilIface := rfl
theorem errW_some (c : Int) : errW (some c) = .iface 0 (.int .i64 c) := rfl

theorem info38 : (Try.prog.info? 38).map (fun i => (i.zero, i.size, i.bytes)) = some (some (.agg #[(.int .i64 0), (.int .i64 0), (.int .i64 0), (.int .i64 0), (.int .i64 0), (.int .i64 0), (.bool false), (.int .i64 0), (.int .i64 0), (.int .i64 0), (.bool false), (.int .i64 0), (.int .i64 0), (.int .i64 0), (.int .i64 0), (.int .i64 0), (.int .i64 0)]), 17, 136) := by kernel_rfl
-- the values' own types
/-! #### struct type 23 -/
structure S23 where
  f0 : Int
  f1 : Int
  f2 : Int
  f3 : Int
  f4 : Int
  f5 : Int
def z23 : S23 := ⟨(0 : Int), (0 : Int), (0 : Int), (0 : Int), (0 : Int), (0 : Int)⟩
def k23 : Kd S23 := Kd.iso (Kd.pair (Kd.int .i64) (Kd.pair (Kd.int .i64) (Kd.pair (Kd.int .i64) (Kd.pair (Kd.int .i64) (Kd.pair (Kd.int .i64) (Kd.int .i64)))))) (fun x : S23 => (x.f0, x.f1, x.f2, x.f3, x.f4, x.f5))
theorem k23_open {w : World} {x : S23} {cs : List Value} (h : k23.K w x cs) : cs = [.int .i64 x.f0, .int .i64 x.f1, .int .i64 x.f2, .int .i64 x.f3, .int .i64 x.f4, .int .i64 x.f5] := by
  obtain ⟨_, _, rfl, rfl, ⟨_, _, rfl, rfl, ⟨_, _, rfl, rfl, ⟨_, _, rfl, rfl, ⟨_, _, rfl, rfl, rfl⟩⟩⟩⟩⟩ := h
  exact rfl
theorem k23_openM {w : World} {base : Nat} {ok : Nat → Prop} {x : S23} {cs : List Value} (h : k23.M w base ok x cs) : cs = [.int .i64 x.f0, .int .i64 x.f1, .int .i64 x.f2, .int .i64 x.f3, .int .i64 x.f4, .int .i64 x.f5] := by
  obtain ⟨_, _, rfl, rfl, ⟨_, _, rfl, rfl, ⟨_, _, rfl, rfl, ⟨_, _, rfl, rfl, ⟨_, _, rfl, rfl, rfl⟩⟩⟩⟩⟩ := h
  exact rfl
theorem k23_mk (w : World) (x : S23)  : k23.K w x [.int .i64 x.f0, .int .i64 x.f1, .int .i64 x.f2, .int .i64 x.f3, .int .i64 x.f4, .int .i64 x.f5] := ⟨[.int .i64 x.f0], [.int .i64 x.f1, .int .i64 x.f2, .int .i64 x.f3, .int .i64 x.f4, .int .i64 x.f5], rfl, rfl, ⟨[.int .i64 x.f1], [.int .i64 x.f2, .int .i64 x.f3, .int .i64 x.f4, .int .i64 x.f5], rfl, rfl, ⟨[.int .i64 x.f2], [.int .i64 x.f3, .int .i64 x.f4, .int .i64 x.f5], rfl, rfl, ⟨[.int .i64 x.f3], [.int .i64 x.f4, .int .i64 x.f5], rfl, rfl, ⟨[.int .i64 x.f4], [.int .i64 x.f5], rfl, rfl, rfl⟩⟩⟩⟩⟩
theorem k23_mkM (w : World) (base : Nat) (ok : Nat → Prop) (x : S23)  : k23.M w base ok x [.int .i64 x.f0, .int .i64 x.f1, .int .i64 x.f2, .int .i64 x.f3, .int .i64 x.f4, .int .i64 x.f5] := ⟨[.int .i64 x.f0], [.int .i64 x.f1, .int .i64 x.f2, .int .i64 x.f3, .int .i64 x.f4, .int .i64 x.f5], rfl, rfl, ⟨[.int .i64 x.f1], [.int .i64 x.f2, .int .i64 x.f3, .int .i64 x.f4, .int .i64 x.f5], rfl, rfl, ⟨[.int .i64 x.f2], [.int .i64 x.f3, .int .i64 x.f4, .int .i64 x.f5], rfl, rfl, ⟨[.int .i64 x.f3], [.int .i64 x.f4, .int .i64 x.f5], rfl, rfl, ⟨[.int .i64 x.f4], [.int .i64 x.f5], rfl, rfl, rfl⟩⟩⟩⟩⟩
def rd_T23 (xs : List S23) (i : Int) : S23 := xs.getD i.toNat z23
theorem at_T23 {w : World} {A : Option Addr} {n : Nat} {xs : List S23} (h : Kd.C k23 w A n xs) (i : Int) (h0 : 0 ≤ i) (h1 : i < n) : ∃ ad , A = some ad ∧ w.cell? (ad.add (i.toNat * 6)) = some (.int .i64 (rd_T23 xs i).f0) ∧ w.cell? ⟨(ad.add (i.toNat * 6)).block, (ad.add (i.toNat * 6)).off + 1, none⟩ = some (.int .i64 (rd_T23 xs i).f1) ∧ w.cell? ⟨(ad.add (i.toNat * 6)).block, (ad.add (i.toNat * 6)).off + 2, none⟩ = some (.int .i64 (rd_T23 xs i).f2) ∧ w.cell? ⟨(ad.add (i.toNat * 6)).block, (ad.add (i.toNat * 6)).off + 3, none⟩ = some (.int .i64 (rd_T23 xs i).f3) ∧ w.cell? ⟨(ad.add (i.toNat * 6)).block, (ad.add (i.toNat * 6)).off + 4, none⟩ = some (.int .i64 (rd_T23 xs i).f4) ∧ w.cell? ⟨(ad.add (i.toNat * 6)).block, (ad.add (i.toNat * 6)).off + 5, none⟩ = some (.int .i64 (rd_T23 xs i).f5) := by
  obtain ⟨ad, c, e, _, hK, hc0⟩ := Kd.C_get h z23 i h0 h1
  have hc : ∀ j u, c[j]? = some u → w.cell? (ad.add (i.toNat * 6 + j)) = some u := hc0
  obtain rfl := k23_open hK
  exact ⟨ad, e, hc 0 _ rfl, by rw [← add_field _ _ 1 (by omega)]; exact hc 1 _ rfl, by rw [← add_field _ _ 2 (by omega)]; exact hc 2 _ rfl, by rw [← add_field _ _ 3 (by omega)]; exact hc 3 _ rfl, by rw [← add_field _ _ 4 (by omega)]; exact hc 4 _ rfl, by rw [← add_field _ _ 5 (by omega)]; exact hc 5 _ rfl⟩

/-! #### struct type 25 -/
structure S25 where
  f0 : Bool
  f1 : Int
  f2 : Int
  f3 : Int
  f4 : Bool
  f5 : Int
  f6 : Int
  f7 : Int
def z25 : S25 := ⟨false, (0 : Int), (0 : Int), (0 : Int), false, (0 : Int), (0 : Int), (0 : Int)⟩
def k25 : Kd S25 := Kd.iso (Kd.pair Kd.bool (Kd.pair (Kd.int .i64) (Kd.pair (Kd.int .i64) (Kd.pair (Kd.int .i64) (Kd.pair Kd.bool (Kd.pair (Kd.int .i64) (Kd.pair (Kd.int .i64) (Kd.int .i64)))))))) (fun x : S25 => (x.f0, x.f1, x.f2, x.f3, x.f4, x.f5, x.f6, x.f7))
theorem k25_open {w : World} {x : S25} {cs : List Value} (h : k25.K w x cs) : cs = [.bool x.f0, .int .i64 x.f1, .int .i64 x.f2, .int .i64 x.f3, .bool x.f4, .int .i64 x.f5, .int .i64 x.f6, .int .i64 x.f7] := by
  obtain ⟨_, _, rfl, rfl, ⟨_, _, rfl, rfl, ⟨_, _, rfl, rfl, ⟨_, _, rfl, rfl, ⟨_, _, rfl, rfl, ⟨_, _, rfl, rfl, ⟨_, _, rfl, rfl, rfl⟩⟩⟩⟩⟩⟩⟩ := h
  exact rfl
theorem k25_openM {w : World} {base : Nat} {ok : Nat → Prop} {x : S25} {cs : List Value} (h : k25.M w base ok x cs) : cs = [.bool x.f0, .int .i64 x.f1, .int .i64 x.f2, .int .i64 x.f3, .bool x.f4, .int .i64 x.f5, .int .i64 x.f6, .int .i64 x.f7] := by
  obtain ⟨_, _, rfl, rfl, ⟨_, _, rfl, rfl, ⟨_, _, rfl, rfl, ⟨_, _, rfl, rfl, ⟨_, _, rfl, rfl, ⟨_, _, rfl, rfl, ⟨_, _, rfl, rfl, rfl⟩⟩⟩⟩⟩⟩⟩ := h
  exact rfl
theorem k25_mk (w : World) (x : S25)  : k25.K w x [.bool x.f0, .int .i64 x.f1, .int .i64 x.f2, .int .i64 x.f3, .bool x.f4, .int .i64 x.f5, .int .i64 x.f6, .int .i64 x.f7] := ⟨[.bool x.f0], [.int .i64 x.f1, .int .i64 x.f2, .int .i64 x.f3, .bool x.f4, .int .i64 x.f5, .int .i64 x.f6, .int .i64 x.f7], rfl, rfl, ⟨[.int .i64 x.f1], [.int .i64 x.f2, .int .i64 x.f3, .bool x.f4, .int .i64 x.f5, .int .i64 x.f6, .int .i64 x.f7], rfl, rfl, ⟨[.int .i64 x.f2], [.int .i64 x.f3, .bool x.f4, .int .i64 x.f5, .int .i64 x.f6, .int .i64 x.f7], rfl, rfl, ⟨[.int .i64 x.f3], [.bool x.f4, .int .i64 x.f5, .int .i64 x.f6, .int .i64 x.f7], rfl, rfl, ⟨[.bool x.f4], [.int .i64 x.f5, .int .i64 x.f6, .int .i64 x.f7], rfl, rfl, ⟨[.int .i64 x.f5], [.int .i64 x.f6, .int .i64 x.f7], rfl, rfl, ⟨[.int .i64 x.f6], [.int .i64 x.f7], rfl, rfl, rfl⟩⟩⟩⟩⟩⟩⟩
theorem k25_mkM (w : World) (base : Nat) (ok : Nat → Prop) (x : S25)  : k25.M w base ok x [.bool x.f0, .int .i64 x.f1, .int .i64 x.f2, .int .i64 x.f3, .bool x.f4, .int .i64 x.f5, .int .i64 x.f6, .int .i64 x.f7] := ⟨[.bool x.f0], [.int .i64 x.f1, .int .i64 x.f2, .int .i64 x.f3, .bool x.f4, .int .i64 x.f5, .int .i64 x.f6, .int .i64 x.f7], rfl, rfl, ⟨[.int .i64 x.f1], [.int .i64 x.f2, .int .i64 x.f3, .bool x.f4, .int .i64 x.f5, .int .i64 x.f6, .int .i64 x.f7], rfl, rfl, ⟨[.int .i64 x.f2], [.int .i64 x.f3, .bool x.f4, .int .i64 x.f5, .int .i64 x.f6, .int .i64 x.f7], rfl, rfl, ⟨[.int .i64 x.f3], [.bool x.f4, .int .i64 x.f5, .int .i64 x.f6, .int .i64 x.f7], rfl, rfl, ⟨[.bool x.f4], [.int .i64 x.f5, .int .i64 x.f6, .int .i64 x.f7], rfl, rfl, ⟨[.int .i64 x.f5], [.int .i64 x.f6, .int .i64 x.f7], rfl, rfl, ⟨[.int .i64 x.f6], [.int .i64 x.f7], rfl, rfl, rfl⟩⟩⟩⟩⟩⟩⟩
def rd_T25 (xs : List S25) (i : Int) : S25 := xs.getD i.toNat z25
theorem at_T25 {w : World} {A : Option Addr} {n : Nat} {xs : List S25} (h : Kd.C k25 w A n xs) (i : Int) (h0 : 0 ≤ i) (h1 : i < n) : ∃ ad , A = some ad ∧ w.cell? (ad.add (i.toNat * 8)) = some (.bool (rd_T25 xs i).f0) ∧ w.cell? ⟨(ad.add (i.toNat * 8)).block, (ad.add (i.toNat * 8)).off + 1, none⟩ = some (.int .i64 (rd_T25 xs i).f1) ∧ w.cell? ⟨(ad.add (i.toNat * 8)).block, (ad.add (i.toNat * 8)).off + 2, none⟩ = some (.int .i64 (rd_T25 xs i).f2) ∧ w.cell? ⟨(ad.add (i.toNat * 8)).block, (ad.add (i.toNat * 8)).off + 3, none⟩ = some (.int .i64 (rd_T25 xs i).f3) ∧ w.cell? ⟨(ad.add (i.toNat * 8)).block, (ad.add (i.toNat * 8)).off + 4, none⟩ = some (.bool (rd_T25 xs i).f4) ∧ w.cell? ⟨(ad.add (i.toNat * 8)).block, (ad.add (i.toNat * 8)).off + 5, none⟩ = some (.int .i64 (rd_T25 xs i).f5) ∧ w.cell? ⟨(ad.add (i.toNat * 8)).block, (ad.add (i.toNat * 8)).off + 6, none⟩ = some (.int .i64 (rd_T25 xs i).f6) ∧ w.cell? ⟨(ad.add (i.toNat * 8)).block, (ad.add (i.toNat * 8)).off + 7, none⟩ = some (.int .i64 (rd_T25 xs i).f7) := by
  obtain ⟨ad, c, e, _, hK, hc0⟩ := Kd.C_get h z25 i h0 h1
  have hc : ∀ j u, c[j]? = some u → w.cell? (ad.add (i.toNat * 8 + j)) = some u := hc0
  obtain rfl := k25_open hK
  exact ⟨ad, e, hc 0 _ rfl, by rw [← add_field _ _ 1 (by omega)]; exact hc 1 _ rfl, by rw [← add_field _ _ 2 (by omega)]; exact hc 2 _ rfl, by rw [← add_field _ _ 3 (by omega)]; exact hc 3 _ rfl, by rw [← add_field _ _ 4 (by omega)]; exact hc 4 _ rfl, by rw [← add_field _ _ 5 (by omega)]; exact hc 5 _ rfl, by rw [← add_field _ _ 6 (by omega)]; exact hc 6 _ rfl, by rw [← add_field _ _ 7 (by omega)]; exact hc 7 _ rfl⟩

/-! #### struct type 28 -/
structure S28 where
  f0 : Int
  f1 : Int
def z28 : S28 := ⟨(0 : Int), (0 : Int)⟩
def k28 : Kd S28 := Kd.iso (Kd.pair (Kd.int .i64) (Kd.int .u64)) (fun x : S28 => (x.f0, x.f1))
theorem k28_open {w : World} {x : S28} {cs : List Value} (h : k28.K w x cs) : cs = [.int .i64 x.f0, .int .u64 x.f1] := by
  obtain ⟨_, _, rfl, rfl, rfl⟩ := h
  exact rfl
theorem k28_openM {w : World} {base : Nat} {ok : Nat → Prop} {x : S28} {cs : List Value} (h : k28.M w base ok x cs) : cs = [.int .i64 x.f0, .int .u64 x.f1] := by
  obtain ⟨_, _, rfl, rfl, rfl⟩ := h
  exact rfl
theorem k28_mk (w : World) (x : S28)  : k28.K w x [.int .i64 x.f0, .int .u64 x.f1] := ⟨[.int .i64 x.f0], [.int .u64 x.f1], rfl, rfl, rfl⟩
theorem k28_mkM (w : World) (base : Nat) (ok : Nat → Prop) (x : S28)  : k28.M w base ok x [.int .i64 x.f0, .int .u64 x.f1] := ⟨[.int .i64 x.f0], [.int .u64 x.f1], rfl, rfl, rfl⟩
def rd_T28 (xs : List S28) (i : Int) : S28 := xs.getD i.toNat z28
theorem at_T28 {w : World} {A : Option Addr} {n : Nat} {xs : List S28} (h : Kd.C k28 w A n xs) (i : Int) (h0 : 0 ≤ i) (h1 : i < n) : ∃ ad , A = some ad ∧ w.cell? (ad.add (i.toNat * 2)) = some (.int .i64 (rd_T28 xs i).f0) ∧ w.cell? ⟨(ad.add (i.toNat * 2)).block, (ad.add (i.toNat * 2)).off + 1, none⟩ = some (.int .u64 (rd_T28 xs i).f1) := by
  obtain ⟨ad, c, e, _, hK, hc0⟩ := Kd.C_get h z28 i h0 h1
  have hc : ∀ j u, c[j]? = some u → w.cell? (ad.add (i.toNat * 2 + j)) = some u := hc0
  obtain rfl := k28_open hK
  exact ⟨ad, e, hc 0 _ rfl, by rw [← add_field _ _ 1 (by omega)]; exact hc 1 _ rfl⟩

/-! #### struct type 30 -/
structure S30 where
  f0 : Int
  f1 : S23
  f2 : Int
  f3 : Int
  f4 : Int
  f5 : Int
  f6 : S25
  f7 : S28
  f8 : Bool
def z30 : S30 := ⟨(0 : Int), z23, (0 : Int), (0 : Int), (0 : Int), (0 : Int), z25, z28, false⟩
def k30 : Kd S30 := Kd.iso (Kd.pair (Kd.int .i64) (Kd.pair k23 (Kd.pair (Kd.int .i64) (Kd.pair (Kd.int .i64) (Kd.pair (Kd.int .i64) (Kd.pair (Kd.int .i64) (Kd.pair k25 (Kd.pair k28 Kd.bool)))))))) (fun x : S30 => (x.f0, x.f1, x.f2, x.f3, x.f4, x.f5, x.f6, x.f7, x.f8))
theorem k30_open {w : World} {x : S30} {cs : List Value} (h : k30.K w x cs) : cs = [.int .i64 x.f0, .int .i64 x.f1.f0, .int .i64 x.f1.f1, .int .i64 x.f1.f2, .int .i64 x.f1.f3, .int .i64 x.f1.f4, .int .i64 x.f1.f5, .int .i64 x.f2, .int .i64 x.f3, .int .i64 x.f4, .int .i64 x.f5, .bool x.f6.f0, .int .i64 x.f6.f1, .int .i64 x.f6.f2, .int .i64 x.f6.f3, .bool x.f6.f4, .int .i64 x.f6.f5, .int .i64 x.f6.f6, .int .i64 x.f6.f7, .int .i64 x.f7.f0, .int .u64 x.f7.f1, .bool x.f8] := by
  obtain ⟨_, _, rfl, rfl, ⟨_, _, rfl, s1, ⟨_, _, rfl, rfl, ⟨_, _, rfl, rfl, ⟨_, _, rfl, rfl, ⟨_, _, rfl, rfl, ⟨_, _, rfl, s11, ⟨_, _, rfl, s19, rfl⟩⟩⟩⟩⟩⟩⟩⟩ := h
  obtain rfl := k23_open s1
  obtain rfl := k25_open s11
  obtain rfl := k28_open s19
  exact rfl
theorem k30_openM {w : World} {base : Nat} {ok : Nat → Prop} {x : S30} {cs : List Value} (h : k30.M w base ok x cs) : cs = [.int .i64 x.f0, .int .i64 x.f1.f0, .int .i64 x.f1.f1, .int .i64 x.f1.f2, .int .i64 x.f1.f3, .int .i64 x.f1.f4, .int .i64 x.f1.f5, .int .i64 x.f2, .int .i64 x.f3, .int .i64 x.f4, .int .i64 x.f5, .bool x.f6.f0, .int .i64 x.f6.f1, .int .i64 x.f6.f2, .int .i64 x.f6.f3, .bool x.f6.f4, .int .i64 x.f6.f5, .int .i64 x.f6.f6, .int .i64 x.f6.f7, .int .i64 x.f7.f0, .int .u64 x.f7.f1, .bool x.f8] := by
  obtain ⟨_, _, rfl, rfl, ⟨_, _, rfl, s1, ⟨_, _, rfl, rfl, ⟨_, _, rfl, rfl, ⟨_, _, rfl, rfl, ⟨_, _, rfl, rfl, ⟨_, _, rfl, s11, ⟨_, _, rfl, s19, rfl⟩⟩⟩⟩⟩⟩⟩⟩ := h
  obtain rfl := k23_openM s1
  obtain rfl := k25_openM s11
  obtain rfl := k28_openM s19
  exact rfl
theorem k30_mk (w : World) (x : S30)  : k30.K w x [.int .i64 x.f0, .int .i64 x.f1.f0, .int .i64 x.f1.f1, .int .i64 x.f1.f2, .int .i64 x.f1.f3, .int .i64 x.f1.f4, .int .i64 x.f1.f5, .int .i64 x.f2, .int .i64 x.f3, .int .i64 x.f4, .int .i64 x.f5, .bool x.f6.f0, .int .i64 x.f6.f1, .int .i64 x.f6.f2, .int .i64 x.f6.f3, .bool x.f6.f4, .int .i64 x.f6.f5, .int .i64 x.f6.f6, .int .i64 x.f6.f7, .int .i64 x.f7.f0, .int .u64 x.f7.f1, .bool x.f8] := ⟨[.int .i64 x.f0], [.int .i64 x.f1.f0, .int .i64 x.f1.f1, .int .i64 x.f1.f2, .int .i64 x.f1.f3, .int .i64 x.f1.f4, .int .i64 x.f1.f5, .int .i64 x.f2, .int .i64 x.f3, .int .i64 x.f4, .int .i64 x.f5, .bool x.f6.f0, .int .i64 x.f6.f1, .int .i64 x.f6.f2, .int .i64 x.f6.f3, .bool x.f6.f4, .int .i64 x.f6.f5, .int .i64 x.f6.f6, .int .i64 x.f6.f7, .int .i64 x.f7.f0, .int .u64 x.f7.f1, .bool x.f8], rfl, rfl, ⟨[.int .i64 x.f1.f0, .int .i64 x.f1.f1, .int .i64 x.f1.f2, .int .i64 x.f1.f3, .int .i64 x.f1.f4, .int .i64 x.f1.f5], [.int .i64 x.f2, .int .i64 x.f3, .int .i64 x.f4, .int .i64 x.f5, .bool x.f6.f0, .int .i64 x.f6.f1, .int .i64 x.f6.f2, .int .i64 x.f6.f3, .bool x.f6.f4, .int .i64 x.f6.f5, .int .i64 x.f6.f6, .int .i64 x.f6.f7, .int .i64 x.f7.f0, .int .u64 x.f7.f1, .bool x.f8], rfl, (k23_mk w x.f1 ), ⟨[.int .i64 x.f2], [.int .i64 x.f3, .int .i64 x.f4, .int .i64 x.f5, .bool x.f6.f0, .int .i64 x.f6.f1, .int .i64 x.f6.f2, .int .i64 x.f6.f3, .bool x.f6.f4, .int .i64 x.f6.f5, .int .i64 x.f6.f6, .int .i64 x.f6.f7, .int .i64 x.f7.f0, .int .u64 x.f7.f1, .bool x.f8], rfl, rfl, ⟨[.int .i64 x.f3], [.int .i64 x.f4, .int .i64 x.f5, .bool x.f6.f0, .int .i64 x.f6.f1, .int .i64 x.f6.f2, .int .i64 x.f6.f3, .bool x.f6.f4, .int .i64 x.f6.f5, .int .i64 x.f6.f6, .int .i64 x.f6.f7, .int .i64 x.f7.f0, .int .u64 x.f7.f1, .bool x.f8], rfl, rfl, ⟨[.int .i64 x.f4], [.int .i64 x.f5, .bool x.f6.f0, .int .i64 x.f6.f1, .int .i64 x.f6.f2, .int .i64 x.f6.f3, .bool x.f6.f4, .int .i64 x.f6.f5, .int .i64 x.f6.f6, .int .i64 x.f6.f7, .int .i64 x.f7.f0, .int .u64 x.f7.f1, .bool x.f8], rfl, rfl, ⟨[.int .i64 x.f5], [.bool x.f6.f0, .int .i64 x.f6.f1, .int .i64 x.f6.f2, .int .i64 x.f6.f3, .bool x.f6.f4, .int .i64 x.f6.f5, .int .i64 x.f6.f6, .int .i64 x.f6.f7, .int .i64 x.f7.f0, .int .u64 x.f7.f1, .bool x.f8], rfl, rfl, ⟨[.bool x.f6.f0, .int .i64 x.f6.f1, .int .i64 x.f6.f2, .int .i64 x.f6.f3, .bool x.f6.f4, .int .i64 x.f6.f5, .int .i64 x.f6.f6, .int .i64 x.f6.f7], [.int .i64 x.f7.f0, .int .u64 x.f7.f1, .bool x.f8], rfl, (k25_mk w x.f6 ), ⟨[.int .i64 x.f7.f0, .int .u64 x.f7.f1], [.bool x.f8], rfl, (k28_mk w x.f7 ), rfl⟩⟩⟩⟩⟩⟩⟩⟩
theorem k30_mkM (w : World) (base : Nat) (ok : Nat → Prop) (x : S30)  : k30.M w base ok x [.int .i64 x.f0, .int .i64 x.f1.f0, .int .i64 x.f1.f1, .int .i64 x.f1.f2, .int .i64 x.f1.f3, .int .i64 x.f1.f4, .int .i64 x.f1.f5, .int .i64 x.f2, .int .i64 x.f3, .int .i64 x.f4, .int .i64 x.f5, .bool x.f6.f0, .int .i64 x.f6.f1, .int .i64 x.f6.f2, .int .i64 x.f6.f3, .bool x.f6.f4, .int .i64 x.f6.f5, .int .i64 x.f6.f6, .int .i64 x.f6.f7, .int .i64 x.f7.f0, .int .u64 x.f7.f1, .bool x.f8] := ⟨[.int .i64 x.f0], [.int .i64 x.f1.f0, .int .i64 x.f1.f1, .int .i64 x.f1.f2, .int .i64 x.f1.f3, .int .i64 x.f1.f4, .int .i64 x.f1.f5, .int .i64 x.f2, .int .i64 x.f3, .int .i64 x.f4, .int .i64 x.f5, .bool x.f6.f0, .int .i64 x.f6.f1, .int .i64 x.f6.f2, .int .i64 x.f6.f3, .bool x.f6.f4, .int .i64 x.f6.f5, .int .i64 x.f6.f6, .int .i64 x.f6.f7, .int .i64 x.f7.f0, .int .u64 x.f7.f1, .bool x.f8], rfl, rfl, ⟨[.int .i64 x.f1.f0, .int .i64 x.f1.f1, .int .i64 x.f1.f2, .int .i64 x.f1.f3, .int .i64 x.f1.f4, .int .i64 x.f1.f5], [.int .i64 x.f2, .int .i64 x.f3, .int .i64 x.f4, .int .i64 x.f5, .bool x.f6.f0, .int .i64 x.f6.f1, .int .i64 x.f6.f2, .int .i64 x.f6.f3, .bool x.f6.f4, .int .i64 x.f6.f5, .int .i64 x.f6.f6, .int .i64 x.f6.f7, .int .i64 x.f7.f0, .int .u64 x.f7.f1, .bool x.f8], rfl, (k23_mkM w base ok x.f1 ), ⟨[.int .i64 x.f2], [.int .i64 x.f3, .int .i64 x.f4, .int .i64 x.f5, .bool x.f6.f0, .int .i64 x.f6.f1, .int .i64 x.f6.f2, .int .i64 x.f6.f3, .bool x.f6.f4, .int .i64 x.f6.f5, .int .i64 x.f6.f6, .int .i64 x.f6.f7, .int .i64 x.f7.f0, .int .u64 x.f7.f1, .bool x.f8], rfl, rfl, ⟨[.int .i64 x.f3], [.int .i64 x.f4, .int .i64 x.f5, .bool x.f6.f0, .int .i64 x.f6.f1, .int .i64 x.f6.f2, .int .i64 x.f6.f3, .bool x.f6.f4, .int .i64 x.f6.f5, .int .i64 x.f6.f6, .int .i64 x.f6.f7, .int .i64 x.f7.f0, .int .u64 x.f7.f1, .bool x.f8], rfl, rfl, ⟨[.int .i64 x.f4], [.int .i64 x.f5, .bool x.f6.f0, .int .i64 x.f6.f1, .int .i64 x.f6.f2, .int .i64 x.f6.f3, .bool x.f6.f4, .int .i64 x.f6.f5, .int .i64 x.f6.f6, .int .i64 x.f6.f7, .int .i64 x.f7.f0, .int .u64 x.f7.f1, .bool x.f8], rfl, rfl, ⟨[.int .i64 x.f5], [.bool x.f6.f0, .int .i64 x.f6.f1, .int .i64 x.f6.f2, .int .i64 x.f6.f3, .bool x.f6.f4, .int .i64 x.f6.f5, .int .i64 x.f6.f6, .int .i64 x.f6.f7, .int .i64 x.f7.f0, .int .u64 x.f7.f1, .bool x.f8], rfl, rfl, ⟨[.bool x.f6.f0, .int .i64 x.f6.f1, .int .i64 x.f6.f2, .int .i64 x.f6.f3, .bool x.f6.f4, .int .i64 x.f6.f5, .int .i64 x.f6.f6, .int .i64 x.f6.f7], [.int .i64 x.f7.f0, .int .u64 x.f7.f1, .bool x.f8], rfl, (k25_mkM w base ok x.f6 ), ⟨[.int .i64 x.f7.f0, .int .u64 x.f7.f1], [.bool x.f8], rfl, (k28_mkM w base ok x.f7 ), rfl⟩⟩⟩⟩⟩⟩⟩⟩
def rd_T30 (xs : List S30) (i : Int) : S30 := xs.getD i.toNat z30
theorem at_T30 {w : World} {A : Option Addr} {n : Nat} {xs : List S30} (h : Kd.C k30 w A n xs) (i : Int) (h0 : 0 ≤ i) (h1 : i < n) : ∃ ad , A = some ad ∧ w.cell? (ad.add (i.toNat * 22)) = some (.int .i64 (rd_T30 xs i).f0) ∧ w.cell? ⟨(ad.add (i.toNat * 22)).block, (ad.add (i.toNat * 22)).off + 1, none⟩ = some (.int .i64 (rd_T30 xs i).f1.f0) ∧ w.cell? ⟨(ad.add (i.toNat * 22)).block, (ad.add (i.toNat * 22)).off + 2, none⟩ = some (.int .i64 (rd_T30 xs i).f1.f1) ∧ w.cell? ⟨(ad.add (i.toNat * 22)).block, (ad.add (i.toNat * 22)).off + 3, none⟩ = some (.int .i64 (rd_T30 xs i).f1.f2) ∧ w.cell? ⟨(ad.add (i.toNat * 22)).block, (ad.add (i.toNat * 22)).off + 4, none⟩ = some (.int .i64 (rd_T30 xs i).f1.f3) ∧ w.cell? ⟨(ad.add (i.toNat * 22)).block, (ad.add (i.toNat * 22)).off + 5, none⟩ = some (.int .i64 (rd_T30 xs i).f1.f4) ∧ w.cell? ⟨(ad.add (i.toNat * 22)).block, (ad.add (i.toNat * 22)).off + 6, none⟩ = some (.int .i64 (rd_T30 xs i).f1.f5) ∧ w.cell? ⟨(ad.add (i.toNat * 22)).block, (ad.add (i.toNat * 22)).off + 7, none⟩ = some (.int .i64 (rd_T30 xs i).f2) ∧ w.cell? ⟨(ad.add (i.toNat * 22)).block, (ad.add (i.toNat * 22)).off + 8, none⟩ = some (.int .i64 (rd_T30 xs i).f3) ∧ w.cell? ⟨(ad.add (i.toNat * 22)).block, (ad.add (i.toNat * 22)).off + 9, none⟩ = some (.int .i64 (rd_T30 xs i).f4) ∧ w.cell? ⟨(ad.add (i.toNat * 22)).block, (ad.add (i.toNat * 22)).off + 10, none⟩ = some (.int .i64 (rd_T30 xs i).f5) ∧ w.cell? ⟨(ad.add (i.toNat * 22)).block, (ad.add (i.toNat * 22)).off + 11, none⟩ = some (.bool (rd_T30 xs i).f6.f0) ∧ w.cell? ⟨(ad.add (i.toNat * 22)).block, (ad.add (i.toNat * 22)).off + 12, none⟩ = some (.int .i64 (rd_T30 xs i).f6.f1) ∧ w.cell? ⟨(ad.add (i.toNat * 22)).block, (ad.add (i.toNat * 22)).off + 13, none⟩ = some (.int .i64 (rd_T30 xs i).f6.f2) ∧ w.cell? ⟨(ad.add (i.toNat * 22)).block, (ad.add (i.toNat * 22)).off + 14, none⟩ = some (.int .i64 (rd_T30 xs i).f6.f3) ∧ w.cell? ⟨(ad.add (i.toNat * 22)).block, (ad.add (i.toNat * 22)).off + 15, none⟩ = some (.bool (rd_T30 xs i).f6.f4) ∧ w.cell? ⟨(ad.add (i.toNat * 22)).block, (ad.add (i.toNat * 22)).off + 16, none⟩ = some (.int .i64 (rd_T30 xs i).f6.f5) ∧ w.cell? ⟨(ad.add (i.toNat * 22)).block, (ad.add (i.toNat * 22)).off + 17, none⟩ = some (.int .i64 (rd_T30 xs i).f6.f6) ∧ w.cell? ⟨(ad.add (i.toNat * 22)).block, (ad.add (i.toNat * 22)).off + 18, none⟩ = some (.int .i64 (rd_T30 xs i).f6.f7) ∧ w.cell? ⟨(ad.add (i.toNat * 22)).block, (ad.add (i.toNat * 22)).off + 19, none⟩ = some (.int .i64 (rd_T30 xs i).f7.f0) ∧ w.cell? ⟨(ad.add (i.toNat * 22)).block, (ad.add (i.toNat * 22)).off + 20, none⟩ = some (.int .u64 (rd_T30 xs i).f7.f1) ∧ w.cell? ⟨(ad.add (i.toNat * 22)).block, (ad.add (i.toNat * 22)).off + 21, none⟩ = some (.bool (rd_T30 xs i).f8) := by
  obtain ⟨ad, c, e, _, hK, hc0⟩ := Kd.C_get h z30 i h0 h1
  have hc : ∀ j u, c[j]? = some u → w.cell? (ad.add (i.toNat * 22 + j)) = some u := hc0
  obtain rfl := k30_open hK
  exact ⟨ad, e, hc 0 _ rfl, by rw [← add_field _ _ 1 (by omega)]; exact hc 1 _ rfl, by rw [← add_field _ _ 2 (by omega)]; exact hc 2 _ rfl, by rw [← add_field _ _ 3 (by omega)]; exact hc 3 _ rfl, by rw [← add_field _ _ 4 (by omega)]; exact hc 4 _ rfl, by rw [← add_field _ _ 5 (by omega)]; exact hc 5 _ rfl, by rw [← add_field _ _ 6 (by omega)]; exact hc 6 _ rfl, by rw [← add_field _ _ 7 (by omega)]; exact hc 7 _ rfl, by rw [← add_field _ _ 8 (by omega)]; exact hc 8 _ rfl, by rw [← add_field _ _ 9 (by omega)]; exact hc 9 _ rfl, by rw [← add_field _ _ 10 (by omega)]; exact hc 10 _ rfl, by rw [← add_field _ _ 11 (by omega)]; exact hc 11 _ rfl, by rw [← add_field _ _ 12 (by omega)]; exact hc 12 _ rfl, by rw [← add_field _ _ 13 (by omega)]; exact hc 13 _ rfl, by rw [← add_field _ _ 14 (by omega)]; exact hc 14 _ rfl, by rw [← add_field _ _ 15 (by omega)]; exact hc 15 _ rfl, by rw [← add_field _ _ 16 (by omega)]; exact hc 16 _ rfl, by rw [← add_field _ _ 17 (by omega)]; exact hc 17 _ rfl, by rw [← add_field _ _ 18 (by omega)]; exact hc 18 _ rfl, by rw [← add_field _ _ 19 (by omega)]; exact hc 19 _ rfl, by rw [← add_field _ _ 20 (by omega)]; exact hc 20 _ rfl, by rw [← add_field _ _ 21 (by omega)]; exact hc 21 _ rfl⟩

/-! #### struct type 38 -/
structure S38 where
  f0 : S23
  f1 : S25
  f2 : Int
  f3 : Int
  f4 : Int
def z38 : S38 := ⟨z23, z25, (0 : Int), (0 : Int), (0 : Int)⟩
def k38 : Kd S38 := Kd.iso (Kd.pair k23 (Kd.pair k25 (Kd.pair (Kd.int .i64) (Kd.pair (Kd.int .i64) (Kd.int .i64))))) (fun x : S38 => (x.f0, x.f1, x.f2, x.f3, x.f4))
theorem k38_open {w : World} {x : S38} {cs : List Value} (h : k38.K w x cs) : cs = [.int .i64 x.f0.f0, .int .i64 x.f0.f1, .int .i64 x.f0.f2, .int .i64 x.f0.f3, .int .i64 x.f0.f4, .int .i64 x.f0.f5, .bool x.f1.f0, .int .i64 x.f1.f1, .int .i64 x.f1.f2, .int .i64 x.f1.f3, .bool x.f1.f4, .int .i64 x.f1.f5, .int .i64 x.f1.f6, .int .i64 x.f1.f7, .int .i64 x.f2, .int .i64 x.f3, .int .i64 x.f4] := by
  obtain ⟨_, _, rfl, s0, ⟨_, _, rfl, s6, ⟨_, _, rfl, rfl, ⟨_, _, rfl, rfl, rfl⟩⟩⟩⟩ := h
  obtain rfl := k23_open s0
  obtain rfl := k25_open s6
  exact rfl
theorem k38_openM {w : World} {base : Nat} {ok : Nat → Prop} {x : S38} {cs : List Value} (h : k38.M w base ok x cs) : cs = [.int .i64 x.f0.f0, .int .i64 x.f0.f1, .int .i64 x.f0.f2, .int .i64 x.f0.f3, .int .i64 x.f0.f4, .int .i64 x.f0.f5, .bool x.f1.f0, .int .i64 x.f1.f1, .int .i64 x.f1.f2, .int .i64 x.f1.f3, .bool x.f1.f4, .int .i64 x.f1.f5, .int .i64 x.f1.f6, .int .i64 x.f1.f7, .int .i64 x.f2, .int .i64 x.f3, .int .i64 x.f4] := by
  obtain ⟨_, _, rfl, s0, ⟨_, _, rfl, s6, ⟨_, _, rfl, rfl, ⟨_, _, rfl, rfl, rfl⟩⟩⟩⟩ := h
  obtain rfl := k23_openM s0
  obtain rfl := k25_openM s6
  exact rfl
theorem k38_mk (w : World) (x : S38)  : k38.K w x [.int .i64 x.f0.f0, .int .i64 x.f0.f1, .int .i64 x.f0.f2, .int .i64 x.f0.f3, .int .i64 x.f0.f4, .int .i64 x.f0.f5, .bool x.f1.f0, .int .i64 x.f1.f1, .int .i64 x.f1.f2, .int .i64 x.f1.f3, .bool x.f1.f4, .int .i64 x.f1.f5, .int .i64 x.f1.f6, .int .i64 x.f1.f7, .int .i64 x.f2, .int .i64 x.f3, .int .i64 x.f4] := ⟨[.int .i64 x.f0.f0, .int .i64 x.f0.f1, .int .i64 x.f0.f2, .int .i64 x.f0.f3, .int .i64 x.f0.f4, .int .i64 x.f0.f5], [.bool x.f1.f0, .int .i64 x.f1.f1, .int .i64 x.f1.f2, .int .i64 x.f1.f3, .bool x.f1.f4, .int .i64 x.f1.f5, .int .i64 x.f1.f6, .int .i64 x.f1.f7, .int .i64 x.f2, .int .i64 x.f3, .int .i64 x.f4], rfl, (k23_mk w x.f0 ), ⟨[.bool x.f1.f0, .int .i64 x.f1.f1, .int .i64 x.f1.f2, .int .i64 x.f1.f3, .bool x.f1.f4, .int .i64 x.f1.f5, .int .i64 x.f1.f6, .int .i64 x.f1.f7], [.int .i64 x.f2, .int .i64 x.f3, .int .i64 x.f4], rfl, (k25_mk w x.f1 ), ⟨[.int .i64 x.f2], [.int .i64 x.f3, .int .i64 x.f4], rfl, rfl, ⟨[.int .i64 x.f3], [.int .i64 x.f4], rfl, rfl, rfl⟩⟩⟩⟩
theorem k38_mkM (w : World) (base : Nat) (ok : Nat → Prop) (x : S38)  : k38.M w base ok x [.int .i64 x.f0.f0, .int .i64 x.f0.f1, .int .i64 x.f0.f2, .int .i64 x.f0.f3, .int .i64 x.f0.f4, .int .i64 x.f0.f5, .bool x.f1.f0, .int .i64 x.f1.f1, .int .i64 x.f1.f2, .int .i64 x.f1.f3, .bool x.f1.f4, .int .i64 x.f1.f5, .int .i64 x.f1.f6, .int .i64 x.f1.f7, .int .i64 x.f2, .int .i64 x.f3, .int .i64 x.f4] := ⟨[.int .i64 x.f0.f0, .int .i64 x.f0.f1, .int .i64 x.f0.f2, .int .i64 x.f0.f3, .int .i64 x.f0.f4, .int .i64 x.f0.f5], [.bool x.f1.f0, .int .i64 x.f1.f1, .int .i64 x.f1.f2, .int .i64 x.f1.f3, .bool x.f1.f4, .int .i64 x.f1.f5, .int .i64 x.f1.f6, .int .i64 x.f1.f7, .int .i64 x.f2, .int .i64 x.f3, .int .i64 x.f4], rfl, (k23_mkM w base ok x.f0 ), ⟨[.bool x.f1.f0, .int .i64 x.f1.f1, .int .i64 x.f1.f2, .int .i64 x.f1.f3, .bool x.f1.f4, .int .i64 x.f1.f5, .int .i64 x.f1.f6, .int .i64 x.f1.f7], [.int .i64 x.f2, .int .i64 x.f3, .int .i64 x.f4], rfl, (k25_mkM w base ok x.f1 ), ⟨[.int .i64 x.f2], [.int .i64 x.f3, .int .i64 x.f4], rfl, rfl, ⟨[.int .i64 x.f3], [.int .i64 x.f4], rfl, rfl, rfl⟩⟩⟩⟩
def rd_T38 (xs : List S38) (i : Int) : S38 := xs.getD i.toNat z38
theorem at_T38 {w : World} {A : Option Addr} {n : Nat} {xs : List S38} (h : Kd.C k38 w A n xs) (i : Int) (h0 : 0 ≤ i) (h1 : i < n) : ∃ ad , A = some ad ∧ w.cell? (ad.add (i.toNat * 17)) = some (.int .i64 (rd_T38 xs i).f0.f0) ∧ w.cell? ⟨(ad.add (i.toNat * 17)).block, (ad.add (i.toNat * 17)).off + 1, none⟩ = some (.int .i64 (rd_T38 xs i).f0.f1) ∧ w.cell? ⟨(ad.add (i.toNat * 17)).block, (ad.add (i.toNat * 17)).off + 2, none⟩ = some (.int .i64 (rd_T38 xs i).f0.f2) ∧ w.cell? ⟨(ad.add (i.toNat * 17)).block, (ad.add (i.toNat * 17)).off + 3, none⟩ = some (.int .i64 (rd_T38 xs i).f0.f3) ∧ w.cell? ⟨(ad.add (i.toNat * 17)).block, (ad.add (i.toNat * 17)).off + 4, none⟩ = some (.int .i64 (rd_T38 xs i).f0.f4) ∧ w.cell? ⟨(ad.add (i.toNat * 17)).block, (ad.add (i.toNat * 17)).off + 5, none⟩ = some (.int .i64 (rd_T38 xs i).f0.f5) ∧ w.cell? ⟨(ad.add (i.toNat * 17)).block, (ad.add (i.toNat * 17)).off + 6, none⟩ = some (.bool (rd_T38 xs i).f1.f0) ∧ w.cell? ⟨(ad.add (i.toNat * 17)).block, (ad.add (i.toNat * 17)).off + 7, none⟩ = some (.int .i64 (rd_T38 xs i).f1.f1) ∧ w.cell? ⟨(ad.add (i.toNat * 17)).block, (ad.add (i.toNat * 17)).off + 8, none⟩ = some (.int .i64 (rd_T38 xs i).f1.f2) ∧ w.cell? ⟨(ad.add (i.toNat * 17)).block, (ad.add (i.toNat * 17)).off + 9, none⟩ = some (.int .i64 (rd_T38 xs i).f1.f3) ∧ w.cell? ⟨(ad.add (i.toNat * 17)).block, (ad.add (i.toNat * 17)).off + 10, none⟩ = some (.bool (rd_T38 xs i).f1.f4) ∧ w.cell? ⟨(ad.add (i.toNat * 17)).block, (ad.add (i.toNat * 17)).off + 11, none⟩ = some (.int .i64 (rd_T38 xs i).f1.f5) ∧ w.cell? ⟨(ad.add (i.toNat * 17)).block, (ad.add (i.toNat * 17)).off + 12, none⟩ = some (.int .i64 (rd_T38 xs i).f1.f6) ∧ w.cell? ⟨(ad.add (i.toNat * 17)).block, (ad.add (i.toNat * 17)).off + 13, none⟩ = some (.int .i64 (rd_T38 xs i).f1.f7) ∧ w.cell? ⟨(ad.add (i.toNat * 17)).block, (ad.add (i.toNat * 17)).off + 14, none⟩ = some (.int .i64 (rd_T38 xs i).f2) ∧ w.cell? ⟨(ad.add (i.toNat * 17)).block, (ad.add (i.toNat * 17)).off + 15, none⟩ = some (.int .i64 (rd_T38 xs i).f3) ∧ w.cell? ⟨(ad.add (i.toNat * 17)).block, (ad.add (i.toNat * 17)).off + 16, none⟩ = some (.int .i64 (rd_T38 xs i).f4) := by
  obtain ⟨ad, c, e, _, hK, hc0⟩ := Kd.C_get h z38 i h0 h1
  have hc : ∀ j u, c[j]? = some u → w.cell? (ad.add (i.toNat * 17 + j)) = some u := hc0
  obtain rfl := k38_open hK
  exact ⟨ad, e, hc 0 _ rfl, by rw [← add_field _ _ 1 (by omega)]; exact hc 1 _ rfl, by rw [← add_field _ _ 2 (by omega)]; exact hc 2 _ rfl, by rw [← add_field _ _ 3 (by omega)]; exact hc 3 _ rfl, by rw [← add_field _ _ 4 (by omega)]; exact hc 4 _ rfl, by rw [← add_field _ _ 5 (by omega)]; exact hc 5 _ rfl, by rw [← add_field _ _ 6 (by omega)]; exact hc 6 _ rfl, by rw [← add_field _ _ 7 (by omega)]; exact hc 7 _ rfl, by rw [← add_field _ _ 8 (by omega)]; exact hc 8 _ rfl, by rw [← add_field _ _ 9 (by omega)]; exact hc 9 _ rfl, by rw [← add_field _ _ 10 (by omega)]; exact hc 10 _ rfl, by rw [← add_field _ _ 11 (by omega)]; exact hc 11 _ rfl, by rw [← add_field _ _ 12 (by omega)]; exact hc 12 _ rfl, by rw [← add_field _ _ 13 (by omega)]; exact hc 13 _ rfl, by rw [← add_field _ _ 14 (by omega)]; exact hc 14 _ rfl, by rw [← add_field _ _ 15 (by omega)]; exact hc 15 _ rfl, by rw [← add_field _ _ 16 (by omega)]; exact hc 16 _ rfl⟩

def rd_L8 (xs : List (List S38)) (i : Int) : (List S38) := xs.getD i.toNat ([] : List S38)
theorem at_L8 {w : World} {A : Option Addr} {n : Nat} {xs : List (List S38)} (h : Kd.C (Kd.slice 38 k38) w A n xs) (i : Int) (h0 : 0 ≤ i) (h1 : i < n) : ∃ ad A0 c0, A = some ad ∧ w.cell? (ad.add i.toNat) = some (.slice A0 (rd_L8 xs i).length c0) ∧ (rd_L8 xs i).length ≤ c0 ∧ k38.C w A0 (rd_L8 xs i).length (rd_L8 xs i) := by
  obtain ⟨ad, c, e, _, hK, hc0⟩ := Kd.C_get h ([] : List S38) i h0 h1
  have hc : ∀ j u, c[j]? = some u → w.cell? (ad.add (i.toNat * 1 + j)) = some u := hc0
  obtain ⟨A0, c0, rfl, l0, g0⟩ := hK
  exact ⟨ad, A0, c0, e, by have hq := hc 0 _ rfl; rwa [Nat.mul_one, Nat.add_zero] at hq, l0, g0⟩

end Go.Proofs.Ytphonmldcbgklaa.P
