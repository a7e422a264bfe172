/- Contracts of Go functions and plain facts, of several texts, one behind the other; no condition. -/
import Derived.Test.YtnbomjfpnpmllaaProg
import Derived.Below
import Derived.Deep.Draws
import Derived.Deep.AppendLies
import Derived.Maps.AppendAt
import Derived.OwnWalk
import Derived.Laws.BytesArg
import Derived.Laws.MakeOwn
import Derived.Laws.OwnMore
import Derived.Deep.OwnRows
import Derived.Tactics
import Derived.Lib.ConvBytes
import Derived.Laws.Slices
import Derived.WalkKit
import Derived.KernelRfl
import Derived.RowKit3
import Derived.Deep.LoopGhost
import Derived.Deep.QuietTactic
import Derived.BigQuiet
import Derived.WideLaws
import Derived.Deep.DeepCutAuto
import Derived.Deep.CutBlock
import Derived.Deep.RegionHeld3
import Derived.Laws.Rows
import Derived.Lib.AppendStr
import Derived.ArgAppend
import Derived.Laws.IdiomCopy
import Derived.OrdersHeld
import Derived.Laws.BitsLemmas
import Derived.RowKit
import Derived.Test.YtnbomjfpnpmllaaWWords
import Derived.Test.YtnbomjfpnpmllaaWLast
import Derived.Test.YtnbomjfpnpmllaaWTab
import Derived.Test.YtnbomjfpnpmllaaWFour
import Derived.Test.YtnbomjfpnpmllaaWQPut
import Derived.Test.YtnbomjfpnpmllaaWApart
import Derived.Test.YtnbomjfpnpmllaaWArr
import Derived.Test.YtnbomjfpnpmllaaWZeros
import Derived.Test.YtnbomjfpnpmllaaWFoot
import Derived.Test.YtnbomjfpnpmllaaWKept
import Derived.Test.YtnbomjfpnpmllaaWShare
import Derived.Test.YtnbomjfpnpmllaaWN
import Derived.Test.YtnbomjfpnpmllaaWFootNe
import Derived.Test.YtnbomjfpnpmllaaWAt
import Derived.Test.YtnbomjfpnpmllaaWEqStruct
import Derived.Test.YtnbomjfpnpmllaaWRepsOne
import Derived.Test.YtnbomjfpnpmllaaWInv
import Derived.Test.YtnbomjfpnpmllaaWInvWords
import Derived.Test.YtnbomjfpnpmllaaWGuard
import Derived.Test.YtnbomjfpnpmllaaWNEv
import Derived.Test.YtnbomjfpnpmllaaWMore
import Derived.WalkSpells
import Derived.Laws.CopyOwn
section
namespace Go.Proofs.Ytnbomjfpnpmllaa.Q
open Go.RowKit Go.Proofs.YtnbomjfpnpmllaaW.PrintWords Go.Proofs.YtnbomjfpnpmllaaW.PrintLast Go.Proofs.YtnbomjfpnpmllaaW.PrintMore
set_option linter.unusedVariables false
set_option linter.unusedSimpArgs false

def errW : Option Int → Value
  | none => .nilIface
  | some c => .iface 0 (.int .i64 c)
theorem errW_none : errW none = .nilIface := rfl
theorem errW_some (c : Int) : errW (some c) = .iface 0 (.int .i64 c) := rfl

theorem info5 : (Try.prog.info? 5).map (fun i => (i.zero, i.size, i.bytes)) = some (some (.int .u8 0), 1, 1) := by kernel_rfl
theorem info22 : (Try.prog.info? 22).map (fun i => (i.zero, i.size, i.bytes)) = some (some (.int .u32 0), 1, 4) := by kernel_rfl
theorem info80 : (Try.prog.info? 80).map (fun i => (i.zero, i.size, i.bytes)) = some (some (.agg #[(.int .i64 0), (.int .i64 0), (.int .i64 0)]), 3, 24) := by kernel_rfl
-- the values' own types
/-! #### struct type 7 -/
structure S7 where
  f0 : Int
  f1 : Int
  f2 : Bool
  f3 : Int
def z7 : S7 := ⟨(0 : Int), (0 : Int), false, (0 : Int)⟩
def k7 : Kd S7 := Kd.iso (Kd.pair (Kd.int .i64) (Kd.pair (Kd.int .i64) (Kd.pair Kd.bool (Kd.int .u8)))) (fun x : S7 => (x.f0, x.f1, x.f2, x.f3))
theorem k7_heap : Kd.Heap k7 := Kd.heap_iso _ (Kd.heap_pair (Kd.heap_int .i64) (Kd.heap_pair (Kd.heap_int .i64) (Kd.heap_pair Kd.heap_bool (Kd.heap_int .u8))))
theorem k7_open {w : World} {x : S7} {cs : List Value} (h : k7.K w x cs) : cs = [.int .i64 x.f0, .int .i64 x.f1, .bool x.f2, .int .u8 x.f3] := by
  obtain ⟨_, _, rfl, rfl, ⟨_, _, rfl, rfl, ⟨_, _, rfl, rfl, rfl⟩⟩⟩ := h
  exact rfl
theorem k7_openM {w : World} {base : Nat} {ok : Nat → Prop} {x : S7} {cs : List Value} (h : k7.M w base ok x cs) : cs = [.int .i64 x.f0, .int .i64 x.f1, .bool x.f2, .int .u8 x.f3] := by
  obtain ⟨_, _, rfl, rfl, ⟨_, _, rfl, rfl, ⟨_, _, rfl, rfl, rfl⟩⟩⟩ := h
  exact rfl
theorem k7_mk (w : World) (x : S7)  : k7.K w x [.int .i64 x.f0, .int .i64 x.f1, .bool x.f2, .int .u8 x.f3] := ⟨[.int .i64 x.f0], [.int .i64 x.f1, .bool x.f2, .int .u8 x.f3], rfl, rfl, ⟨[.int .i64 x.f1], [.bool x.f2, .int .u8 x.f3], rfl, rfl, ⟨[.bool x.f2], [.int .u8 x.f3], rfl, rfl, rfl⟩⟩⟩
theorem k7_mkM (w : World) (base : Nat) (ok : Nat → Prop) (x : S7)  : k7.M w base ok x [.int .i64 x.f0, .int .i64 x.f1, .bool x.f2, .int .u8 x.f3] := ⟨[.int .i64 x.f0], [.int .i64 x.f1, .bool x.f2, .int .u8 x.f3], rfl, rfl, ⟨[.int .i64 x.f1], [.bool x.f2, .int .u8 x.f3], rfl, rfl, ⟨[.bool x.f2], [.int .u8 x.f3], rfl, rfl, rfl⟩⟩⟩
theorem k7_mkF (W : World) (ok : Nat → Prop) (x : S7) : Kd.FK k7 W ok x [.int .i64 x.f0, .int .i64 x.f1, .bool x.f2, .int .u8 x.f3] := fun W2 _ => k7_mk W2 x
def rd_T7 (xs : List S7) (i : Int) : S7 := xs.getD i.toNat z7
theorem at_T7 {w : World} {A : Option Addr} {n : Nat} {xs : List S7} (h : Kd.C k7 w A n xs) (i : Int) (h0 : 0 ≤ i) (h1 : i < n) : ∃ ad , A = some ad ∧ w.cell? (ad.add (i.toNat * 4)) = some (.int .i64 (rd_T7 xs i).f0) ∧ w.cell? ⟨(ad.add (i.toNat * 4)).block, (ad.add (i.toNat * 4)).off + 1, none⟩ = some (.int .i64 (rd_T7 xs i).f1) ∧ w.cell? ⟨(ad.add (i.toNat * 4)).block, (ad.add (i.toNat * 4)).off + 2, none⟩ = some (.bool (rd_T7 xs i).f2) ∧ w.cell? ⟨(ad.add (i.toNat * 4)).block, (ad.add (i.toNat * 4)).off + 3, none⟩ = some (.int .u8 (rd_T7 xs i).f3) := by
  obtain ⟨ad, c, e, _, hK, hc0⟩ := Kd.C_get h z7 i h0 h1
  have hc : ∀ j u, c[j]? = some u → w.cell? (ad.add (i.toNat * 4 + j)) = some u := hc0
  obtain rfl := k7_open hK
  exact ⟨ad, e, hc 0 _ rfl, by rw [← add_field _ _ 1 (by omega)]; exact hc 1 _ rfl, by rw [← add_field _ _ 2 (by omega)]; exact hc 2 _ rfl, by rw [← add_field _ _ 3 (by omega)]; exact hc 3 _ rfl⟩

/-! #### struct type 8 -/
structure S8 where
  f0 : Int
  f1 : Int
  f2 : Bool
  f3 : Int
def z8 : S8 := ⟨(0 : Int), (0 : Int), false, (0 : Int)⟩
def k8 : Kd S8 := Kd.iso (Kd.pair (Kd.int .i64) (Kd.pair (Kd.int .i64) (Kd.pair Kd.bool (Kd.int .u8)))) (fun x : S8 => (x.f0, x.f1, x.f2, x.f3))
theorem k8_heap : Kd.Heap k8 := Kd.heap_iso _ (Kd.heap_pair (Kd.heap_int .i64) (Kd.heap_pair (Kd.heap_int .i64) (Kd.heap_pair Kd.heap_bool (Kd.heap_int .u8))))
theorem k8_open {w : World} {x : S8} {cs : List Value} (h : k8.K w x cs) : cs = [.int .i64 x.f0, .int .i64 x.f1, .bool x.f2, .int .u8 x.f3] := by
  obtain ⟨_, _, rfl, rfl, ⟨_, _, rfl, rfl, ⟨_, _, rfl, rfl, rfl⟩⟩⟩ := h
  exact rfl
theorem k8_openM {w : World} {base : Nat} {ok : Nat → Prop} {x : S8} {cs : List Value} (h : k8.M w base ok x cs) : cs = [.int .i64 x.f0, .int .i64 x.f1, .bool x.f2, .int .u8 x.f3] := by
  obtain ⟨_, _, rfl, rfl, ⟨_, _, rfl, rfl, ⟨_, _, rfl, rfl, rfl⟩⟩⟩ := h
  exact rfl
theorem k8_mk (w : World) (x : S8)  : k8.K w x [.int .i64 x.f0, .int .i64 x.f1, .bool x.f2, .int .u8 x.f3] := ⟨[.int .i64 x.f0], [.int .i64 x.f1, .bool x.f2, .int .u8 x.f3], rfl, rfl, ⟨[.int .i64 x.f1], [.bool x.f2, .int .u8 x.f3], rfl, rfl, ⟨[.bool x.f2], [.int .u8 x.f3], rfl, rfl, rfl⟩⟩⟩
theorem k8_mkM (w : World) (base : Nat) (ok : Nat → Prop) (x : S8)  : k8.M w base ok x [.int .i64 x.f0, .int .i64 x.f1, .bool x.f2, .int .u8 x.f3] := ⟨[.int .i64 x.f0], [.int .i64 x.f1, .bool x.f2, .int .u8 x.f3], rfl, rfl, ⟨[.int .i64 x.f1], [.bool x.f2, .int .u8 x.f3], rfl, rfl, ⟨[.bool x.f2], [.int .u8 x.f3], rfl, rfl, rfl⟩⟩⟩
theorem k8_mkF (W : World) (ok : Nat → Prop) (x : S8) : Kd.FK k8 W ok x [.int .i64 x.f0, .int .i64 x.f1, .bool x.f2, .int .u8 x.f3] := fun W2 _ => k8_mk W2 x
def rd_T8 (xs : List S8) (i : Int) : S8 := xs.getD i.toNat z8
theorem at_T8 {w : World} {A : Option Addr} {n : Nat} {xs : List S8} (h : Kd.C k8 w A n xs) (i : Int) (h0 : 0 ≤ i) (h1 : i < n) : ∃ ad , A = some ad ∧ w.cell? (ad.add (i.toNat * 4)) = some (.int .i64 (rd_T8 xs i).f0) ∧ w.cell? ⟨(ad.add (i.toNat * 4)).block, (ad.add (i.toNat * 4)).off + 1, none⟩ = some (.int .i64 (rd_T8 xs i).f1) ∧ w.cell? ⟨(ad.add (i.toNat * 4)).block, (ad.add (i.toNat * 4)).off + 2, none⟩ = some (.bool (rd_T8 xs i).f2) ∧ w.cell? ⟨(ad.add (i.toNat * 4)).block, (ad.add (i.toNat * 4)).off + 3, none⟩ = some (.int .u8 (rd_T8 xs i).f3) := by
  obtain ⟨ad, c, e, _, hK, hc0⟩ := Kd.C_get h z8 i h0 h1
  have hc : ∀ j u, c[j]? = some u → w.cell? (ad.add (i.toNat * 4 + j)) = some u := hc0
  obtain rfl := k8_open hK
  exact ⟨ad, e, hc 0 _ rfl, by rw [← add_field _ _ 1 (by omega)]; exact hc 1 _ rfl, by rw [← add_field _ _ 2 (by omega)]; exact hc 2 _ rfl, by rw [← add_field _ _ 3 (by omega)]; exact hc 3 _ rfl⟩

/-! #### struct type 13 -/
structure S13 where
  f0 : ByteArray
  f1 : Int
def z13 : S13 := ⟨(⟨#[]⟩ : ByteArray), (0 : Int)⟩
def k13 : Kd S13 := Kd.iso (Kd.pair Kd.string (Kd.int .u64)) (fun x : S13 => (x.f0, x.f1))
theorem k13_heap : Kd.Heap k13 := Kd.heap_iso _ (Kd.heap_pair Kd.heap_string (Kd.heap_int .u64))
theorem k13_open {w : World} {x : S13} {cs : List Value} (h : k13.K w x cs) : cs = [.string x.f0, .int .u64 x.f1] := by
  obtain ⟨_, _, rfl, rfl, rfl⟩ := h
  exact rfl
theorem k13_openM {w : World} {base : Nat} {ok : Nat → Prop} {x : S13} {cs : List Value} (h : k13.M w base ok x cs) : cs = [.string x.f0, .int .u64 x.f1] := by
  obtain ⟨_, _, rfl, rfl, rfl⟩ := h
  exact rfl
theorem k13_mk (w : World) (x : S13)  : k13.K w x [.string x.f0, .int .u64 x.f1] := ⟨[.string x.f0], [.int .u64 x.f1], rfl, rfl, rfl⟩
theorem k13_mkM (w : World) (base : Nat) (ok : Nat → Prop) (x : S13)  : k13.M w base ok x [.string x.f0, .int .u64 x.f1] := ⟨[.string x.f0], [.int .u64 x.f1], rfl, rfl, rfl⟩
theorem k13_mkF (W : World) (ok : Nat → Prop) (x : S13) : Kd.FK k13 W ok x [.string x.f0, .int .u64 x.f1] := fun W2 _ => k13_mk W2 x
def rd_T13 (xs : List S13) (i : Int) : S13 := xs.getD i.toNat z13
theorem at_T13 {w : World} {A : Option Addr} {n : Nat} {xs : List S13} (h : Kd.C k13 w A n xs) (i : Int) (h0 : 0 ≤ i) (h1 : i < n) : ∃ ad , A = some ad ∧ w.cell? (ad.add (i.toNat * 2)) = some (.string (rd_T13 xs i).f0) ∧ w.cell? ⟨(ad.add (i.toNat * 2)).block, (ad.add (i.toNat * 2)).off + 1, none⟩ = some (.int .u64 (rd_T13 xs i).f1) := by
  obtain ⟨ad, c, e, _, hK, hc0⟩ := Kd.C_get h z13 i h0 h1
  have hc : ∀ j u, c[j]? = some u → w.cell? (ad.add (i.toNat * 2 + j)) = some u := hc0
  obtain rfl := k13_open hK
  exact ⟨ad, e, hc 0 _ rfl, by rw [← add_field _ _ 1 (by omega)]; exact hc 1 _ rfl⟩

/-! #### struct type 14 -/
structure S14 where
  f0 : ByteArray
  f1 : Int
def z14 : S14 := ⟨(⟨#[]⟩ : ByteArray), (0 : Int)⟩
def k14 : Kd S14 := Kd.iso (Kd.pair Kd.string (Kd.int .u64)) (fun x : S14 => (x.f0, x.f1))
theorem k14_heap : Kd.Heap k14 := Kd.heap_iso _ (Kd.heap_pair Kd.heap_string (Kd.heap_int .u64))
theorem k14_open {w : World} {x : S14} {cs : List Value} (h : k14.K w x cs) : cs = [.string x.f0, .int .u64 x.f1] := by
  obtain ⟨_, _, rfl, rfl, rfl⟩ := h
  exact rfl
theorem k14_openM {w : World} {base : Nat} {ok : Nat → Prop} {x : S14} {cs : List Value} (h : k14.M w base ok x cs) : cs = [.string x.f0, .int .u64 x.f1] := by
  obtain ⟨_, _, rfl, rfl, rfl⟩ := h
  exact rfl
theorem k14_mk (w : World) (x : S14)  : k14.K w x [.string x.f0, .int .u64 x.f1] := ⟨[.string x.f0], [.int .u64 x.f1], rfl, rfl, rfl⟩
theorem k14_mkM (w : World) (base : Nat) (ok : Nat → Prop) (x : S14)  : k14.M w base ok x [.string x.f0, .int .u64 x.f1] := ⟨[.string x.f0], [.int .u64 x.f1], rfl, rfl, rfl⟩
theorem k14_mkF (W : World) (ok : Nat → Prop) (x : S14) : Kd.FK k14 W ok x [.string x.f0, .int .u64 x.f1] := fun W2 _ => k14_mk W2 x
def rd_T14 (xs : List S14) (i : Int) : S14 := xs.getD i.toNat z14
theorem at_T14 {w : World} {A : Option Addr} {n : Nat} {xs : List S14} (h : Kd.C k14 w A n xs) (i : Int) (h0 : 0 ≤ i) (h1 : i < n) : ∃ ad , A = some ad ∧ w.cell? (ad.add (i.toNat * 2)) = some (.string (rd_T14 xs i).f0) ∧ w.cell? ⟨(ad.add (i.toNat * 2)).block, (ad.add (i.toNat * 2)).off + 1, none⟩ = some (.int .u64 (rd_T14 xs i).f1) := by
  obtain ⟨ad, c, e, _, hK, hc0⟩ := Kd.C_get h z14 i h0 h1
  have hc : ∀ j u, c[j]? = some u → w.cell? (ad.add (i.toNat * 2 + j)) = some u := hc0
  obtain rfl := k14_open hK
  exact ⟨ad, e, hc 0 _ rfl, by rw [← add_field _ _ 1 (by omega)]; exact hc 1 _ rfl⟩

/-! #### struct type 23 -/
structure S23 where
  f0 : Int
  f1 : Int
def z23 : S23 := ⟨(0 : Int), (0 : Int)⟩
def k23 : Kd S23 := Kd.iso (Kd.pair (Kd.int .u32) (Kd.int .u32)) (fun x : S23 => (x.f0, x.f1))
theorem k23_heap : Kd.Heap k23 := Kd.heap_iso _ (Kd.heap_pair (Kd.heap_int .u32) (Kd.heap_int .u32))
theorem k23_open {w : World} {x : S23} {cs : List Value} (h : k23.K w x cs) : cs = [.int .u32 x.f0, .int .u32 x.f1] := by
  obtain ⟨_, _, rfl, rfl, rfl⟩ := h
  exact rfl
theorem k23_openM {w : World} {base : Nat} {ok : Nat → Prop} {x : S23} {cs : List Value} (h : k23.M w base ok x cs) : cs = [.int .u32 x.f0, .int .u32 x.f1] := by
  obtain ⟨_, _, rfl, rfl, rfl⟩ := h
  exact rfl
theorem k23_mk (w : World) (x : S23)  : k23.K w x [.int .u32 x.f0, .int .u32 x.f1] := ⟨[.int .u32 x.f0], [.int .u32 x.f1], rfl, rfl, rfl⟩
theorem k23_mkM (w : World) (base : Nat) (ok : Nat → Prop) (x : S23)  : k23.M w base ok x [.int .u32 x.f0, .int .u32 x.f1] := ⟨[.int .u32 x.f0], [.int .u32 x.f1], rfl, rfl, rfl⟩
theorem k23_mkF (W : World) (ok : Nat → Prop) (x : S23) : Kd.FK k23 W ok x [.int .u32 x.f0, .int .u32 x.f1] := fun W2 _ => k23_mk W2 x
def rd_T23 (xs : List S23) (i : Int) : S23 := xs.getD i.toNat z23
theorem at_T23 {w : World} {A : Option Addr} {n : Nat} {xs : List S23} (h : Kd.C k23 w A n xs) (i : Int) (h0 : 0 ≤ i) (h1 : i < n) : ∃ ad , A = some ad ∧ w.cell? (ad.add (i.toNat * 2)) = some (.int .u32 (rd_T23 xs i).f0) ∧ w.cell? ⟨(ad.add (i.toNat * 2)).block, (ad.add (i.toNat * 2)).off + 1, none⟩ = some (.int .u32 (rd_T23 xs i).f1) := by
  obtain ⟨ad, c, e, _, hK, hc0⟩ := Kd.C_get h z23 i h0 h1
  have hc : ∀ j u, c[j]? = some u → w.cell? (ad.add (i.toNat * 2 + j)) = some u := hc0
  obtain rfl := k23_open hK
  exact ⟨ad, e, hc 0 _ rfl, by rw [← add_field _ _ 1 (by omega)]; exact hc 1 _ rfl⟩

/-! #### struct type 24 -/
structure S24 where
  f0 : Int
  f1 : Int
def z24 : S24 := ⟨(0 : Int), (0 : Int)⟩
def k24 : Kd S24 := Kd.iso (Kd.pair (Kd.int .u32) (Kd.int .u32)) (fun x : S24 => (x.f0, x.f1))
theorem k24_heap : Kd.Heap k24 := Kd.heap_iso _ (Kd.heap_pair (Kd.heap_int .u32) (Kd.heap_int .u32))
theorem k24_open {w : World} {x : S24} {cs : List Value} (h : k24.K w x cs) : cs = [.int .u32 x.f0, .int .u32 x.f1] := by
  obtain ⟨_, _, rfl, rfl, rfl⟩ := h
  exact rfl
theorem k24_openM {w : World} {base : Nat} {ok : Nat → Prop} {x : S24} {cs : List Value} (h : k24.M w base ok x cs) : cs = [.int .u32 x.f0, .int .u32 x.f1] := by
  obtain ⟨_, _, rfl, rfl, rfl⟩ := h
  exact rfl
theorem k24_mk (w : World) (x : S24)  : k24.K w x [.int .u32 x.f0, .int .u32 x.f1] := ⟨[.int .u32 x.f0], [.int .u32 x.f1], rfl, rfl, rfl⟩
theorem k24_mkM (w : World) (base : Nat) (ok : Nat → Prop) (x : S24)  : k24.M w base ok x [.int .u32 x.f0, .int .u32 x.f1] := ⟨[.int .u32 x.f0], [.int .u32 x.f1], rfl, rfl, rfl⟩
theorem k24_mkF (W : World) (ok : Nat → Prop) (x : S24) : Kd.FK k24 W ok x [.int .u32 x.f0, .int .u32 x.f1] := fun W2 _ => k24_mk W2 x
def rd_T24 (xs : List S24) (i : Int) : S24 := xs.getD i.toNat z24
theorem at_T24 {w : World} {A : Option Addr} {n : Nat} {xs : List S24} (h : Kd.C k24 w A n xs) (i : Int) (h0 : 0 ≤ i) (h1 : i < n) : ∃ ad , A = some ad ∧ w.cell? (ad.add (i.toNat * 2)) = some (.int .u32 (rd_T24 xs i).f0) ∧ w.cell? ⟨(ad.add (i.toNat * 2)).block, (ad.add (i.toNat * 2)).off + 1, none⟩ = some (.int .u32 (rd_T24 xs i).f1) := by
  obtain ⟨ad, c, e, _, hK, hc0⟩ := Kd.C_get h z24 i h0 h1
  have hc : ∀ j u, c[j]? = some u → w.cell? (ad.add (i.toNat * 2 + j)) = some u := hc0
  obtain rfl := k24_open hK
  exact ⟨ad, e, hc 0 _ rfl, by rw [← add_field _ _ 1 (by omega)]; exact hc 1 _ rfl⟩

def rd_L13 (xs : List (List Int)) (i : Int) : (List Int) := xs.getD i.toNat ([] : List Int)
theorem at_L13 {w : World} {A : Option Addr} {n : Nat} {xs : List (List Int)} (h : Kd.C (Kd.slice 5 (Kd.int .u8)) w A n xs) (i : Int) (h0 : 0 ≤ i) (h1 : i < n) : ∃ ad A0 c0, A = some ad ∧ w.cell? (ad.add i.toNat) = some (.slice A0 (rd_L13 xs i).length c0) ∧ (rd_L13 xs i).length ≤ c0 ∧ (Kd.int .u8).C w A0 (rd_L13 xs i).length (rd_L13 xs i) := by
  obtain ⟨ad, c, e, _, hK, hc0⟩ := Kd.C_get h ([] : List Int) i h0 h1
  have hc : ∀ j u, c[j]? = some u → w.cell? (ad.add (i.toNat * 1 + j)) = some u := hc0
  obtain ⟨A0, c0, rfl, l0, g0⟩ := hK
  exact ⟨ad, A0, c0, e, by have hq := hc 0 _ rfl; rwa [Nat.mul_one, Nat.add_zero] at hq, l0, g0⟩

/-! #### struct type 40 -/
structure S40 where
  f0 : ByteArray
  f1 : Int
  f2 : Int
def z40 : S40 := ⟨(⟨#[]⟩ : ByteArray), (0 : Int), (0 : Int)⟩
def k40 : Kd S40 := Kd.iso (Kd.pair Kd.string (Kd.pair (Kd.int .i64) (Kd.int .i64))) (fun x : S40 => (x.f0, x.f1, x.f2))
theorem k40_heap : Kd.Heap k40 := Kd.heap_iso _ (Kd.heap_pair Kd.heap_string (Kd.heap_pair (Kd.heap_int .i64) (Kd.heap_int .i64)))
theorem k40_open {w : World} {x : S40} {cs : List Value} (h : k40.K w x cs) : cs = [.string x.f0, .int .i64 x.f1, .int .i64 x.f2] := by
  obtain ⟨_, _, rfl, rfl, ⟨_, _, rfl, rfl, rfl⟩⟩ := h
  exact rfl
theorem k40_openM {w : World} {base : Nat} {ok : Nat → Prop} {x : S40} {cs : List Value} (h : k40.M w base ok x cs) : cs = [.string x.f0, .int .i64 x.f1, .int .i64 x.f2] := by
  obtain ⟨_, _, rfl, rfl, ⟨_, _, rfl, rfl, rfl⟩⟩ := h
  exact rfl
theorem k40_mk (w : World) (x : S40)  : k40.K w x [.string x.f0, .int .i64 x.f1, .int .i64 x.f2] := ⟨[.string x.f0], [.int .i64 x.f1, .int .i64 x.f2], rfl, rfl, ⟨[.int .i64 x.f1], [.int .i64 x.f2], rfl, rfl, rfl⟩⟩
theorem k40_mkM (w : World) (base : Nat) (ok : Nat → Prop) (x : S40)  : k40.M w base ok x [.string x.f0, .int .i64 x.f1, .int .i64 x.f2] := ⟨[.string x.f0], [.int .i64 x.f1, .int .i64 x.f2], rfl, rfl, ⟨[.int .i64 x.f1], [.int .i64 x.f2], rfl, rfl, rfl⟩⟩
theorem k40_mkF (W : World) (ok : Nat → Prop) (x : S40) : Kd.FK k40 W ok x [.string x.f0, .int .i64 x.f1, .int .i64 x.f2] := fun W2 _ => k40_mk W2 x
def rd_T40 (xs : List S40) (i : Int) : S40 := xs.getD i.toNat z40
theorem at_T40 {w : World} {A : Option Addr} {n : Nat} {xs : List S40} (h : Kd.C k40 w A n xs) (i : Int) (h0 : 0 ≤ i) (h1 : i < n) : ∃ ad , A = some ad ∧ w.cell? (ad.add (i.toNat * 3)) = some (.string (rd_T40 xs i).f0) ∧ w.cell? ⟨(ad.add (i.toNat * 3)).block, (ad.add (i.toNat * 3)).off + 1, none⟩ = some (.int .i64 (rd_T40 xs i).f1) ∧ w.cell? ⟨(ad.add (i.toNat * 3)).block, (ad.add (i.toNat * 3)).off + 2, none⟩ = some (.int .i64 (rd_T40 xs i).f2) := by
  obtain ⟨ad, c, e, _, hK, hc0⟩ := Kd.C_get h z40 i h0 h1
  have hc : ∀ j u, c[j]? = some u → w.cell? (ad.add (i.toNat * 3 + j)) = some u := hc0
  obtain rfl := k40_open hK
  exact ⟨ad, e, hc 0 _ rfl, by rw [← add_field _ _ 1 (by omega)]; exact hc 1 _ rfl, by rw [← add_field _ _ 2 (by omega)]; exact hc 2 _ rfl⟩

/-! #### struct type 41 -/
structure S41 where
  f0 : ByteArray
  f1 : Int
  f2 : Int
def z41 : S41 := ⟨(⟨#[]⟩ : ByteArray), (0 : Int), (0 : Int)⟩
def k41 : Kd S41 := Kd.iso (Kd.pair Kd.string (Kd.pair (Kd.int .i64) (Kd.int .i64))) (fun x : S41 => (x.f0, x.f1, x.f2))
theorem k41_heap : Kd.Heap k41 := Kd.heap_iso _ (Kd.heap_pair Kd.heap_string (Kd.heap_pair (Kd.heap_int .i64) (Kd.heap_int .i64)))
theorem k41_open {w : World} {x : S41} {cs : List Value} (h : k41.K w x cs) : cs = [.string x.f0, .int .i64 x.f1, .int .i64 x.f2] := by
  obtain ⟨_, _, rfl, rfl, ⟨_, _, rfl, rfl, rfl⟩⟩ := h
  exact rfl
theorem k41_openM {w : World} {base : Nat} {ok : Nat → Prop} {x : S41} {cs : List Value} (h : k41.M w base ok x cs) : cs = [.string x.f0, .int .i64 x.f1, .int .i64 x.f2] := by
  obtain ⟨_, _, rfl, rfl, ⟨_, _, rfl, rfl, rfl⟩⟩ := h
  exact rfl
theorem k41_mk (w : World) (x : S41)  : k41.K w x [.string x.f0, .int .i64 x.f1, .int .i64 x.f2] := ⟨[.string x.f0], [.int .i64 x.f1, .int .i64 x.f2], rfl, rfl, ⟨[.int .i64 x.f1], [.int .i64 x.f2], rfl, rfl, rfl⟩⟩
theorem k41_mkM (w : World) (base : Nat) (ok : Nat → Prop) (x : S41)  : k41.M w base ok x [.string x.f0, .int .i64 x.f1, .int .i64 x.f2] := ⟨[.string x.f0], [.int .i64 x.f1, .int .i64 x.f2], rfl, rfl, ⟨[.int .i64 x.f1], [.int .i64 x.f2], rfl, rfl, rfl⟩⟩
theorem k41_mkF (W : World) (ok : Nat → Prop) (x : S41) : Kd.FK k41 W ok x [.string x.f0, .int .i64 x.f1, .int .i64 x.f2] := fun W2 _ => k41_mk W2 x
def rd_T41 (xs : List S41) (i : Int) : S41 := xs.getD i.toNat z41
theorem at_T41 {w : World} {A : Option Addr} {n : Nat} {xs : List S41} (h : Kd.C k41 w A n xs) (i : Int) (h0 : 0 ≤ i) (h1 : i < n) : ∃ ad , A = some ad ∧ w.cell? (ad.add (i.toNat * 3)) = some (.string (rd_T41 xs i).f0) ∧ w.cell? ⟨(ad.add (i.toNat * 3)).block, (ad.add (i.toNat * 3)).off + 1, none⟩ = some (.int .i64 (rd_T41 xs i).f1) ∧ w.cell? ⟨(ad.add (i.toNat * 3)).block, (ad.add (i.toNat * 3)).off + 2, none⟩ = some (.int .i64 (rd_T41 xs i).f2) := by
  obtain ⟨ad, c, e, _, hK, hc0⟩ := Kd.C_get h z41 i h0 h1
  have hc : ∀ j u, c[j]? = some u → w.cell? (ad.add (i.toNat * 3 + j)) = some u := hc0
  obtain rfl := k41_open hK
  exact ⟨ad, e, hc 0 _ rfl, by rw [← add_field _ _ 1 (by omega)]; exact hc 1 _ rfl, by rw [← add_field _ _ 2 (by omega)]; exact hc 2 _ rfl⟩

/-! #### struct type 49 -/
structure S49 where
  f0 : S41
  f1 : S41
def z49 : S49 := ⟨z41, z41⟩
def k49 : Kd S49 := Kd.iso (Kd.pair k41 k41) (fun x : S49 => (x.f0, x.f1))
theorem k49_heap : Kd.Heap k49 := Kd.heap_iso _ (Kd.heap_pair k41_heap k41_heap)
theorem k49_open {w : World} {x : S49} {cs : List Value} (h : k49.K w x cs) : cs = [.string x.f0.f0, .int .i64 x.f0.f1, .int .i64 x.f0.f2, .string x.f1.f0, .int .i64 x.f1.f1, .int .i64 x.f1.f2] := by
  obtain ⟨_, _, rfl, s0, s3⟩ := h
  obtain rfl := k41_open s0
  obtain rfl := k41_open s3
  exact rfl
theorem k49_openM {w : World} {base : Nat} {ok : Nat → Prop} {x : S49} {cs : List Value} (h : k49.M w base ok x cs) : cs = [.string x.f0.f0, .int .i64 x.f0.f1, .int .i64 x.f0.f2, .string x.f1.f0, .int .i64 x.f1.f1, .int .i64 x.f1.f2] := by
  obtain ⟨_, _, rfl, s0, s3⟩ := h
  obtain rfl := k41_openM s0
  obtain rfl := k41_openM s3
  exact rfl
theorem k49_mk (w : World) (x : S49)  : k49.K w x [.string x.f0.f0, .int .i64 x.f0.f1, .int .i64 x.f0.f2, .string x.f1.f0, .int .i64 x.f1.f1, .int .i64 x.f1.f2] := ⟨[.string x.f0.f0, .int .i64 x.f0.f1, .int .i64 x.f0.f2], [.string x.f1.f0, .int .i64 x.f1.f1, .int .i64 x.f1.f2], rfl, (k41_mk w x.f0 ), (k41_mk w x.f1 )⟩
theorem k49_mkM (w : World) (base : Nat) (ok : Nat → Prop) (x : S49)  : k49.M w base ok x [.string x.f0.f0, .int .i64 x.f0.f1, .int .i64 x.f0.f2, .string x.f1.f0, .int .i64 x.f1.f1, .int .i64 x.f1.f2] := ⟨[.string x.f0.f0, .int .i64 x.f0.f1, .int .i64 x.f0.f2], [.string x.f1.f0, .int .i64 x.f1.f1, .int .i64 x.f1.f2], rfl, (k41_mkM w base ok x.f0 ), (k41_mkM w base ok x.f1 )⟩
theorem k49_mkF (W : World) (ok : Nat → Prop) (x : S49) : Kd.FK k49 W ok x [.string x.f0.f0, .int .i64 x.f0.f1, .int .i64 x.f0.f2, .string x.f1.f0, .int .i64 x.f1.f1, .int .i64 x.f1.f2] := fun W2 _ => k49_mk W2 x
def rd_T49 (xs : List S49) (i : Int) : S49 := xs.getD i.toNat z49
theorem at_T49 {w : World} {A : Option Addr} {n : Nat} {xs : List S49} (h : Kd.C k49 w A n xs) (i : Int) (h0 : 0 ≤ i) (h1 : i < n) : ∃ ad , A = some ad ∧ w.cell? (ad.add (i.toNat * 6)) = some (.string (rd_T49 xs i).f0.f0) ∧ w.cell? ⟨(ad.add (i.toNat * 6)).block, (ad.add (i.toNat * 6)).off + 1, none⟩ = some (.int .i64 (rd_T49 xs i).f0.f1) ∧ w.cell? ⟨(ad.add (i.toNat * 6)).block, (ad.add (i.toNat * 6)).off + 2, none⟩ = some (.int .i64 (rd_T49 xs i).f0.f2) ∧ w.cell? ⟨(ad.add (i.toNat * 6)).block, (ad.add (i.toNat * 6)).off + 3, none⟩ = some (.string (rd_T49 xs i).f1.f0) ∧ w.cell? ⟨(ad.add (i.toNat * 6)).block, (ad.add (i.toNat * 6)).off + 4, none⟩ = some (.int .i64 (rd_T49 xs i).f1.f1) ∧ w.cell? ⟨(ad.add (i.toNat * 6)).block, (ad.add (i.toNat * 6)).off + 5, none⟩ = some (.int .i64 (rd_T49 xs i).f1.f2) := by
  obtain ⟨ad, c, e, _, hK, hc0⟩ := Kd.C_get h z49 i h0 h1
  have hc : ∀ j u, c[j]? = some u → w.cell? (ad.add (i.toNat * 6 + j)) = some u := hc0
  obtain rfl := k49_open hK
  exact ⟨ad, e, hc 0 _ rfl, by rw [← add_field _ _ 1 (by omega)]; exact hc 1 _ rfl, by rw [← add_field _ _ 2 (by omega)]; exact hc 2 _ rfl, by rw [← add_field _ _ 3 (by omega)]; exact hc 3 _ rfl, by rw [← add_field _ _ 4 (by omega)]; exact hc 4 _ rfl, by rw [← add_field _ _ 5 (by omega)]; exact hc 5 _ rfl⟩

/-! #### struct type 52 -/
structure S52 where
  f0 : Int
  f1 : Int
def z52 : S52 := ⟨(0 : Int), (0 : Int)⟩
def k52 : Kd S52 := Kd.iso (Kd.pair (Kd.int .u8) (Kd.int .u8)) (fun x : S52 => (x.f0, x.f1))
theorem k52_heap : Kd.Heap k52 := Kd.heap_iso _ (Kd.heap_pair (Kd.heap_int .u8) (Kd.heap_int .u8))
theorem k52_open {w : World} {x : S52} {cs : List Value} (h : k52.K w x cs) : cs = [.int .u8 x.f0, .int .u8 x.f1] := by
  obtain ⟨_, _, rfl, rfl, rfl⟩ := h
  exact rfl
theorem k52_openM {w : World} {base : Nat} {ok : Nat → Prop} {x : S52} {cs : List Value} (h : k52.M w base ok x cs) : cs = [.int .u8 x.f0, .int .u8 x.f1] := by
  obtain ⟨_, _, rfl, rfl, rfl⟩ := h
  exact rfl
theorem k52_mk (w : World) (x : S52)  : k52.K w x [.int .u8 x.f0, .int .u8 x.f1] := ⟨[.int .u8 x.f0], [.int .u8 x.f1], rfl, rfl, rfl⟩
theorem k52_mkM (w : World) (base : Nat) (ok : Nat → Prop) (x : S52)  : k52.M w base ok x [.int .u8 x.f0, .int .u8 x.f1] := ⟨[.int .u8 x.f0], [.int .u8 x.f1], rfl, rfl, rfl⟩
theorem k52_mkF (W : World) (ok : Nat → Prop) (x : S52) : Kd.FK k52 W ok x [.int .u8 x.f0, .int .u8 x.f1] := fun W2 _ => k52_mk W2 x
def rd_T52 (xs : List S52) (i : Int) : S52 := xs.getD i.toNat z52
theorem at_T52 {w : World} {A : Option Addr} {n : Nat} {xs : List S52} (h : Kd.C k52 w A n xs) (i : Int) (h0 : 0 ≤ i) (h1 : i < n) : ∃ ad , A = some ad ∧ w.cell? (ad.add (i.toNat * 2)) = some (.int .u8 (rd_T52 xs i).f0) ∧ w.cell? ⟨(ad.add (i.toNat * 2)).block, (ad.add (i.toNat * 2)).off + 1, none⟩ = some (.int .u8 (rd_T52 xs i).f1) := by
  obtain ⟨ad, c, e, _, hK, hc0⟩ := Kd.C_get h z52 i h0 h1
  have hc : ∀ j u, c[j]? = some u → w.cell? (ad.add (i.toNat * 2 + j)) = some u := hc0
  obtain rfl := k52_open hK
  exact ⟨ad, e, hc 0 _ rfl, by rw [← add_field _ _ 1 (by omega)]; exact hc 1 _ rfl⟩

def rd_L19 (xs : List (List Int)) (i : Int) : (List Int) := xs.getD i.toNat ([] : List Int)
theorem at_L19 {w : World} {A : Option Addr} {n : Nat} {xs : List (List Int)} (h : Kd.C (Kd.slice 22 (Kd.int .u32)) w A n xs) (i : Int) (h0 : 0 ≤ i) (h1 : i < n) : ∃ ad A0 c0, A = some ad ∧ w.cell? (ad.add i.toNat) = some (.slice A0 (rd_L19 xs i).length c0) ∧ (rd_L19 xs i).length ≤ c0 ∧ (Kd.int .u32).C w A0 (rd_L19 xs i).length (rd_L19 xs i) := by
  obtain ⟨ad, c, e, _, hK, hc0⟩ := Kd.C_get h ([] : List Int) i h0 h1
  have hc : ∀ j u, c[j]? = some u → w.cell? (ad.add (i.toNat * 1 + j)) = some u := hc0
  obtain ⟨A0, c0, rfl, l0, g0⟩ := hK
  exact ⟨ad, A0, c0, e, by have hq := hc 0 _ rfl; rwa [Nat.mul_one, Nat.add_zero] at hq, l0, g0⟩

/-! #### struct type 80 -/
structure S80 where
  f0 : Int
  f1 : Int
  f2 : Int
def z80 : S80 := ⟨(0 : Int), (0 : Int), (0 : Int)⟩
def k80 : Kd S80 := Kd.iso (Kd.pair (Kd.int .i64) (Kd.pair (Kd.int .i64) (Kd.int .i64))) (fun x : S80 => (x.f0, x.f1, x.f2))
theorem k80_heap : Kd.Heap k80 := Kd.heap_iso _ (Kd.heap_pair (Kd.heap_int .i64) (Kd.heap_pair (Kd.heap_int .i64) (Kd.heap_int .i64)))
theorem k80_open {w : World} {x : S80} {cs : List Value} (h : k80.K w x cs) : cs = [.int .i64 x.f0, .int .i64 x.f1, .int .i64 x.f2] := by
  obtain ⟨_, _, rfl, rfl, ⟨_, _, rfl, rfl, rfl⟩⟩ := h
  exact rfl
theorem k80_openM {w : World} {base : Nat} {ok : Nat → Prop} {x : S80} {cs : List Value} (h : k80.M w base ok x cs) : cs = [.int .i64 x.f0, .int .i64 x.f1, .int .i64 x.f2] := by
  obtain ⟨_, _, rfl, rfl, ⟨_, _, rfl, rfl, rfl⟩⟩ := h
  exact rfl
theorem k80_mk (w : World) (x : S80)  : k80.K w x [.int .i64 x.f0, .int .i64 x.f1, .int .i64 x.f2] := ⟨[.int .i64 x.f0], [.int .i64 x.f1, .int .i64 x.f2], rfl, rfl, ⟨[.int .i64 x.f1], [.int .i64 x.f2], rfl, rfl, rfl⟩⟩
theorem k80_mkM (w : World) (base : Nat) (ok : Nat → Prop) (x : S80)  : k80.M w base ok x [.int .i64 x.f0, .int .i64 x.f1, .int .i64 x.f2] := ⟨[.int .i64 x.f0], [.int .i64 x.f1, .int .i64 x.f2], rfl, rfl, ⟨[.int .i64 x.f1], [.int .i64 x.f2], rfl, rfl, rfl⟩⟩
theorem k80_mkF (W : World) (ok : Nat → Prop) (x : S80) : Kd.FK k80 W ok x [.int .i64 x.f0, .int .i64 x.f1, .int .i64 x.f2] := fun W2 _ => k80_mk W2 x
def rd_T80 (xs : List S80) (i : Int) : S80 := xs.getD i.toNat z80
theorem at_T80 {w : World} {A : Option Addr} {n : Nat} {xs : List S80} (h : Kd.C k80 w A n xs) (i : Int) (h0 : 0 ≤ i) (h1 : i < n) : ∃ ad , A = some ad ∧ w.cell? (ad.add (i.toNat * 3)) = some (.int .i64 (rd_T80 xs i).f0) ∧ w.cell? ⟨(ad.add (i.toNat * 3)).block, (ad.add (i.toNat * 3)).off + 1, none⟩ = some (.int .i64 (rd_T80 xs i).f1) ∧ w.cell? ⟨(ad.add (i.toNat * 3)).block, (ad.add (i.toNat * 3)).off + 2, none⟩ = some (.int .i64 (rd_T80 xs i).f2) := by
  obtain ⟨ad, c, e, _, hK, hc0⟩ := Kd.C_get h z80 i h0 h1
  have hc : ∀ j u, c[j]? = some u → w.cell? (ad.add (i.toNat * 3 + j)) = some u := hc0
  obtain rfl := k80_open hK
  exact ⟨ad, e, hc 0 _ rfl, by rw [← add_field _ _ 1 (by omega)]; exact hc 1 _ rfl, by rw [← add_field _ _ 2 (by omega)]; exact hc 2 _ rfl⟩

def rd_L21 (xs : List (List S80)) (i : Int) : (List S80) := xs.getD i.toNat ([] : List S80)
theorem at_L21 {w : World} {A : Option Addr} {n : Nat} {xs : List (List S80)} (h : Kd.C (Kd.slice 80 k80) w A n xs) (i : Int) (h0 : 0 ≤ i) (h1 : i < n) : ∃ ad A0 c0, A = some ad ∧ w.cell? (ad.add i.toNat) = some (.slice A0 (rd_L21 xs i).length c0) ∧ (rd_L21 xs i).length ≤ c0 ∧ k80.C w A0 (rd_L21 xs i).length (rd_L21 xs i) := by
  obtain ⟨ad, c, e, _, hK, hc0⟩ := Kd.C_get h ([] : List S80) i h0 h1
  have hc : ∀ j u, c[j]? = some u → w.cell? (ad.add (i.toNat * 1 + j)) = some u := hc0
  obtain ⟨A0, c0, rfl, l0, g0⟩ := hK
  exact ⟨ad, A0, c0, e, by have hq := hc 0 _ rfl; rwa [Nat.mul_one, Nat.add_zero] at hq, l0, g0⟩

/-! #### struct type 79 -/
structure S79 where
  f0 : Int
  f1 : Int
  f2 : Int
def z79 : S79 := ⟨(0 : Int), (0 : Int), (0 : Int)⟩
def k79 : Kd S79 := Kd.iso (Kd.pair (Kd.int .i64) (Kd.pair (Kd.int .i64) (Kd.int .i64))) (fun x : S79 => (x.f0, x.f1, x.f2))
theorem k79_heap : Kd.Heap k79 := Kd.heap_iso _ (Kd.heap_pair (Kd.heap_int .i64) (Kd.heap_pair (Kd.heap_int .i64) (Kd.heap_int .i64)))
theorem k79_open {w : World} {x : S79} {cs : List Value} (h : k79.K w x cs) : cs = [.int .i64 x.f0, .int .i64 x.f1, .int .i64 x.f2] := by
  obtain ⟨_, _, rfl, rfl, ⟨_, _, rfl, rfl, rfl⟩⟩ := h
  exact rfl
theorem k79_openM {w : World} {base : Nat} {ok : Nat → Prop} {x : S79} {cs : List Value} (h : k79.M w base ok x cs) : cs = [.int .i64 x.f0, .int .i64 x.f1, .int .i64 x.f2] := by
  obtain ⟨_, _, rfl, rfl, ⟨_, _, rfl, rfl, rfl⟩⟩ := h
  exact rfl
theorem k79_mk (w : World) (x : S79)  : k79.K w x [.int .i64 x.f0, .int .i64 x.f1, .int .i64 x.f2] := ⟨[.int .i64 x.f0], [.int .i64 x.f1, .int .i64 x.f2], rfl, rfl, ⟨[.int .i64 x.f1], [.int .i64 x.f2], rfl, rfl, rfl⟩⟩
theorem k79_mkM (w : World) (base : Nat) (ok : Nat → Prop) (x : S79)  : k79.M w base ok x [.int .i64 x.f0, .int .i64 x.f1, .int .i64 x.f2] := ⟨[.int .i64 x.f0], [.int .i64 x.f1, .int .i64 x.f2], rfl, rfl, ⟨[.int .i64 x.f1], [.int .i64 x.f2], rfl, rfl, rfl⟩⟩
theorem k79_mkF (W : World) (ok : Nat → Prop) (x : S79) : Kd.FK k79 W ok x [.int .i64 x.f0, .int .i64 x.f1, .int .i64 x.f2] := fun W2 _ => k79_mk W2 x
def rd_T79 (xs : List S79) (i : Int) : S79 := xs.getD i.toNat z79
theorem at_T79 {w : World} {A : Option Addr} {n : Nat} {xs : List S79} (h : Kd.C k79 w A n xs) (i : Int) (h0 : 0 ≤ i) (h1 : i < n) : ∃ ad , A = some ad ∧ w.cell? (ad.add (i.toNat * 3)) = some (.int .i64 (rd_T79 xs i).f0) ∧ w.cell? ⟨(ad.add (i.toNat * 3)).block, (ad.add (i.toNat * 3)).off + 1, none⟩ = some (.int .i64 (rd_T79 xs i).f1) ∧ w.cell? ⟨(ad.add (i.toNat * 3)).block, (ad.add (i.toNat * 3)).off + 2, none⟩ = some (.int .i64 (rd_T79 xs i).f2) := by
  obtain ⟨ad, c, e, _, hK, hc0⟩ := Kd.C_get h z79 i h0 h1
  have hc : ∀ j u, c[j]? = some u → w.cell? (ad.add (i.toNat * 3 + j)) = some u := hc0
  obtain rfl := k79_open hK
  exact ⟨ad, e, hc 0 _ rfl, by rw [← add_field _ _ 1 (by omega)]; exact hc 1 _ rfl, by rw [← add_field _ _ 2 (by omega)]; exact hc 2 _ rfl⟩

end Go.Proofs.Ytnbomjfpnpmllaa.Q
end
section
namespace Go.Proofs.Ytnbomjfpnpmllaa.Q
open Go.RowKit Go.Proofs.YtnbomjfpnpmllaaW.PrintWords Go.Proofs.YtnbomjfpnpmllaaW.PrintLast Go.Proofs.YtnbomjfpnpmllaaW.PrintMore
/-- A literal without elements is a row of the call's own. -/
theorem R_empty {α : Type} (d : Kd α) (e : Nat) (W : World) (base : Nat) (hb : base ≤ W.heap.size) : d.R e (W.alloc (.cells #[] e)) base (fun _ => True) (.slice (some ⟨W.heap.size, 0, none⟩) 0 0) [] :=
  ⟨fun _ _ => trivial, [], by have h := World.ownsRow_lit (base := base) (e := e) (size := d.sz) W #[] 0 hb (Nat.zero_le _) (by simp); simpa using h, Reps.none _ _⟩
theorem C_nil_eq {α : Type} {d : Kd α} {w : World} {n : Nat} {xs : List α} (h : d.C w none n xs) : xs = [] := by
  rcases Nat.eq_zero_or_pos n with h0 | h0
  · exact List.eq_nil_of_length_eq_zero (h.1.trans h0)
  · obtain ⟨ad, he, _⟩ := h.2.2 h0
    cases he
theorem cell_set3 {w : World} {g : Nat} {u : Value} (a b c : Value) (h : w.cell? ⟨g, 2, none⟩ = some u) : (((w.setCell ⟨g, 0, none⟩ a).setCell ⟨g, 1, none⟩ b).setCell ⟨g, 2, none⟩ c).cell? ⟨g, 2, none⟩ = some c := by
  have h1 : (w.setCell ⟨g, 0, none⟩ a).cell? ⟨g, 2, none⟩ = some u := by rw [World.cell?_setCell_other _ _ _ _ (by simp)]; exact h
  have h2 : ((w.setCell ⟨g, 0, none⟩ a).setCell ⟨g, 1, none⟩ b).cell? ⟨g, 2, none⟩ = some u := by rw [World.cell?_setCell_other _ _ _ _ (by simp)]; exact h1
  exact World.cell?_setCell_same _ _ _ h2
theorem Addr_add_zero (a : Addr) : a.add 0 = a := by
  cases a with | mk b o s => unfold Addr.add; split <;> simp_all
/-- Where a cut from 'lo' on begins. -/
def cutAt (A : Option Addr) (cap lo sz : Nat) : Option Addr := if cap = lo then A else A.map (·.add (lo * sz))
theorem cutAt_own {g cap lo sz : Nat} (h : lo < cap) : cutAt (some ⟨g, 0, none⟩) cap lo sz = some ⟨g, lo * sz, none⟩ := by
  unfold cutAt
  rw [if_neg (by omega)]
  simp [add_plain]
theorem sliced_eq (A : Option Addr) (lo hi cap s : Nat) : sliced A lo hi cap s = .slice (cutAt A cap lo s) (hi - lo) (cap - lo) := by
  simp [sliced, cutAt]
section
variable {P : Program} {t e : TypeId} {sz : Nat}
theorem run_size (hi : (P.info? e).map (·.size) = some sz) (W : World) : (sizeOf e).run P W = .ok sz W := by
  obtain ⟨i, h1, h2⟩ := Option.map_eq_some_iff.1 hi
  subst h2
  rw [run_sizeOf W h1]; simp [Program.cellsOf, h1]
theorem run_cut_lo (ht : P.underlying t = some (.slice e)) (hi : (P.info? e).map (·.size) = some sz) (A : Option Addr) (n c : Nat) (j : Int) (h0 : 0 ≤ j) (hm : j ≤ n) (W : World) :
    (Instr.slice t (.slice A n c) (some (.int .i64 j)) none none).run P W = .ok (.slice (cutAt A c j.toNat sz) (n - j.toNat) (c - j.toNat)) W := by
  have hel : P.elem t = e := by simp [Program.elem, ht]
  rw [run_slice_l W t A n c (by rw [hel]; exact ht) .i64 j h0 hm, hel, run_size hi]
  simp [Result.andThen, sliced_eq]
theorem run_cut_hi (ht : P.underlying t = some (.slice e)) (hi : (P.info? e).map (·.size) = some sz) (A : Option Addr) (n c : Nat) (j : Int) (h0 : 0 ≤ j) (hm : j ≤ c) (W : World) :
    (Instr.slice t (.slice A n c) none (some (.int .i64 j)) none).run P W = .ok (.slice A j.toNat c) W := by
  have hel : P.elem t = e := by simp [Program.elem, ht]
  rw [run_slice_h W t A n c (by rw [hel]; exact ht) .i64 j h0 hm, hel, run_size hi]
  simp [Result.andThen, sliced_eq, cutAt]
  intro _
  cases A <;> simp [Addr_add_zero]
theorem run_cut_lohi (ht : P.underlying t = some (.slice e)) (hi : (P.info? e).map (·.size) = some sz) (A : Option Addr) (n c : Nat) (j k : Int) (h0 : 0 ≤ j) (h1 : j ≤ k) (hm : k ≤ c) (W : World) :
    (Instr.slice t (.slice A n c) (some (.int .i64 j)) (some (.int .i64 k)) none).run P W = .ok (.slice (cutAt A c j.toNat sz) (k.toNat - j.toNat) (c - j.toNat)) W := by
  have hel : P.elem t = e := by simp [Program.elem, ht]
  rw [run_slice_lh W t A n c (by rw [hel]; exact ht) .i64 .i64 j k h0 h1 hm, hel, run_size hi]
  simp [Result.andThen, sliced_eq]
end
theorem C_cut {α : Type} {d : Kd α} {w : World} {A : Option Addr} {n c : Nat} {xs : List α} (h : d.C w A n xs) (hc : n ≤ c) (lo m : Nat) (hm : lo + m ≤ n) : d.C w (cutAt A c lo d.sz) m ((xs.drop lo).take m) := by
  have hl : xs.length = n := h.1
  refine ⟨by simp [hl]; omega, by have := h.2.1; omega, fun hp => ?_⟩
  obtain ⟨ad, rfl, hcell⟩ := h.2.2 (by omega)
  refine ⟨ad.add (lo * d.sz), by unfold cutAt; rw [if_neg (by omega)]; rfl, fun j p hj => ?_⟩
  have hjm : j < m := by
    have := (List.getElem?_eq_some_iff.1 hj).1
    simp at this; omega
  have hj' : xs[lo + j]? = some p := by
    rw [List.getElem?_take, if_pos hjm, List.getElem?_drop] at hj
    exact hj
  obtain ⟨cs, h1, h2, h3⟩ := hcell (lo + j) p hj'
  refine ⟨cs, h1, h2, fun i u hu => ?_⟩
  have := h3 i u hu
  rw [show (lo + j) * d.sz + i = lo * d.sz + (j * d.sz + i) by rw [Nat.add_mul]; omega] at this
  rw [add_add]
  exact this
theorem reps_scalar {α : Type} {enc : α → Value} {R : α → List Value → Prop} (hR : ∀ x c, R x c → c = [enc x]) {xs : List α} {inner : List Value} (h : Reps R 1 xs inner) : inner = xs.map enc := by
  have hl : inner.length = xs.length := by have := h.1; omega
  apply List.ext_getElem
  · rw [hl, List.length_map]
  · intro i h1 h2
    have h3 : i < xs.length := by omega
    have := hR _ _ (h.2 i _ (List.getElem?_eq_getElem h3))
    have h4 : ((inner.drop (i * 1)).take 1)[0]? = some (enc xs[i]) := by rw [this]; rfl
    rw [List.getElem?_take, if_pos (by omega), List.getElem?_drop, Nat.mul_one, Nat.add_zero, List.getElem?_eq_getElem h1] at h4
    rw [List.getElem_map]
    exact Option.some.inj h4
theorem reps_scalar_mk {α : Type} {enc : α → Value} {R : α → List Value → Prop} (hR : ∀ x, R x [enc x]) (xs : List α) : Reps R 1 xs (xs.map enc) := by
  refine ⟨by simp, fun j p hj => ?_⟩
  obtain ⟨hjl, rfl⟩ := List.getElem?_eq_some_iff.1 hj
  have : ((xs.map enc).drop (j * 1)).take 1 = [enc xs[j]] := by
    rw [Nat.mul_one, List.drop_eq_getElem_cons (by simpa using hjl)]
    simp
  rw [this]
  exact hR _
/-! copy -/
section
variable {P : Program} {ops : Array Oper} {rest : List Oper} {o : Oper} {a : Act} {Q : Exit → Act → World → Prop}
theorem setRow_grown (W : World) (g : Nat) (cs : Array Value) : W.grownBy (W.setRow g cs) (some g) :=
  ⟨rfl, rfl, rfl, by simp [World.setRow], fun k hk hne => setRow_other W g k cs (fun e => hne (by rw [e]))⟩
theorem copy_run {P : Program} {α : Type} (enc : α → Value) (h1 : ∀ x, (enc x).oneCell' = true) {W : World} (base : Nat) (dT sT e ty : TypeId) (hu : P.underlying dT = some (.slice e)) (hsz : (P.info? e).map (·.size) = some 1)
    (g n cap off dLen dCap sLen sCap : Nat) (dp sp : Option Addr) (xs ys : List α) (ok : Nat → Prop)
    (HO : (Kd.scalar enc h1).R e W base ok (.slice (some ⟨g, 0, none⟩) n cap) xs) (hdp : 0 < dLen → dp = some ⟨g, off, none⟩) (hoff : off + dLen ≤ n)
    (HR : (Kd.scalar enc h1).C W sp sLen ys) :
    ∃ w1, (Builtin.copy_ #[dT, sT] ty #[.slice dp dLen dCap, .slice sp sLen sCap]).run P W = .ok (goInt (ys.take dLen).length) w1 ∧ (Kd.scalar enc h1).R e w1 base ok (.slice (some ⟨g, 0, none⟩) n cap) (splice xs off (ys.take dLen)) ∧ W.grownBy w1 (some g) ∧ base ≤ g := by
  obtain ⟨hok, inner, hown, hr⟩ := HO
  have hinner : inner = xs.map enc := reps_scalar (fun _ _ h => h) hr
  subst hinner
  have hn : xs.length = n := by
    rcases hown.2 with ⟨h', _⟩ | ⟨_, _, _, h', _⟩
    · cases h'
    · injection h' with _ h2 _
      exact h2.symm
  rcases hown.2 with ⟨h', _⟩ | ⟨g', cap', cur, h', hb, hg, hnc, hcm, hcs, htake⟩
  · cases h'
  simp only [Value.slice.injEq, Option.some.injEq, Addr.mk.injEq, and_true] at h'
  obtain ⟨rfl, -, rfl⟩ := h'
  have hy : ys.length = sLen := HR.1
  by_cases h0 : (ys.take dLen).length = 0
  · have e0 : ys.take dLen = [] := List.eq_nil_of_length_eq_zero h0
    have hrun := run_copy_none (P := P) W dT sT ty e dp sp dLen dCap sLen sCap hu hsz (by rw [List.length_take] at h0; simp only [Nat.min_def] at h0 ⊢; split at h0 <;> split <;> omega)
    refine ⟨W, ?_, ⟨hok, xs.map enc, by rw [e0]; simpa [splice, hn] using hown, by rw [e0]; simpa [splice] using hr⟩, ⟨rfl, rfl, rfl, Nat.le_refl _, fun _ _ _ => rfl⟩, hb⟩
    rw [e0]
    exact hrun
  · rw [List.length_take] at h0
    obtain rfl := hdp (by omega)
    obtain ⟨ad, rfl, hcell⟩ := HR.2.2 (by omega)
    have hcl : ((ys.take dLen).map enc).length = Nat.min sLen dLen := by rw [List.length_map, List.length_take, hy, Nat.min_comm]
    have hm : Nat.min sLen dLen ≤ dLen := Nat.min_le_right _ _
    have hcur : cur.size = cap := hcs.trans (Nat.mul_one _)
    have hrun := run_copy_row (P := P) W dT sT ty e g off dLen dCap ad sLen sCap cur e ((ys.take dLen).map enc) hu hsz hg hcl ?_ (by rw [hcl]; omega) (fun v hv => by obtain ⟨x, _, rfl⟩ := List.mem_map.1 hv; exact h1 x)
    rotate_left
    · intro j v hj
      rw [List.getElem?_map] at hj
      obtain ⟨x, hx, rfl⟩ := Option.map_eq_some_iff.1 hj
      rw [List.getElem?_take] at hx
      split at hx
      · obtain ⟨c, hc1, hc2, hc3⟩ := hcell j x hx
        have hc2 : c = [enc x] := hc2
        have := hc3 0 (enc x) (by rw [hc2]; rfl)
        simpa [Kd.scalar] using this
      · cases hx
    · have hsp : (splice (xs.map enc) off ((ys.take dLen).map enc)) = (splice xs off (ys.take dLen)).map enc := by simp [splice]
      have hcl' : (ys.take dLen).length ≤ dLen := List.length_take_le _ _
      have hlen : (splice xs off (ys.take dLen)).length = n := by rw [length_splice _ _ _ (by omega)]; exact hn
      refine ⟨W.setRow g (cur.toList.take off ++ ((ys.take dLen).map enc ++ cur.toList.drop (off + ((ys.take dLen).map enc).length))).toArray, by rw [List.append_assoc, List.length_map] at hrun; rw [List.length_map]; exact hrun, ?_, setRow_grown _ _ _, hb⟩
      · refine ⟨hok, (splice xs off (ys.take dLen)).map enc, ⟨by rw [List.length_map]; show _ = _ * 1; omega, .inr ⟨g, cap, _, by rw [hlen], hb, setRow_heap _ _ _ _ _ _ hg, by omega, hcm, ?_, ?_⟩⟩, (show Reps (fun x cs => cs = [enc x]) 1 _ _ from reps_scalar_mk (R := fun x cs => cs = [enc x]) (fun _ => rfl) _)⟩
        · simp only [List.size_toArray, List.length_append, List.length_take, List.length_drop, List.length_map, Array.length_toList]
          show _ = cap * 1
          omega
        · rw [hlen, ← hsp]
          show List.take (n * 1) _ = _
          rw [Nat.mul_one, ← htake]
          have e1 : (xs.length * (Kd.scalar enc h1).sz) = n := by show xs.length * 1 = n; omega
          rw [e1]
          have hco : off ≤ cur.toList.length := by rw [Array.length_toList]; omega
          have hl1 : (cur.toList.take off).length = off := by rw [List.length_take]; omega
          rw [List.toList_toArray, splice, List.take_append, List.take_append, hl1, List.take_take, List.take_take, Nat.min_comm n off, List.take_of_length_le (l := (ys.take dLen).map enc) (by rw [List.length_map]; omega), List.drop_take, List.length_map]
          congr 3
          omega
theorem copy_row {α : Type} (enc : α → Value) (h1 : ∀ x, (enc x).oneCell' = true) {w0 W : World} (base : Nat) (hgd : o.guard = none) (d s : Operand) (dT sT e : TypeId)
    (ho : o.op = .call { callee := .builtin .copy, args := #[d, s], argTypes := #[dT, sT] }) (hu : P.underlying dT = some (.slice e)) (hsz : (P.info? e).map (·.size) = some 1)
    (g n cap off dLen dCap sLen sCap : Nat) (dp sp : Option Addr) (xs ys : List α) (ok : Nat → Prop) (hd : a.eval d = .slice dp dLen dCap) (hs : a.eval s = .slice sp sLen sCap)
    (HO : (Kd.scalar enc h1).R e W base ok (.slice (some ⟨g, 0, none⟩) n cap) xs) (hdp : 0 < dLen → dp = some ⟨g, off, none⟩) (hoff : off + dLen ≤ n)
    (HR : (Kd.scalar enc h1).C W sp sLen ys) (HB : Below base w0 W)
    (h : ∀ w1, (Kd.scalar enc h1).R e w1 base ok (.slice (some ⟨g, 0, none⟩) n cap) (splice xs off (ys.take dLen)) → Below base w0 w1 → W.grownBy w1 (some g) → wpList P ops Q rest (a.put o.dst (goInt (ys.take dLen).length)) w1) :
    wpList P ops Q (o :: rest) a W := by
  obtain ⟨w1, hrun, hR, hg, hb⟩ := copy_run (P := P) enc h1 base dT sT e o.type hu hsz g n cap off dLen dCap sLen sCap dp sp xs ys ok HO hdp hoff HR
  generalize (ys.take dLen).length = m at hrun h
  refine wpList_plain hgd fun K hK => ?_
  unfold Oper.wp
  simp [execOp, ho, resolve, invoke, builtin, hd, hs, hrun, Result.andThen]
  exact hK _ _ (h w1 hR (HB.trans ⟨hg.os, hg.tape, hg.output, hg.size, fun k hk => by
    by_cases hk2 : k < W.heap.size
    · exact hg.block k hk2 (fun e => by injection e with e; omega)
    · have := hg.size
      have h3 := Kd.R_lt HO g rfl
      omega⟩) hg)
theorem copy_row_step {α : Type} {Kc : Act → World → Prop} (enc : α → Value) (h1 : ∀ x, (enc x).oneCell' = true) {w0 W : World} (base : Nat) (hgd : Region.wanted o (yielded ops a.tmps) = true) {N : Option Tmp} (hN : o.dst = N) (d s : Operand) (dT sT e : TypeId)
    (ho : o.op = .call { callee := .builtin .copy, args := #[d, s], argTypes := #[dT, sT] }) (hu : P.underlying dT = some (.slice e)) (hsz : (P.info? e).map (·.size) = some 1)
    (g n cap off dLen dCap sLen sCap : Nat) (dp sp : Option Addr) (xs ys : List α) (ok : Nat → Prop) (hd : a.eval d = .slice dp dLen dCap) (hs : a.eval s = .slice sp sLen sCap)
    (HO : (Kd.scalar enc h1).R e W base ok (.slice (some ⟨g, 0, none⟩) n cap) xs) (hdp : 0 < dLen → dp = some ⟨g, off, none⟩) (hoff : off + dLen ≤ n)
    (HR : (Kd.scalar enc h1).C W sp sLen ys) (HB : Below base w0 W)
    (h : ∀ w1, (Kd.scalar enc h1).R e w1 base ok (.slice (some ⟨g, 0, none⟩) n cap) (splice xs off (ys.take dLen)) → Below base w0 w1 → W.grownBy w1 (some g) → Kc (a.put N (goInt (ys.take dLen).length)) w1) :
    if Region.wanted o (yielded ops a.tmps) = true then Oper.wp P o a W Kc Q else Kc (a.put N undef) W := by
  obtain ⟨w1, hrun, hR, hg, hb⟩ := copy_run (P := P) enc h1 base dT sT e o.type hu hsz g n cap off dLen dCap sLen sCap dp sp xs ys ok HO hdp hoff HR
  generalize (ys.take dLen).length = m at hrun h
  rw [if_pos hgd]
  subst hN
  unfold Oper.wp
  have hx : (execOp a.eval o).run P W = .ok (.value (goInt m)) w1 := by simp [execOp, ho, resolve, invoke, builtin, hd, hs, hrun, Result.andThen]
  rw [hx]
  exact (h w1 hR (HB.trans ⟨hg.os, hg.tape, hg.output, hg.size, fun k hk => by
    by_cases hk2 : k < W.heap.size
    · exact hg.block k hk2 (fun e => by injection e with e; omega)
    · have := hg.size
      have h3 := Kd.R_lt HO g rfl
      omega⟩) hg)
end
/-- make([]T, 0, n): no element yet. -/
theorem R_make0 {α : Type} {P : Program} {ops : Array Oper} {rest : List Oper} {o : Oper} {a : Act} {Q : Exit → Act → World → Prop} (d : Kd α) {w0 W : World} (base e : Nat) (hgd : o.guard = none) {N : Tmp} (_hd : o.dst = some N) (t : TypeId) (x y : Operand) (ho : o.op = .makeSlice t x y) (n : Int)
    (hx : a.eval x = .int .i64 0) (hy : a.eval y = .int .i64 n) (ht : P.underlying t = some (.slice e)) (z : Value) (bytes : Nat) (hinfo : (P.info? e).map (fun i => (i.zero, i.size, i.bytes)) = some (some z, d.sz, bytes)) (hb0 : 0 < bytes)
    {ok : Nat → Prop} (hfresh : ok W.heap.size) (h0 : 0 ≤ n) (hl : n.toNat * bytes ≤ 281474976710656) (HB : Below base w0 W) (hbase : base ≤ W.heap.size)
    (h : ∀ v1 w1, d.R e w1 base ok v1 [] → Below base w0 w1 → W.grownBy w1 none → (∃ b, v1.ownBlock = some b ∧ W.heap.size ≤ b) → wpList P ops Q rest (a.put o.dst v1) w1) : wpList P ops Q (o :: rest) a W := by
  obtain ⟨m, rfl⟩ := Int.eq_ofNat_of_zero_le h0
  simp only [Int.toNat_natCast] at hl
  obtain ⟨i0, hi, hzz⟩ := Option.map_eq_some_iff.1 hinfo
  simp only [Prod.mk.injEq] at hzz
  obtain ⟨hz0, hz1, hz2⟩ := hzz
  have hm : m ≤ 281474976710656 := Nat.le_trans (Nat.le_mul_of_pos_right _ hb0) hl
  have hr := run_make (P := P) W t e i0 z ht hi hz0 .i64 .i64 0 (m : Int) (by omega) (by omega)
    (by
      have h3 : ((i0.bytes * m : Nat) : Int) ≤ 281474976710656 := by rw [hz2, Nat.mul_comm]; omega
      rwa [Int.natCast_mul] at h3) (by omega)
  simp only [Int.toNat_natCast, Int.toNat_zero] at hr
  rw [hz1] at hr
  refine Kd.event_run hgd (w1 := W.alloc (.cells (madeCells z.cells (m * d.sz)) e)) (v := .slice (some ⟨W.heap.size, 0, none⟩) 0 m) (by simp [execOp, ho, hx, hy, hr]) ?_
  refine h _ _ ⟨fun k hk => ?_, [], ⟨by simp, .inr ⟨W.heap.size, m, madeCells z.cells (m * d.sz), rfl, hbase, heap_alloc_new W _, Nat.zero_le _, by simp only [maxLen]; omega, size_madeCells _ _, by simp⟩⟩, Reps.none _ _⟩ (HB.alloc hbase _) (World.grownBy_alloc W _ none) ⟨W.heap.size, by simp [Value.ownBlock], Nat.le_refl _⟩
  have : W.heap.size = k := by simpa [Value.ownBlock] using hk
  subst this
  exact hfresh
/-! rows whose elements lead nowhere -/
section
variable {α : Type} {d : Kd α} {e base : Nat} {ok : Nat → Prop} {W w1 : World} {v : Value} {xs : List α}
theorem R_flat_grown (hE : d.E = []) (h : d.R e W base ok v xs) {row : Option Nat} (hg : W.grownBy w1 row) (hne : ∀ k, v.ownBlock = some k → some k ≠ row) : d.R e w1 base (fun _ => True) v xs :=
  Kd.R_mono (Kd.R_grown (Kd.R_tight hE h) hg (fun k hk => hne k hk.symm)) (fun _ _ => trivial)
theorem R_flat_set (hE : d.E = []) (h : d.R e W base ok v xs) {p : Addr} {u : Value} (hne : ∀ k, v.ownBlock = some k → k ≠ p.block) : d.R e (W.setCell p u) base (fun _ => True) v xs :=
  Kd.R_mono (Kd.R_far (Kd.R_tight hE h) (fun k hk => hne k hk.symm) u) (fun _ _ => trivial)
theorem R_flat_put (hE : d.E = []) (h : d.R e W base ok v xs) {g j : Nat} {u : Value} (hne : ∀ k, v.ownBlock = some k → k ≠ g) : d.R e (W.setCell ⟨g, j, none⟩ u) base (fun _ => True) v xs := R_flat_set hE h hne
theorem R_any (h : d.R e W base ok v xs) : d.R e W base (fun _ => True) v xs := Kd.R_mono h (fun _ _ => trivial)
end
theorem splice_get {α : Type} (L C : List α) (o j : Nat) (h : o + C.length ≤ L.length) : (splice L o C)[j]? = if j < o then L[j]? else if j < o + C.length then C[j - o]? else L[j]? := by
  unfold splice
  by_cases h1 : j < o
  · rw [if_pos h1, List.getElem?_append_left (by rw [List.length_take]; omega), List.getElem?_take, if_pos h1]
  · rw [if_neg h1, List.getElem?_append_right (by rw [List.length_take]; omega)]
    have e : (L.take o).length = o := by rw [List.length_take]; omega
    rw [e]
    by_cases h2 : j < o + C.length
    · rw [if_pos h2, List.getElem?_append_left (by omega)]
    · rw [if_neg h2, List.getElem?_append_right (by omega), List.getElem?_drop]
      congr 1
      omega
theorem put_step (L B : List Int) (a off n s f : Nat) (h1 : s + f = a + off) (h2 : f + n ≤ 512) (h3 : s + 512 ≤ L.length) (h4 : off + n ≤ B.length) (h5 : a + B.length ≤ L.length) :
    splice (splice L a (B.take off)) s (splice (((splice L a (B.take off)).drop s).take 512) f ((B.drop off).take n)) = splice L a (B.take (off + n)) := by
  have l1 : (B.take off).length = off := by rw [List.length_take]; omega
  have l2 : ((B.drop off).take n).length = n := by rw [List.length_take, List.length_drop]; omega
  have l3 : (splice L a (B.take off)).length = L.length := length_splice _ _ _ (by omega)
  have l4 : (((splice L a (B.take off)).drop s).take 512).length = 512 := by rw [List.length_take, List.length_drop, l3]; omega
  have l5 : (splice (((splice L a (B.take off)).drop s).take 512) f ((B.drop off).take n)).length = 512 := by rw [length_splice _ _ _ (by omega), l4]
  have l6 : (B.take (off + n)).length = off + n := by rw [List.length_take]; omega
  apply List.ext_getElem?
  intro j
  rw [splice_get _ _ _ _ (by omega), splice_get _ _ _ _ (by omega), splice_get _ _ _ _ (by omega), splice_get _ _ _ _ (by omega), l1, l2, l5, l6]
  simp only [List.getElem?_take, List.getElem?_drop]
  by_cases c1 : j < s
  · rw [if_pos c1]
    by_cases c2 : j < a
    · rw [if_pos c2, if_pos c2]
    · rw [if_neg c2, if_neg c2]
      by_cases c3 : j < a + off
      · rw [if_pos c3, if_pos (by omega), if_pos (by omega), if_pos (by omega)]
      · omega
  · rw [if_neg c1]
    by_cases c2 : j < s + 512
    · rw [if_pos c2]
      by_cases c3 : j - s < f
      · rw [if_pos c3, if_pos (by omega), splice_get _ _ _ _ (by omega), l1, show s + (j - s) = j by omega]
        by_cases c4 : j < a
        · rw [if_pos c4, if_pos c4]
        · rw [if_neg c4, if_neg c4, if_pos (by omega), if_pos (by omega), List.getElem?_take, if_pos (by omega), if_pos (by omega)]
      · rw [if_neg c3]
        by_cases c4 : j - s < f + n
        · rw [if_pos c4, if_pos (by omega), if_neg (by omega), if_pos (by omega), if_pos (by omega)]
          congr 1
          omega
        · rw [if_neg c4, if_pos (by omega), splice_get _ _ _ _ (by omega), l1, show s + (j - s) = j by omega, if_neg (by omega), if_neg (by omega), if_neg (by omega), if_neg (by omega)]
    · rw [if_neg c2]
      by_cases c3 : j < a
      · omega
      · rw [if_neg c3, if_neg c3]
        by_cases c4 : j < a + off
        · omega
        · rw [if_neg c4, if_neg (by omega)]
end Go.Proofs.Ytnbomjfpnpmllaa.Q
end
section
namespace Go.Proofs.Ytnbomjfpnpmllaa.Q
open Go.RowKit Go.Proofs.YtnbomjfpnpmllaaW.PrintWords Go.Proofs.YtnbomjfpnpmllaaW.PrintLast Go.Proofs.YtnbomjfpnpmllaaW.PrintMore
set_option linter.unusedVariables false
set_option linter.unusedSimpArgs false

attribute [local go_sem] max2_int min2_int max_two min_two max_three min_three max_four min_four
/-! ### block_pieces: function 46 -/
def block_pieces.l0 : Nat → Int → Int → List (S80) → Option ((List (S80)))
  | 0, _, _, _ => none
  | k + 1, x0, x1, x4 => if x1 > 0 then (if x4.length < 5864062014805 then (block_pieces.l0 k (wrap64 (x0 + (mn x1 (wrap64 (512 - (Int.tmod x0 512)))))) (wrap64 (x1 - (mn x1 (wrap64 (512 - (Int.tmod x0 512)))))) (x4 ++ [(⟨wrap64 (Int.tdiv x0 512), Int.tmod x0 512, mn x1 (wrap64 (512 - (Int.tmod x0 512)))⟩ : S80)])) else (none)) else (some x4)
def block_pieces.f (k : Nat) (a0 : Int) (a1 : Int) : Option ((List (S80))) := block_pieces.l0 k a0 a1 ([] : List (S80))
theorem block_pieces.mono_l : ∀ k, (∀ y0 y1 y2, LeO (block_pieces.l0 k y0 y1 y2) (block_pieces.l0 (k + 1) y0 y1 y2))
  | 0 => fun _ _ _ r h => by simp [block_pieces.l0] at h
  | k + 1 => by
    have ih0 := block_pieces.mono_l k
    · intro y0 y1 y2
      unfold block_pieces.l0
      repeat' first
      | (with_reducible exact ih0 _ _ _)
      | (with_reducible exact LeO.refl _)
      | (with_reducible exact LeO.none _)
      | (with_reducible refine LeO.ite ?_ ?_)
      | (with_reducible refine LeO.bind ?_ (fun _ => ?_))
      | exact ih0 _ _ _
      | exact LeO.none _
      | refine LeO.ite ?_ ?_
      | refine LeO.bind ?_ (fun _ => ?_)
theorem block_pieces.mono : ∀ a0 a1 k, LeO (block_pieces.f k a0 a1) (block_pieces.f (k + 1) a0 a1) := by
  intro a0 a1 k
  have ih0 := block_pieces.mono_l k
  unfold block_pieces.f
  repeat' first
      | (with_reducible exact ih0 _ _ _)
      | (with_reducible exact LeO.refl _)
      | (with_reducible exact LeO.none _)
      | (with_reducible refine LeO.ite ?_ ?_)
      | (with_reducible refine LeO.bind ?_ (fun _ => ?_))
      | exact ih0 _ _ _
      | exact LeO.none _
      | refine LeO.ite ?_ ?_
      | refine LeO.bind ?_ (fun _ => ?_)
set_option maxHeartbeats 8000000 in
set_option maxRecDepth 100000 in
theorem block_pieces.calls (k : Nat) (a0 : Int) (a1 : Int) (r : List (S80)) (w : World) (h : block_pieces.f k a0 a1 = some r) :
    Calls Try.prog 46 #[.int .i64 a0, .int .i64 a1] w fun e w' => ∃ v0_ : Value, e = .returned (v0_) ∧ Kd.R k80 80 w' w.heap.size (fun _ => True) v0_ r ∧ Below w.heap.size w w' := by
  have hu80 := Try.underlying80
  have HB := Aside0.mk (Below.refl w.heap.size w)
  have H : (block_pieces.l0 k a0 a1 ([] : List (S80))) = some r := h
  clear h
  have H' := Aside0.mk H
  clear H
  go_enter Try.func46, Try.ntmps46
  go_wp2
  go_loopg [0, 1, 4] k (fun kq v0 v1 v4 w' => ∃ (x0_1 : Int) (x1_1 : Int) (x4_1 : List (S80)), v0 = .int .i64 x0_1 ∧ v1 = .int .i64 x1_1 ∧ Aside0 (block_pieces.l0 kq x0_1 x1_1 x4_1 = some r) ∧ Aside0 (kq ≤ k) ∧ Aside0 (Kd.R k80 80 w' w.heap.size (fun _ => True) v4 x4_1) ∧ Aside0 (Below w.heap.size w w'))
  case atStart => exact ⟨(a0), (a1), (([] : List (S80))), (by first | rfl | (simp; done) | (simp [*]; done)), (by first | rfl | (simp; done) | (simp [*]; done)), H', ⟨Nat.le_refl _⟩, ⟨by first | exact Kd.R_nil _ _ _ _ _ | exact Kd.N_nil _ _ _ _ _ | exact Kd.V_nil _ _ _ _ _ | exact Kd.Q_nil _ _ _ _ _ | exact Kd.S_nil _ _ _ _ _⟩, ⟨by repeat (first | (with_reducible first | exact HB.out | apply below_alloc | apply pw_below_drewN | apply below_drew1) | exact HB.out)⟩⟩
  case round =>
    clear H'
    try clear p2
    obtain ⟨x0_1, x1_1, x4_1, rfl, rfl, HA, HK1, HO_4, HB⟩ := hrel
    cases gk with
    | zero => exact absurd HA.out (by simp [block_pieces.l0])
    | succ k1 =>
      have H := HA.out
      clear HA
      simp only [block_pieces.l0] at H
      by_cases c3 : x1_1 > 0
      · rw [if_pos c3] at H
        have c3b0 : decide (0 < x1_1) = true := decide_eq_true c3
        clear c3
        obtain ⟨ji4, hji4⟩ : ∃ j_ : Int, (mn x1_1 (wrap64 (512 - (Int.tmod x0_1 512)))) = j_ := ⟨_, rfl⟩
        replace H : (if x4_1.length < 5864062014805 then (block_pieces.l0 k1 (wrap64 (x0_1 + (ji4))) (wrap64 (x1_1 - (ji4))) (x4_1 ++ [(⟨wrap64 (Int.tdiv x0_1 512), Int.tmod x0_1 512, ji4⟩ : S80)])) else (none)) = some r := by first | (rw [hji4] at H; exact H) | (simp only [hji4] at H ⊢; exact H)
        have hji4_ : (if (wrap64 (512 - (Int.tmod x0_1 512))) < x1_1 then (wrap64 (512 - (Int.tmod x0_1 512))) else x1_1) = ji4 := hji4
        by_cases c5 : x4_1.length < 5864062014805
        · rw [if_pos c5] at H
          have LMc5 := Aside0.mk c5
          clear c5
          obtain ⟨y47002, hy47002⟩ : ∃ y_ : List (S80), y_ = (x4_1 ++ [(⟨wrap64 (Int.tdiv x0_1 512), Int.tmod x0_1 512, ji4⟩ : S80)]) := ⟨_, rfl⟩
          replace H : (block_pieces.l0 k1 (wrap64 (x0_1 + (ji4))) (wrap64 (x1_1 - (ji4))) y47002) = some r := by first | (rw [hy47002]; with_reducible exact H) | (have H2_ := (Option.bind_some _ _).symm.trans H; rw [hy47002]; with_reducible exact H2_) | (have H2_ := (Option.bind_some _ _).symm.trans H; with_reducible exact H2_) | with_reducible exact H | (rw [hy47002]; exact H) | exact H
          have Ny47002 := Aside0.mk hy47002
          clear hy47002
          have H' := Aside0.mk H
          clear H
          go_wp2_with (first | ((with_reducible refine gate_dst (N := 5) rfl ?_); refine box_event ?hg (N := 5) ?hd (cs := #[.int .i64 0, .int .i64 0, .int .i64 0]) (t := 80) ?hr ?_; (case hd => rfl); (case hg => rfl); (case hr => first | (go_simp; done) | (go_simp; rfl)); intro gb47001 hg w6 hbox hb; have n0_ := Aside0.mk (Kd.R_below (Kd.R_elderB (by (with_reducible repeat (first | apply Kd.R_alloc | apply Kd.R_drewN | apply Kd.R_drew)); exact HO_4.out) gb47001 (Nat.le_of_eq hg.symm)) hb); have n1_ := Aside0.mk (below_step (by repeat (first | (with_reducible first | exact HB.out | apply below_alloc | apply pw_below_drewN | apply below_drew1) | exact HB.out)) hb); have n2_ := Aside0.mk (hbox); have n3_ := Aside0.mk ((by rw [hg]; exact (below_size (by repeat (first | (with_reducible first | exact HB.out | apply below_alloc | apply pw_below_drewN | apply below_drew1) | exact HB.out))) : w.heap.size ≤ gb47001)); have n4_ := Aside0.mk ((by rw [hg]; exact (below_size (by repeat (first | (with_reducible first | exact HB.out | apply below_alloc | apply pw_below_drewN | apply below_drew1) | exact HB.out))) : w.heap.size ≤ gb47001)); clear HO_4; clear HB; have HO_4 := n0_; have HB := n1_; have BK47001 := n2_; have GW47001 := n3_; have GE47001 := n4_; clear n0_ n1_ n2_ n3_ n4_; clear hb hbox hg; have hcz7_0 : w6.cell? ⟨gb47001, 0, none⟩ = some (.int .i64 0) := (blk_cell BK47001.out 0).trans rfl; have hcz7_1 : w6.cell? ⟨gb47001, 1, none⟩ = some (.int .i64 0) := (blk_cell BK47001.out 1).trans rfl; have hcz7_2 : w6.cell? ⟨gb47001, 2, none⟩ = some (.int .i64 0) := (blk_cell BK47001.out 2).trans rfl; have hcs_ : ∀ a b c : Value, (((w6.setCell ⟨gb47001, 0, none⟩ a).setCell ⟨gb47001, 1, none⟩ b).setCell ⟨gb47001, 2, none⟩ c).cell? ⟨gb47001, 2, none⟩ = some c := fun a b c => cell_set3 a b c ((blk_cell BK47001.out 2).trans rfl); have hfz7_0 := blk_frozen BK47001.out 0; have hfz7_1 := blk_frozen BK47001.out 1; have hfz7_2 := blk_frozen BK47001.out 2) | ((with_reducible refine gate_builtin (b := .append) (xs := #[.tmp 19, .tmp 21]) rfl ?_); at_builtin; refine Kd.R_append k80 (w0 := w) w.heap.size rfl (.tmp 19) (.tmp 21) 77 80 (.agg #[(.int .i64 0), (.int .i64 0), (.int .i64 0)]) 24 rfl Try.underlying77 info80 rfl (by decide) (by omega) u4 x4_1 (⟨wrap64 (Int.tdiv x0_1 512), Int.tmod x0_1 512, ji4⟩ : S80) [.int .i64 (wrap64 (Int.tdiv x0_1 512)), .int .i64 (Int.tmod x0_1 512), .int .i64 ji4] (fun k_ => k_ ≠ gb47001) (fun _ => False) rfl (by first | (go_simp; done) | (go_simp; rfl)) ?aP (fun _ hk => hk.elim) ?aF ?aO ?aB ?aS ?aL ?_; (case aP => exact k80_mkM _ _ _ (⟨wrap64 (Int.tdiv x0_1 512), Int.tmod x0_1 512, ji4⟩ : S80)); (case aB => exact (by repeat (first | (with_reducible first | exact HB.out | apply below_alloc | apply pw_below_drewN | apply below_drew1 | refine below_set ?_ GE47001.out) | exact HB.out))); (case aF => exact (fun k_ hk => Kd.freshB (g := gb47001) (o := .cells #[.int .i64 (wrap64 (Int.tdiv x0_1 512)), .int .i64 (Int.tmod x0_1 512), .int .i64 ji4] 80 (0, 0)) (by (with_reducible repeat (first | refine blk_drewN ?_ _ | refine blk_drew ?_ | refine blk_alloc ?_ _)); refine blk_put (cs := #[.int .i64 (wrap64 (Int.tdiv x0_1 512)), .int .i64 (Int.tmod x0_1 512), .int .i64 0]) ?_ 2 _ rfl; (with_reducible repeat (first | refine blk_drewN ?_ _ | refine blk_drew ?_ | refine blk_alloc ?_ _)); refine blk_put (cs := #[.int .i64 (wrap64 (Int.tdiv x0_1 512)), .int .i64 (Int.tmod x0_1 512), .int .i64 0]) ?_ 2 _ rfl; (with_reducible repeat (first | refine blk_drewN ?_ _ | refine blk_drew ?_ | refine blk_alloc ?_ _)); refine blk_put (cs := #[.int .i64 (wrap64 (Int.tdiv x0_1 512)), .int .i64 0, .int .i64 0]) ?_ 1 _ rfl; (with_reducible repeat (first | refine blk_drewN ?_ _ | refine blk_drew ?_ | refine blk_alloc ?_ _)); refine blk_put (cs := #[.int .i64 0, .int .i64 0, .int .i64 0]) ?_ 0 _ rfl; (with_reducible repeat (first | refine blk_drewN ?_ _ | refine blk_drew ?_ | refine blk_alloc ?_ _)); exact BK47001.out) k_ hk)); (case aO => exact (by (with_reducible repeat (first | apply Kd.R_alloc | apply Kd.R_drewN | apply Kd.R_drew)); exact Kd.R_mono (Kd.R_far (p := ⟨gb47001, 2, none⟩) (Kd.R_far (p := ⟨gb47001, 2, none⟩) (Kd.R_far (p := ⟨gb47001, 1, none⟩) (Kd.R_far (p := ⟨gb47001, 0, none⟩) (Kd.R_mono HO_4.out (fun k_ hk => (⟨hk, hk.2⟩ : _ ∧ k_ ≠ gb47001))) (fun _ hk => hk.2) (.int .i64 (wrap64 (Int.tdiv x0_1 512)))) (fun _ hk => hk.2) (.int .i64 (Int.tmod x0_1 512))) (fun _ hk => hk.2) (.int .i64 0)) (fun _ hk => hk.2) (.int .i64 ji4)) (fun _ hk => hk.1.2))); (case aS => exact (below_size (by repeat (first | (with_reducible first | exact HB.out | apply below_alloc | apply pw_below_drewN | apply below_drew1 | refine below_set ?_ GE47001.out) | exact HB.out)))); (case aL => have := LMc5.out; omega); intro v47003 w8 ho hb hg hat; rw [← Ny47002.out] at ho; have n0_ := Aside0.mk (blk_grown (g := gb47001) (o := .cells #[.int .i64 (wrap64 (Int.tdiv x0_1 512)), .int .i64 (Int.tmod x0_1 512), .int .i64 ji4] 80 (0, 0)) (by (with_reducible repeat (first | refine blk_drewN ?_ _ | refine blk_drew ?_ | refine blk_alloc ?_ _)); refine blk_put (cs := #[.int .i64 (wrap64 (Int.tdiv x0_1 512)), .int .i64 (Int.tmod x0_1 512), .int .i64 0]) ?_ 2 _ rfl; (with_reducible repeat (first | refine blk_drewN ?_ _ | refine blk_drew ?_ | refine blk_alloc ?_ _)); refine blk_put (cs := #[.int .i64 (wrap64 (Int.tdiv x0_1 512)), .int .i64 (Int.tmod x0_1 512), .int .i64 0]) ?_ 2 _ rfl; (with_reducible repeat (first | refine blk_drewN ?_ _ | refine blk_drew ?_ | refine blk_alloc ?_ _)); refine blk_put (cs := #[.int .i64 (wrap64 (Int.tdiv x0_1 512)), .int .i64 0, .int .i64 0]) ?_ 1 _ rfl; (with_reducible repeat (first | refine blk_drewN ?_ _ | refine blk_drew ?_ | refine blk_alloc ?_ _)); refine blk_put (cs := #[.int .i64 0, .int .i64 0, .int .i64 0]) ?_ 0 _ rfl; (with_reducible repeat (first | refine blk_drewN ?_ _ | refine blk_drew ?_ | refine blk_alloc ?_ _)); exact BK47001.out) hg (Kd.R_away HO_4.out (fun _ hk => hk.2))); have n1_ := Aside0.mk (hb); have n2_ := Aside0.mk (ho); clear BK47001; clear HB; clear HO_4; have BK47001 := n0_; have HB := n1_; have HO47004 := n2_; clear n0_ n1_ n2_; clear ho hb hg hat; have hcz9_0 : w8.cell? ⟨gb47001, 0, none⟩ = some (.int .i64 (wrap64 (Int.tdiv x0_1 512))) := (blk_cell BK47001.out 0).trans rfl; have hcz9_1 : w8.cell? ⟨gb47001, 1, none⟩ = some (.int .i64 (Int.tmod x0_1 512)) := (blk_cell BK47001.out 1).trans rfl; have hcz9_2 : w8.cell? ⟨gb47001, 2, none⟩ = some (.int .i64 ji4) := (blk_cell BK47001.out 2).trans rfl; have hfz9_0 := blk_frozen BK47001.out 0; have hfz9_1 := blk_frozen BK47001.out 1; have hfz9_2 := blk_frozen BK47001.out 2))
          go_roundg k1
          case measure => have := HK1.out; omega
          case rel => exact ⟨(wrap64 (x0_1 + (ji4))), (wrap64 (x1_1 - (ji4))), (y47002), (by first | rfl | (simp; done) | (simp only [← hji4] <;> (first | rfl | simp)) | (simp [*]; done)), (by first | rfl | (simp; done) | (simp only [← hji4] <;> (first | rfl | simp)) | (simp [*]; done)), H', ⟨by have := HK1.out; omega⟩, ⟨by (with_reducible repeat (first | apply Kd.R_alloc | apply Kd.R_drewN | apply Kd.R_drew)); exact Kd.R_mono HO47004.out (fun _ hk => trivial)⟩, ⟨by repeat (first | (with_reducible first | exact HB.out | apply below_alloc | apply pw_below_drewN | apply below_drew1 | refine below_set ?_ GE47001.out) | exact HB.out)⟩⟩
        · rw [if_neg c5] at H
          exact absurd H (by simp)
      · rw [if_neg c3] at H
        have c3b0 : decide (0 < x1_1) = false := decide_eq_false c3
        clear c3
        obtain rfl := Option.some.inj H
        go_wp2
        go_ret
        exact ⟨_, by first | rfl | (simp [errW_none, errW_some] <;> rfl) | (simp [*, errW_none, errW_some] <;> rfl), by (with_reducible repeat (first | apply Kd.R_alloc | apply Kd.R_drewN | apply Kd.R_drew)); exact HO_4.out, by repeat (first | (with_reducible first | exact HB.out | apply below_alloc | apply pw_below_drewN | apply below_drew1) | exact HB.out)⟩

end Go.Proofs.Ytnbomjfpnpmllaa.Q
end
section
namespace Go.Proofs.Ytnbomjfpnpmllaa.Q
open Go.RowKit Go.Proofs.YtnbomjfpnpmllaaW.PrintWords Go.Proofs.YtnbomjfpnpmllaaW.PrintLast Go.Proofs.YtnbomjfpnpmllaaW.PrintMore
/-- The pieces of a stretch, one behind the other. -/
def Chain : Int → Int → List S80 → Prop
  | _, n, [] => n = 0
  | at_, n, p :: ps => (p.f0 * 512 + p.f1 = at_ ∧ 0 ≤ p.f0 ∧ 0 ≤ p.f1 ∧ 0 < p.f2 ∧ p.f2 ≤ n ∧ p.f1 + p.f2 ≤ 512) ∧ (p.f2 < n → p.f1 + p.f2 = 512) ∧ Chain (at_ + p.f2) (n - p.f2) ps
theorem pieces_go (d : Nat) : ∀ (k : Nat) (at_ n : Int) (acc : List S80), 0 ≤ at_ → 0 ≤ n → at_ + n ≤ 1000000000 → n ≤ d → d < k → acc.length + d ≤ 2000000000 →
    ∃ ps, block_pieces.l0 k at_ n acc = some (acc ++ ps) ∧ Chain at_ n ps ∧ ps.length ≤ d := by
  induction d with
  | zero =>
    intro k at_ n acc h0 h1 h2 h3 hk hl
    obtain ⟨k, rfl⟩ : ∃ m, k = m + 1 := ⟨k - 1, by omega⟩
    obtain rfl : n = 0 := by omega
    refine ⟨[], ?_, rfl, by simp⟩
    simp only [block_pieces.l0]
    rw [if_neg (by omega), List.append_nil]
  | succ d ih =>
    intro k at_ n acc h0 h1 h2 h3 hk hl
    obtain ⟨k, rfl⟩ : ∃ m, k = m + 1 := ⟨k - 1, by omega⟩
    by_cases hn : n > 0
    · have et : Int.tmod at_ 512 = at_ % 512 := Int.tmod_eq_emod_of_nonneg h0
      have ed : Int.tdiv at_ 512 = at_ / 512 := Int.tdiv_eq_ediv_of_nonneg h0
      have e1 : wrap64 (512 - at_ % 512) = 512 - at_ % 512 := by unfold wrap64; omega
      obtain ⟨m, hm⟩ : ∃ m, mn n (512 - at_ % 512) = m := ⟨_, rfl⟩
      have hm' : m = if 512 - at_ % 512 < n then 512 - at_ % 512 else n := hm.symm
      have hb : 0 < m ∧ m ≤ n ∧ at_ % 512 + m ≤ 512 ∧ (m < n → at_ % 512 + m = 512) := by split at hm' <;> omega
      have e2 : wrap64 (at_ + m) = at_ + m := by unfold wrap64; omega
      have e3 : wrap64 (n - m) = n - m := by unfold wrap64; omega
      have e4 : wrap64 (at_ / 512) = at_ / 512 := by unfold wrap64; omega
      obtain ⟨ps, hp1, hp2, hp3⟩ := ih k (at_ + m) (n - m) (acc ++ [⟨at_ / 512, at_ % 512, m⟩]) (by omega) (by omega) (by omega) (by omega) (by omega) (by simp; omega)
      refine ⟨⟨at_ / 512, at_ % 512, m⟩ :: ps, ?_, ?_, by simp; omega⟩
      · simp only [block_pieces.l0]
        rw [if_pos hn, if_pos (by omega), et, ed, e1, hm, e2, e3, e4, hp1, List.append_assoc]
        rfl
      · exact ⟨⟨by show at_ / 512 * 512 + at_ % 512 = at_; omega, by show 0 ≤ at_ / 512; omega, by show 0 ≤ at_ % 512; omega, hb.1, hb.2.1, hb.2.2.1⟩, hb.2.2.2, hp2⟩
    · obtain rfl : n = 0 := by omega
      refine ⟨[], ?_, rfl, by simp⟩
      simp only [block_pieces.l0]
      rw [if_neg (by omega), List.append_nil]
theorem pieces_chain (k : Nat) (at_ n : Int) (h0 : 0 ≤ at_) (h1 : 0 ≤ n) (h2 : at_ + n ≤ 1000000000) (hk : n < k) : ∃ ps, block_pieces.f k at_ n = some ps ∧ Chain at_ n ps ∧ ps.length ≤ n := by
  obtain ⟨ps, h3, h4, h5⟩ := pieces_go n.toNat k at_ n [] h0 h1 h2 (by omega) (by omega) (by simp; omega)
  exact ⟨ps, by unfold block_pieces.f; simpa using h3, h4, by omega⟩
theorem Chain.nil_inv {at_ n : Int} (h : Chain at_ n []) : n = 0 := h
theorem Chain.cons_inv {at_ n : Int} {p : S80} {ps : List S80} (h : Chain at_ n (p :: ps)) : (p.f0 * 512 + p.f1 = at_ ∧ 0 ≤ p.f0 ∧ 0 ≤ p.f1 ∧ 0 < p.f2 ∧ p.f2 ≤ n ∧ p.f1 + p.f2 ≤ 512) ∧ (p.f2 < n → p.f1 + p.f2 = 512) ∧ Chain (at_ + p.f2) (n - p.f2) ps := h
end Go.Proofs.Ytnbomjfpnpmllaa.Q
end
section
namespace Go.Proofs.Ytnbomjfpnpmllaa.Q
open Go.RowKit Go.Proofs.YtnbomjfpnpmllaaW.PrintWords Go.Proofs.YtnbomjfpnpmllaaW.PrintLast Go.Proofs.YtnbomjfpnpmllaaW.PrintMore
def slices_Clone_byte_byte.f (l0 : List Int) : Option (List Int) := if l0.length * 1 < 140737488355328 then some l0 else none
set_option maxHeartbeats 1000000 in
theorem slices_Clone_byte_byte.calls (A0 : Option Addr) (c0 : Nat) (l0 : List Int) (r : List Int) (w : World) (hr0 : Kd.C (Kd.int .u8) w A0 l0.length l0) (hc0 : l0.length ≤ c0) (h : slices_Clone_byte_byte.f l0 = some r) :
    Calls Try.prog 49 #[.slice A0 l0.length c0] w fun e w' => ∃ v0_ : Value, e = .returned (v0_) ∧ Kd.R (Kd.int .u8) 5 w' w.heap.size (fun _ => True) v0_ r ∧ Below w.heap.size w w' := by
  have q : ∀ (w : World) (a : Option Addr) (n c n' c' : Nat), (binOp .eql 27 (.slice a n c) (.slice none n' c')).run Try.prog w = .ok (.bool a.isNone) w := fun w a n c n' c' => Lib.run_eql_slice_nil w _ _ a n c n' c' Try.underlying27
  unfold slices_Clone_byte_byte.f at h
  split at h
  · rename_i hl
    obtain rfl := Option.some.inj h
    clear h
    cases A0 with
    | none =>
      obtain rfl := C_nil_eq hr0
      go_enter Try.func49, Try.ntmps49
      go_wp2
      go_ret
      exact ⟨_, rfl, Kd.R_nil _ _ _ _ _, Below.refl _ _⟩
    | some ad =>
      have HR := Aside0.mk hr0
      have HL := Aside0.mk hl
      clear hr0 hl hc0
      go_enter Try.func49, Try.ntmps49
      go_wp2_with (at_builtin; refine Kd.R_append_rows (Kd.int .u8) (w0 := w) w.heap.size rfl (.tmp 5) (.tmp 6) 27 5 (.int .u8 0) 1 rfl Try.underlying27 info5 rfl (by decide) (by omega) (.slice (some ⟨w.heap.size, 0, none⟩) 0 0) ([] : List Int) l0 _ _ _ (fun _ => True) (fun _ => False) rfl rfl ?aO ?aR (fun _ _ h => h) (fun _ h => h.elim) ?aF ?aB ?aS ?aL ?_; (case aR => exact Kd.C_alloc HR.out _); (case aB => exact (below_alloc (Below.refl _ _) _)); (case aF => exact (fun _ _ => trivial)); (case aO => exact R_empty _ _ _ _ (Nat.le_refl _)); (case aS => simp); (case aL => have := HL.out; simp only [List.length_nil]; omega); intro v1 w1 ho hb hg hat; have HO := Aside0.mk ho; have HB := Aside0.mk hb; clear ho hb hg hat)
      go_ret
      exact ⟨_, rfl, HO.out, HB.out⟩
  · cases h
end Go.Proofs.Ytnbomjfpnpmllaa.Q
end
section
namespace Go.Proofs.Ytnbomjfpnpmllaa.Q
open Go.RowKit Go.Proofs.YtnbomjfpnpmllaaW.PrintWords Go.Proofs.YtnbomjfpnpmllaaW.PrintLast Go.Proofs.YtnbomjfpnpmllaaW.PrintMore
set_option linter.unusedVariables false
set_option linter.unusedSimpArgs false

attribute [local go_sem] max2_int min2_int max_two min_two max_three min_three max_four min_four
/-! ### block_Formed: function 32 -/
def block_Formed.f (l0 : List Int) : Option (Bool) := if ((l0.length : Int) % 512) = 0 then (some (decide ((wrap64 ((l0.length : Int) / 512)) ≤ 64))) else (some false)
set_option maxHeartbeats 8000000 in
set_option maxRecDepth 100000 in
theorem block_Formed.calls (A0 : Option Addr) (c0 : Nat) (l0 : List Int) (r : Bool) (w : World) (hr0 : Kd.C (Kd.int .u8) w A0 l0.length l0) (hc0 : l0.length ≤ c0) (h : block_Formed.f l0 = some r) :
    Calls Try.prog 32 #[.slice A0 l0.length c0] w fun e w' => e = .returned (.bool r) ∧ Drawn0 w w' := by
  have HR0 := Aside0.mk hr0
  have HC0 := Aside0.mk hc0
  clear hr0 hc0
  have H : (if ((l0.length : Int) % 512) = 0 then (some (decide ((wrap64 ((l0.length : Int) / 512)) ≤ 64))) else (some false)) = some r := h
  clear h
  by_cases c2 : ((l0.length : Int) % 512) = 0
  · rw [if_pos c2] at H
    have c2b0 : (((l0.length : Int) % 512) == 0) = true := beq_iff_eq.mpr c2
    have c2b1 : (((l0.length : Int) % 512) != 0) = false := bne_eq_false_iff_eq.mpr c2
    clear c2
    obtain rfl := Option.some.inj H
    go_enter Try.func32, Try.ntmps32
    go_wp2
    go_ret
    exact ⟨by first | rfl | (simp; done) | (simp [*]; done), by repeat (first | exact Drawn0.refl _ | apply Drawn0.step)⟩
  · rw [if_neg c2] at H
    have c2b0 : (((l0.length : Int) % 512) == 0) = false := beq_eq_false_iff_ne.mpr c2
    have c2b1 : (((l0.length : Int) % 512) != 0) = true := bne_iff_ne.mpr c2
    obtain rfl := Option.some.inj H
    go_enter Try.func32, Try.ntmps32
    go_wp2
    go_ret
    exact ⟨by first | rfl | (simp; done) | (simp [*]; done), by repeat (first | exact Drawn0.refl _ | apply Drawn0.step)⟩

end Go.Proofs.Ytnbomjfpnpmllaa.Q
end
section
namespace Go.Proofs.Ytnbomjfpnpmllaa.Q
open Go.RowKit Go.Proofs.YtnbomjfpnpmllaaW.PrintWords Go.Proofs.YtnbomjfpnpmllaaW.PrintLast Go.Proofs.YtnbomjfpnpmllaaW.PrintMore
set_option linter.unusedVariables false
set_option linter.unusedSimpArgs false

attribute [local go_sem] max2_int min2_int max_two min_two max_three min_three max_four min_four
/-! ### block_check: function 52 -/
def block_check.f (l0 : List Int) (a1 : Int) : Option (Int) := (block_Formed.f l0).bind fun t53001 => (if t53001 = true then (if a1 < 0 then (some 23) else (if a1 ≥ (wrap64 ((l0.length : Int) / 512)) then (some 23) else (some 0))) else (some 1))
set_option maxHeartbeats 8000000 in
set_option maxRecDepth 100000 in
theorem block_check.calls (A0 : Option Addr) (c0 : Nat) (l0 : List Int) (a1 : Int) (r : Int) (w : World) (hr0 : Kd.C (Kd.int .u8) w A0 l0.length l0) (hc0 : l0.length ≤ c0) (h : block_check.f l0 a1 = some r) :
    Calls Try.prog 52 #[.slice A0 l0.length c0, .int .i64 a1] w fun e w' => e = .returned (.int .i64 r) ∧ Drawn0 w w' := by
  have HR0 := Aside0.mk hr0
  have HC0 := Aside0.mk hc0
  clear hr0 hc0
  have H : ((block_Formed.f l0).bind fun t53001 => (if t53001 = true then (if a1 < 0 then (some 23) else (if a1 ≥ (wrap64 ((l0.length : Int) / 512)) then (some 23) else (some 0))) else (some 1))) = some r := h
  clear h
  replace H := Option.bind_eq_some_iff.mp H
  obtain ⟨t53001, A30, H⟩ := H
  replace H : (if t53001 = true then (if a1 < 0 then (some 23) else (if a1 ≥ (wrap64 ((l0.length : Int) / 512)) then (some 23) else (some 0))) else (some 1)) = some r := H
  have A3 := Aside0.mk A30
  clear A30
  by_cases c4 : t53001 = true
  · subst c4
    have H1 : (if a1 < 0 then (some 23) else (if a1 ≥ (wrap64 ((l0.length : Int) / 512)) then (some 23) else (some 0))) = some r := by rw [if_pos rfl] at H; exact H
    clear H
    have H := H1
    clear H1
    by_cases c5 : a1 < 0
    · rw [if_pos c5] at H
      have c5b0 : decide (a1 < 0) = true := decide_eq_true c5
      clear c5
      obtain rfl := Option.some.inj H
      go_enter Try.func52, Try.ntmps52
      go_wp2_with (first | ((with_reducible refine gate_callee (f := 32) rfl ?_); refine goesL_ (some 7) rfl rfl Try.func32 (by kernel_rfl) rfl #[.slice A0 l0.length c0] rfl (by (try simp only [List.map_toArray, List.map_cons, List.map_nil]); first | done | rfl | (simp only [List.length_drop, List.length_take]; rfl)) ?_; (with_reducible refine (block_Formed.calls _ _ l0 true _ ?side1 ?side2 A3.out).mono ?_); (case side1 => repeat (first | exact HR0.out | (with_reducible refine Kd.C_alloc ?_ _) | (with_reducible refine Kd.C_drewN ?_ _) | (with_reducible refine Kd.C_drew ?_))); (case side2 => exact HC0.out); rintro e w' ⟨rfl, ⟨nd, rfl⟩⟩; refine ⟨_, rfl, ?_⟩))
      go_ret
      exact ⟨by first | rfl | (simp; done) | (simp [*]; done), by repeat (first | exact Drawn0.refl _ | apply Drawn0.step)⟩
    · rw [if_neg c5] at H
      have c5b0 : decide (a1 < 0) = false := decide_eq_false c5
      clear c5
      by_cases c6 : a1 ≥ (wrap64 ((l0.length : Int) / 512))
      · rw [if_pos c6] at H
        have c6b0 : decide ((wrap64 ((l0.length : Int) / 512)) ≤ a1) = true := decide_eq_true c6
        clear c6
        obtain rfl := Option.some.inj H
        go_enter Try.func52, Try.ntmps52
        go_wp2_with (first | ((with_reducible refine gate_callee (f := 32) rfl ?_); refine goesL_ (some 7) rfl rfl Try.func32 (by kernel_rfl) rfl #[.slice A0 l0.length c0] rfl (by (try simp only [List.map_toArray, List.map_cons, List.map_nil]); first | done | rfl | (simp only [List.length_drop, List.length_take]; rfl)) ?_; (with_reducible refine (block_Formed.calls _ _ l0 true _ ?side1 ?side2 A3.out).mono ?_); (case side1 => repeat (first | exact HR0.out | (with_reducible refine Kd.C_alloc ?_ _) | (with_reducible refine Kd.C_drewN ?_ _) | (with_reducible refine Kd.C_drew ?_))); (case side2 => exact HC0.out); rintro e w' ⟨rfl, ⟨nd, rfl⟩⟩; refine ⟨_, rfl, ?_⟩))
        go_ret
        exact ⟨by first | rfl | (simp; done) | (simp [*]; done), by repeat (first | exact Drawn0.refl _ | apply Drawn0.step)⟩
      · rw [if_neg c6] at H
        have c6b0 : decide ((wrap64 ((l0.length : Int) / 512)) ≤ a1) = false := decide_eq_false c6
        clear c6
        obtain rfl := Option.some.inj H
        go_enter Try.func52, Try.ntmps52
        go_wp2_with (first | ((with_reducible refine gate_callee (f := 32) rfl ?_); refine goesL_ (some 7) rfl rfl Try.func32 (by kernel_rfl) rfl #[.slice A0 l0.length c0] rfl (by (try simp only [List.map_toArray, List.map_cons, List.map_nil]); first | done | rfl | (simp only [List.length_drop, List.length_take]; rfl)) ?_; (with_reducible refine (block_Formed.calls _ _ l0 true _ ?side1 ?side2 A3.out).mono ?_); (case side1 => repeat (first | exact HR0.out | (with_reducible refine Kd.C_alloc ?_ _) | (with_reducible refine Kd.C_drewN ?_ _) | (with_reducible refine Kd.C_drew ?_))); (case side2 => exact HC0.out); rintro e w' ⟨rfl, ⟨nd, rfl⟩⟩; refine ⟨_, rfl, ?_⟩))
        go_ret
        exact ⟨by first | rfl | (simp; done) | (simp [*]; done), by repeat (first | exact Drawn0.refl _ | apply Drawn0.step)⟩
  · replace c4 := Bool.eq_false_iff.mpr c4
    subst c4
    have H1 : (some 1) = some r := by rw [if_neg (show ¬ (false = true) by decide)] at H; exact H
    clear H
    have H := H1
    clear H1
    obtain rfl := Option.some.inj H
    go_enter Try.func52, Try.ntmps52
    go_wp2_with (first | ((with_reducible refine gate_callee (f := 32) rfl ?_); refine goesL_ (some 7) rfl rfl Try.func32 (by kernel_rfl) rfl #[.slice A0 l0.length c0] rfl (by (try simp only [List.map_toArray, List.map_cons, List.map_nil]); first | done | rfl | (simp only [List.length_drop, List.length_take]; rfl)) ?_; (with_reducible refine (block_Formed.calls _ _ l0 false _ ?side1 ?side2 A3.out).mono ?_); (case side1 => repeat (first | exact HR0.out | (with_reducible refine Kd.C_alloc ?_ _) | (with_reducible refine Kd.C_drewN ?_ _) | (with_reducible refine Kd.C_drew ?_))); (case side2 => exact HC0.out); rintro e w' ⟨rfl, ⟨nd, rfl⟩⟩; refine ⟨_, rfl, ?_⟩))
    go_ret
    exact ⟨by first | rfl | (simp; done) | (simp [*]; done), by repeat (first | exact Drawn0.refl _ | apply Drawn0.step)⟩

end Go.Proofs.Ytnbomjfpnpmllaa.Q
end
section
namespace Go.Proofs.Ytnbomjfpnpmllaa.Q
open Go.RowKit Go.Proofs.YtnbomjfpnpmllaaW.PrintWords Go.Proofs.YtnbomjfpnpmllaaW.PrintLast Go.Proofs.YtnbomjfpnpmllaaW.PrintMore
def diskB (l : List Int) : Bool := decide (l.length % 512 = 0 ∧ l.length ≤ 32768)
theorem block_Formed_eq (l : List Int) (hl : l.length ≤ 140737488351232) : block_Formed.f l = some (diskB l) := by
  unfold block_Formed.f diskB
  have : wrap64 ((l.length : Int) / 512) = (l.length : Int) / 512 := by unfold wrap64; omega
  rw [this]
  split
  · rw [Option.some.injEq, decide_eq_decide]; omega
  · rw [Option.some.injEq, eq_comm, decide_eq_false_iff_not]; omega
theorem block_check_eq (l : List Int) (n : Int) (hl : l.length ≤ 140737488351232) : block_check.f l n = some (if diskB l = true then (if 0 ≤ n ∧ n < l.length / 512 then 0 else 23) else 1) := by
  unfold block_check.f
  rw [block_Formed_eq l hl]
  have : wrap64 ((l.length : Int) / 512) = (l.length : Int) / 512 := by unfold wrap64; omega
  rw [this, Option.bind_some]
  split
  · split
    · rw [if_neg (by omega)]
    · split
      · rw [if_neg (by omega)]
      · rw [if_pos (by omega)]
  · rfl
end Go.Proofs.Ytnbomjfpnpmllaa.Q
end
section
namespace Go.Proofs.Ytnbomjfpnpmllaa.Q
open Go.RowKit Go.Proofs.YtnbomjfpnpmllaaW.PrintWords Go.Proofs.YtnbomjfpnpmllaaW.PrintLast Go.Proofs.YtnbomjfpnpmllaaW.PrintMore
set_option linter.unusedVariables false
set_option linter.unusedSimpArgs false

attribute [local go_sem] max2_int min2_int max_two min_two max_three min_three max_four min_four
/-! ### block_stretch: function 45 -/
def block_stretch.f (l0 : List Int) (a1 : Int) (a2 : Int) : Option (Int) := (block_Formed.f l0).bind fun t46001 => (if t46001 = true then (if a1 < 0 then (some 23) else (if a2 < 0 then (some 23) else (if a1 > (l0.length : Int) then (some 23) else (if a2 > (wrap64 ((l0.length : Int) - a1)) then (some 23) else (some 0))))) else (some 1))
set_option maxHeartbeats 8000000 in
set_option maxRecDepth 100000 in
theorem block_stretch.calls (A0 : Option Addr) (c0 : Nat) (l0 : List Int) (a1 : Int) (a2 : Int) (r : Int) (w : World) (hr0 : Kd.C (Kd.int .u8) w A0 l0.length l0) (hc0 : l0.length ≤ c0) (h : block_stretch.f l0 a1 a2 = some r) :
    Calls Try.prog 45 #[.slice A0 l0.length c0, .int .i64 a1, .int .i64 a2] w fun e w' => e = .returned (.int .i64 r) ∧ Drawn0 w w' := by
  have HR0 := Aside0.mk hr0
  have HC0 := Aside0.mk hc0
  clear hr0 hc0
  have H : ((block_Formed.f l0).bind fun t46001 => (if t46001 = true then (if a1 < 0 then (some 23) else (if a2 < 0 then (some 23) else (if a1 > (l0.length : Int) then (some 23) else (if a2 > (wrap64 ((l0.length : Int) - a1)) then (some 23) else (some 0))))) else (some 1))) = some r := h
  clear h
  replace H := Option.bind_eq_some_iff.mp H
  obtain ⟨t46001, A40, H⟩ := H
  replace H : (if t46001 = true then (if a1 < 0 then (some 23) else (if a2 < 0 then (some 23) else (if a1 > (l0.length : Int) then (some 23) else (if a2 > (wrap64 ((l0.length : Int) - a1)) then (some 23) else (some 0))))) else (some 1)) = some r := H
  have A4 := Aside0.mk A40
  clear A40
  by_cases c5 : t46001 = true
  · subst c5
    have H1 : (if a1 < 0 then (some 23) else (if a2 < 0 then (some 23) else (if a1 > (l0.length : Int) then (some 23) else (if a2 > (wrap64 ((l0.length : Int) - a1)) then (some 23) else (some 0))))) = some r := by rw [if_pos rfl] at H; exact H
    clear H
    have H := H1
    clear H1
    by_cases c6 : a1 < 0
    · rw [if_pos c6] at H
      have c6b0 : decide (a1 < 0) = true := decide_eq_true c6
      clear c6
      obtain rfl := Option.some.inj H
      go_enter Try.func45, Try.ntmps45
      go_wp2_with (first | ((with_reducible refine gate_callee (f := 32) rfl ?_); refine goesL_ (some 9) rfl rfl Try.func32 (by kernel_rfl) rfl #[.slice A0 l0.length c0] rfl (by (try simp only [List.map_toArray, List.map_cons, List.map_nil]); first | done | rfl | (simp only [List.length_drop, List.length_take]; rfl)) ?_; (with_reducible refine (block_Formed.calls _ _ l0 true _ ?side1 ?side2 A4.out).mono ?_); (case side1 => repeat (first | exact HR0.out | (with_reducible refine Kd.C_alloc ?_ _) | (with_reducible refine Kd.C_drewN ?_ _) | (with_reducible refine Kd.C_drew ?_))); (case side2 => exact HC0.out); rintro e w' ⟨rfl, ⟨nd, rfl⟩⟩; refine ⟨_, rfl, ?_⟩))
      go_ret
      exact ⟨by first | rfl | (simp; done) | (simp [*]; done), by repeat (first | exact Drawn0.refl _ | apply Drawn0.step)⟩
    · rw [if_neg c6] at H
      have c6b0 : decide (a1 < 0) = false := decide_eq_false c6
      clear c6
      by_cases c7 : a2 < 0
      · rw [if_pos c7] at H
        have c7b0 : decide (a2 < 0) = true := decide_eq_true c7
        clear c7
        obtain rfl := Option.some.inj H
        go_enter Try.func45, Try.ntmps45
        go_wp2_with (first | ((with_reducible refine gate_callee (f := 32) rfl ?_); refine goesL_ (some 9) rfl rfl Try.func32 (by kernel_rfl) rfl #[.slice A0 l0.length c0] rfl (by (try simp only [List.map_toArray, List.map_cons, List.map_nil]); first | done | rfl | (simp only [List.length_drop, List.length_take]; rfl)) ?_; (with_reducible refine (block_Formed.calls _ _ l0 true _ ?side1 ?side2 A4.out).mono ?_); (case side1 => repeat (first | exact HR0.out | (with_reducible refine Kd.C_alloc ?_ _) | (with_reducible refine Kd.C_drewN ?_ _) | (with_reducible refine Kd.C_drew ?_))); (case side2 => exact HC0.out); rintro e w' ⟨rfl, ⟨nd, rfl⟩⟩; refine ⟨_, rfl, ?_⟩))
        go_ret
        exact ⟨by first | rfl | (simp; done) | (simp [*]; done), by repeat (first | exact Drawn0.refl _ | apply Drawn0.step)⟩
      · rw [if_neg c7] at H
        have c7b0 : decide (a2 < 0) = false := decide_eq_false c7
        clear c7
        by_cases c8 : a1 > (l0.length : Int)
        · rw [if_pos c8] at H
          have c8b0 : decide ((l0.length : Int) < a1) = true := decide_eq_true c8
          clear c8
          obtain rfl := Option.some.inj H
          go_enter Try.func45, Try.ntmps45
          go_wp2_with (first | ((with_reducible refine gate_callee (f := 32) rfl ?_); refine goesL_ (some 9) rfl rfl Try.func32 (by kernel_rfl) rfl #[.slice A0 l0.length c0] rfl (by (try simp only [List.map_toArray, List.map_cons, List.map_nil]); first | done | rfl | (simp only [List.length_drop, List.length_take]; rfl)) ?_; (with_reducible refine (block_Formed.calls _ _ l0 true _ ?side1 ?side2 A4.out).mono ?_); (case side1 => repeat (first | exact HR0.out | (with_reducible refine Kd.C_alloc ?_ _) | (with_reducible refine Kd.C_drewN ?_ _) | (with_reducible refine Kd.C_drew ?_))); (case side2 => exact HC0.out); rintro e w' ⟨rfl, ⟨nd, rfl⟩⟩; refine ⟨_, rfl, ?_⟩))
          go_ret
          exact ⟨by first | rfl | (simp; done) | (simp [*]; done), by repeat (first | exact Drawn0.refl _ | apply Drawn0.step)⟩
        · rw [if_neg c8] at H
          have c8b0 : decide ((l0.length : Int) < a1) = false := decide_eq_false c8
          clear c8
          by_cases c9 : a2 > (wrap64 ((l0.length : Int) - a1))
          · rw [if_pos c9] at H
            have c9b0 : decide ((wrap64 ((l0.length : Int) - a1)) < a2) = true := decide_eq_true c9
            clear c9
            obtain rfl := Option.some.inj H
            go_enter Try.func45, Try.ntmps45
            go_wp2_with (first | ((with_reducible refine gate_callee (f := 32) rfl ?_); refine goesL_ (some 9) rfl rfl Try.func32 (by kernel_rfl) rfl #[.slice A0 l0.length c0] rfl (by (try simp only [List.map_toArray, List.map_cons, List.map_nil]); first | done | rfl | (simp only [List.length_drop, List.length_take]; rfl)) ?_; (with_reducible refine (block_Formed.calls _ _ l0 true _ ?side1 ?side2 A4.out).mono ?_); (case side1 => repeat (first | exact HR0.out | (with_reducible refine Kd.C_alloc ?_ _) | (with_reducible refine Kd.C_drewN ?_ _) | (with_reducible refine Kd.C_drew ?_))); (case side2 => exact HC0.out); rintro e w' ⟨rfl, ⟨nd, rfl⟩⟩; refine ⟨_, rfl, ?_⟩))
            go_ret
            exact ⟨by first | rfl | (simp; done) | (simp [*]; done), by repeat (first | exact Drawn0.refl _ | apply Drawn0.step)⟩
          · rw [if_neg c9] at H
            have c9b0 : decide ((wrap64 ((l0.length : Int) - a1)) < a2) = false := decide_eq_false c9
            clear c9
            obtain rfl := Option.some.inj H
            go_enter Try.func45, Try.ntmps45
            go_wp2_with (first | ((with_reducible refine gate_callee (f := 32) rfl ?_); refine goesL_ (some 9) rfl rfl Try.func32 (by kernel_rfl) rfl #[.slice A0 l0.length c0] rfl (by (try simp only [List.map_toArray, List.map_cons, List.map_nil]); first | done | rfl | (simp only [List.length_drop, List.length_take]; rfl)) ?_; (with_reducible refine (block_Formed.calls _ _ l0 true _ ?side1 ?side2 A4.out).mono ?_); (case side1 => repeat (first | exact HR0.out | (with_reducible refine Kd.C_alloc ?_ _) | (with_reducible refine Kd.C_drewN ?_ _) | (with_reducible refine Kd.C_drew ?_))); (case side2 => exact HC0.out); rintro e w' ⟨rfl, ⟨nd, rfl⟩⟩; refine ⟨_, rfl, ?_⟩))
            go_ret
            exact ⟨by first | rfl | (simp; done) | (simp [*]; done), by repeat (first | exact Drawn0.refl _ | apply Drawn0.step)⟩
  · replace c5 := Bool.eq_false_iff.mpr c5
    subst c5
    have H1 : (some 1) = some r := by rw [if_neg (show ¬ (false = true) by decide)] at H; exact H
    clear H
    have H := H1
    clear H1
    obtain rfl := Option.some.inj H
    go_enter Try.func45, Try.ntmps45
    go_wp2_with (first | ((with_reducible refine gate_callee (f := 32) rfl ?_); refine goesL_ (some 9) rfl rfl Try.func32 (by kernel_rfl) rfl #[.slice A0 l0.length c0] rfl (by (try simp only [List.map_toArray, List.map_cons, List.map_nil]); first | done | rfl | (simp only [List.length_drop, List.length_take]; rfl)) ?_; (with_reducible refine (block_Formed.calls _ _ l0 false _ ?side1 ?side2 A4.out).mono ?_); (case side1 => repeat (first | exact HR0.out | (with_reducible refine Kd.C_alloc ?_ _) | (with_reducible refine Kd.C_drewN ?_ _) | (with_reducible refine Kd.C_drew ?_))); (case side2 => exact HC0.out); rintro e w' ⟨rfl, ⟨nd, rfl⟩⟩; refine ⟨_, rfl, ?_⟩))
    go_ret
    exact ⟨by first | rfl | (simp; done) | (simp [*]; done), by repeat (first | exact Drawn0.refl _ | apply Drawn0.step)⟩

end Go.Proofs.Ytnbomjfpnpmllaa.Q
end
section
namespace Go.Proofs.Ytnbomjfpnpmllaa.Q
open Go.RowKit Go.Proofs.YtnbomjfpnpmllaaW.PrintWords Go.Proofs.YtnbomjfpnpmllaaW.PrintLast Go.Proofs.YtnbomjfpnpmllaaW.PrintMore
set_option linter.unusedVariables false
set_option linter.unusedSimpArgs false

attribute [local go_sem] max2_int min2_int max_two min_two max_three min_three max_four min_four
/-! ### block_Read: function 47 -/
def block_Read.f (l0 : List Int) (a1 : Int) : Option (List Int × Int) := (block_check.f l0 a1).bind fun t48001 => (if t48001 = 0 then (if 0 ≤ (wrap64 (a1 * 512)) then (if (wrap64 (a1 * 512)) ≤ (l0.length : Int) then (if 512 ≤ ((l0.drop ((wrap64 (a1 * 512)) : Int).toNat).length : Int) then ((slices_Clone_byte_byte.f ((l0.drop ((wrap64 (a1 * 512)) : Int).toNat).take 512)).bind fun t48004 => (some (t48004, 0))) else (none)) else (none)) else (none)) else (some (([] : List Int), t48001)))
set_option maxHeartbeats 8000000 in
set_option maxRecDepth 100000 in
theorem block_Read.calls (A0 : Option Addr) (c0 : Nat) (l0 : List Int) (a1 : Int) (r1 : List Int) (r2 : Int) (w : World) (hr0 : Kd.C (Kd.int .u8) w A0 l0.length l0) (hc0 : l0.length ≤ c0) (h : block_Read.f l0 a1 = some (r1, r2)) :
    Calls Try.prog 47 #[.slice A0 l0.length c0, .int .i64 a1] w fun e w' => ∃ v0_ : Value, e = .returned (.tuple #[v0_, .int .i64 r2]) ∧ Kd.R (Kd.int .u8) 5 w' w.heap.size (fun _ => True) v0_ r1 ∧ Below w.heap.size w w' := by
  have HR0 := Aside0.mk hr0
  have HC0 := Aside0.mk hc0
  clear hr0 hc0
  have HB := Aside0.mk (Below.refl w.heap.size w)
  have H : ((block_check.f l0 a1).bind fun t48001 => (if t48001 = 0 then (if 0 ≤ (wrap64 (a1 * 512)) then (if (wrap64 (a1 * 512)) ≤ (l0.length : Int) then (if 512 ≤ ((l0.drop ((wrap64 (a1 * 512)) : Int).toNat).length : Int) then ((slices_Clone_byte_byte.f ((l0.drop ((wrap64 (a1 * 512)) : Int).toNat).take 512)).bind fun t48004 => (some (t48004, 0))) else (none)) else (none)) else (none)) else (some (([] : List Int), t48001)))) = some (r1, r2) := h
  clear h
  replace H := Option.bind_eq_some_iff.mp H
  obtain ⟨t48001, A30, H⟩ := H
  replace H : (if t48001 = 0 then (if 0 ≤ (wrap64 (a1 * 512)) then (if (wrap64 (a1 * 512)) ≤ (l0.length : Int) then (if 512 ≤ ((l0.drop ((wrap64 (a1 * 512)) : Int).toNat).length : Int) then ((slices_Clone_byte_byte.f ((l0.drop ((wrap64 (a1 * 512)) : Int).toNat).take 512)).bind fun t48004 => (some (t48004, 0))) else (none)) else (none)) else (none)) else (some (([] : List Int), t48001))) = some (r1, r2) := H
  have A3 := Aside0.mk A30
  clear A30
  by_cases c4 : t48001 = 0
  · rw [if_pos c4] at H
    have c4b0 : (t48001 == 0) = true := beq_iff_eq.mpr c4
    have c4b1 : (t48001 != 0) = false := bne_eq_false_iff_eq.mpr c4
    clear c4
    obtain ⟨ji5, hji5⟩ : ∃ j_ : Int, (wrap64 (a1 * 512)) = j_ := ⟨_, rfl⟩
    replace H : (if 0 ≤ (ji5) then (if (ji5) ≤ (l0.length : Int) then (if 512 ≤ ((l0.drop ((ji5) : Int).toNat).length : Int) then ((slices_Clone_byte_byte.f ((l0.drop ((ji5) : Int).toNat).take 512)).bind fun t48004 => (some (t48004, 0))) else (none)) else (none)) else (none)) = some (r1, r2) := by first | (rw [hji5] at H; exact H) | (simp only [hji5] at H ⊢; exact H)
    (try rw [hji5] at A3)
    have hji5w : (IntKind.i64.wrap (a1 * 512)) = ji5 := (i64_w _).trans hji5
    by_cases c6 : 0 ≤ (ji5)
    · rw [if_pos c6] at H
      have c6b0 := eq_true c6
      have c6b1 : decide (0 ≤ (ji5)) = true := decide_eq_true c6
      clear c6
      by_cases c7 : (ji5) ≤ (l0.length : Int)
      · rw [if_pos c7] at H
        have c7b0 := eq_true c7
        have c7b1 : decide ((ji5) ≤ (l0.length : Int)) = true := decide_eq_true c7
        clear c7
        by_cases c8 : 512 ≤ ((l0.drop ((ji5) : Int).toNat).length : Int)
        · rw [if_pos c8] at H
          have c8b0 := eq_true c8
          have c8b1 : decide (512 ≤ ((l0.drop ((ji5) : Int).toNat).length : Int)) = true := decide_eq_true c8
          clear c8
          replace H := Option.bind_eq_some_iff.mp H
          obtain ⟨t48004, A90, H⟩ := H
          replace H : (some (t48004, 0)) = some (r1, r2) := H
          have A9 := Aside0.mk A90
          clear A90
          simp only [Option.some.injEq, Prod.mk.injEq] at H
          obtain ⟨rfl, rfl⟩ := H
          (try (have hcap_ : 512 ≤ c0 - ji5.toNat := (by have h1 := HC0.out; have h2 := of_eq_true c8b0; have h3 := of_eq_true c7b0; have h4 := of_eq_true c6b0; rw [List.length_drop] at h2; omega)))
          go_enter Try.func47, Try.ntmps47
          go_wp2_with (first | ((with_reducible refine gate_callee (f := 52) rfl ?_); refine goesL_ (some 9) rfl rfl Try.func52 (by kernel_rfl) rfl #[.slice A0 l0.length c0, .int .i64 a1] rfl (by (try simp only [List.map_toArray, List.map_cons, List.map_nil]); first | done | rfl | (simp only [List.length_drop, List.length_take]; rfl)) ?_; (with_reducible refine (block_check.calls _ _ l0 a1 t48001 _ ?side1 ?side2 A3.out).mono ?_); (case side1 => repeat (first | exact HR0.out | (with_reducible refine Kd.C_alloc ?_ _) | (with_reducible refine Kd.C_drewN ?_ _) | (with_reducible refine Kd.C_drew ?_))); (case side2 => exact HC0.out); rintro e w' ⟨rfl, ⟨nd, rfl⟩⟩; refine ⟨_, rfl, ?_⟩; obtain ⟨i010, hi010, _, hsz10, _⟩ := info_parts info5; obtain ⟨A10, hcut10, hA10, hC10⟩ := print_drop_of (P := Try.prog) (Value.int .u8) 0 27 5 .i64 Try.underlying27 hi010 hsz10 A0 c0 l0 (ji5) (of_decide_eq_true (by first | (with_reducible assumption) | assumption)) (of_decide_eq_true (by first | (with_reducible assumption) | assumption)) HC0.out; have HR48002 := Aside0.mk (Kd.C_of_reads (h1 := fun _ => rfl) (hA10 _ (Kd.reads_of_C HR0.out))); have HC48002 := Aside0.mk hC10; clear hA10 hC10 hi010 hsz10; obtain ⟨i011, hi011, _, hsz11, _⟩ := info_parts info5; obtain ⟨hcut11, hA11, hC11⟩ := print_take_of (P := Try.prog) (Value.int .u8) 0 27 5 .i64 Try.underlying27 hi011 hsz11 A10 (c0 - (ji5).toNat) (l0.drop ((ji5) : Int).toNat) 512 (by omega) (of_decide_eq_true (by first | (with_reducible assumption) | assumption)) HC48002.out; have HR48003 := Aside0.mk (Kd.C_of_reads (h1 := fun _ => rfl) (hA11 _ (Kd.reads_of_C HR48002.out))); have HC48003 := Aside0.mk hC11; clear hA11 hC11 hi011 hsz11) | ((with_reducible refine gate_callee (f := 49) rfl ?_); refine goesL_ (some 18) rfl rfl Try.func49 (by kernel_rfl) rfl #[.slice A10 ((l0.drop ((ji5) : Int).toNat).take 512).length (c0 - (ji5).toNat)] rfl (by (try simp only [List.map_toArray, List.map_cons, List.map_nil]); first | done | (rw [show ((l0.drop ((ji5) : Int).toNat).take 512).length = 512 from (by rw [List.length_take]; have h_ : (512 : Int) ≤ ((l0.drop ((ji5) : Int).toNat).length : Int) := of_decide_eq_true (by first | (with_reducible assumption) | assumption); omega)] <;> rfl) | (simp only [hji5]; rfl) | rfl | (simp only [List.length_drop, List.length_take]; rfl)) ?_; (with_reducible refine (slices_Clone_byte_byte.calls _ _ ((l0.drop ((ji5) : Int).toNat).take 512) t48004 _ ?side1 ?side2 A9.out).mono ?_); (case side1 => repeat (first | exact HR48003.out | (with_reducible refine Kd.C_alloc ?_ _) | (with_reducible refine Kd.C_drewN ?_ _) | (with_reducible refine Kd.C_drew ?_))); (case side2 => exact HC48003.out); rintro e w12 ⟨v48005, rfl, ho0, hb⟩; refine ⟨_, rfl, ?_⟩; have n0_ := Aside0.mk (Kd.R_lower ho0 (below_size (by repeat (first | (with_reducible first | exact HB.out | apply below_alloc | apply pw_below_drewN | apply below_drew1) | exact HB.out)))); have n1_ := Aside0.mk (below_step (by repeat (first | (with_reducible first | exact HB.out | apply below_alloc | apply pw_below_drewN | apply below_drew1) | exact HB.out)) hb); clear HB; have HO48006 := n0_; have HB := n1_; clear n0_ n1_; (try clear hb); (try clear hb2); (try clear hk); (try clear hi); (try clear ho0)))
          go_ret2
          exact ⟨_, by first | rfl | (simp [errW_none, errW_some] <;> rfl) | (simp only [← hji5]; first | rfl | (simp [errW_none, errW_some] <;> rfl)) | (simp [*, errW_none, errW_some] <;> rfl), by (with_reducible repeat (first | apply Kd.R_alloc | apply Kd.R_drewN | apply Kd.R_drew)); exact HO48006.out, by repeat (first | (with_reducible first | exact HB.out | apply below_alloc | apply pw_below_drewN | apply below_drew1) | exact HB.out)⟩
        · rw [if_neg c8] at H
          exact absurd H (by simp)
      · rw [if_neg c7] at H
        exact absurd H (by simp)
    · rw [if_neg c6] at H
      exact absurd H (by simp)
  · rw [if_neg c4] at H
    have c4b0 : (t48001 == 0) = false := beq_eq_false_iff_ne.mpr c4
    have c4b1 : (t48001 != 0) = true := bne_iff_ne.mpr c4
    simp only [Option.some.injEq, Prod.mk.injEq] at H
    obtain ⟨rfl, rfl⟩ := H
    (try (have hcap_ : 512 ≤ c0 - ji5.toNat := (by have h1 := HC0.out; have h2 := of_eq_true c8b0; have h3 := of_eq_true c7b0; have h4 := of_eq_true c6b0; rw [List.length_drop] at h2; omega)))
    go_enter Try.func47, Try.ntmps47
    go_wp2_with (first | ((with_reducible refine gate_callee (f := 52) rfl ?_); refine goesL_ (some 9) rfl rfl Try.func52 (by kernel_rfl) rfl #[.slice A0 l0.length c0, .int .i64 a1] rfl (by (try simp only [List.map_toArray, List.map_cons, List.map_nil]); first | done | rfl | (simp only [List.length_drop, List.length_take]; rfl)) ?_; (with_reducible refine (block_check.calls _ _ l0 a1 t48001 _ ?side1 ?side2 A3.out).mono ?_); (case side1 => repeat (first | exact HR0.out | (with_reducible refine Kd.C_alloc ?_ _) | (with_reducible refine Kd.C_drewN ?_ _) | (with_reducible refine Kd.C_drew ?_))); (case side2 => exact HC0.out); rintro e w' ⟨rfl, ⟨nd, rfl⟩⟩; refine ⟨_, rfl, ?_⟩))
    go_ret2
    exact ⟨_, by first | rfl | (simp [errW_none, errW_some] <;> rfl) | (simp [*, errW_none, errW_some] <;> rfl), by first | exact Kd.R_nil _ _ _ _ _ | exact Kd.N_nil _ _ _ _ _ | exact Kd.V_nil _ _ _ _ _ | exact Kd.Q_nil _ _ _ _ _ | exact Kd.S_nil _ _ _ _ _, by repeat (first | (with_reducible first | exact HB.out | apply below_alloc | apply pw_below_drewN | apply below_drew1) | exact HB.out)⟩

end Go.Proofs.Ytnbomjfpnpmllaa.Q
end
section
namespace Go.Proofs.Ytnbomjfpnpmllaa.Q
open Go.RowKit Go.Proofs.YtnbomjfpnpmllaaW.PrintWords Go.Proofs.YtnbomjfpnpmllaaW.PrintLast Go.Proofs.YtnbomjfpnpmllaaW.PrintMore
theorem block_stretch_eq (l : List Int) (a n : Int) (hl : l.length ≤ 140737488351232) : block_stretch.f l a n = some (if diskB l = true then (if 0 ≤ a ∧ 0 ≤ n ∧ a ≤ l.length ∧ n ≤ l.length - a then 0 else 23) else 1) := by
  unfold block_stretch.f
  rw [block_Formed_eq l hl, Option.bind_some]
  split
  · split
    · rw [if_neg (by omega)]
    · split
      · rw [if_neg (by omega)]
      · split
        · rw [if_neg (by omega)]
        · have : wrap64 ((l.length : Int) - a) = (l.length : Int) - a := by unfold wrap64; omega
          rw [this]
          split
          · rw [if_neg (by omega)]
          · rw [if_pos (by omega)]
  · rfl
theorem block_Read_eq (l : List Int) (n : Int) (hl : l.length ≤ 140737488351232) : block_Read.f l n = some (if diskB l = true then (if 0 ≤ n ∧ n < l.length / 512 then ((l.drop (n * 512).toNat).take 512, 0) else ([], 23)) else ([], 1)) := by
  unfold block_Read.f
  rw [block_check_eq l n hl, Option.bind_some]
  by_cases hd : diskB l = true
  · have hln : l.length % 512 = 0 ∧ l.length ≤ 32768 := by simpa [diskB] using hd
    rw [if_pos hd, if_pos hd]
    by_cases hn : 0 ≤ n ∧ n < l.length / 512
    · have e : wrap64 (n * 512) = n * 512 := by unfold wrap64; omega
      rw [if_pos hn, if_pos hn, if_pos rfl, e, if_pos (by omega), if_pos (by omega), if_pos (by rw [List.length_drop]; omega)]
      unfold slices_Clone_byte_byte.f
      rw [if_pos (by simp; omega)]
      rfl
    · rw [if_neg hn, if_neg hn, if_neg (by decide)]
  · rw [if_neg hd, if_neg hd, if_neg (by decide)]
/-- What block.Put answers. -/
def block_Put.f (l0 : List Int) (a1 : Int) (l2 : List Int) : Option (List Int × Int) :=
  if l0.length ≤ 140737488351232 then
    (if diskB l0 = true then (if 0 ≤ a1 ∧ a1 ≤ l0.length ∧ l2.length ≤ l0.length - a1 then some (splice l0 a1.toNat l2, 0) else some ([], 23)) else some ([], 1))
  else none
set_option linter.unusedSimpArgs false in
set_option maxHeartbeats 4000000 in
set_option maxRecDepth 100000 in
theorem block_Put.calls (A0 : Option Addr) (c0 : Nat) (l0 : List Int) (a1 : Int) (A2 : Option Addr) (c2 : Nat) (l2 : List Int) (r1 : List Int) (r2 : Int) (w : World) (hr0 : Kd.C (Kd.int .u8) w A0 l0.length l0) (hc0 : l0.length ≤ c0) (hr2 : Kd.C (Kd.int .u8) w A2 l2.length l2) (hc2 : l2.length ≤ c2) (h : block_Put.f l0 a1 l2 = some (r1, r2)) :
    Calls Try.prog 38 #[.slice A0 l0.length c0, .int .i64 a1, .slice A2 l2.length c2] w fun e w' => ∃ v0_ : Value, e = .returned (.tuple #[v0_, .int .i64 r2]) ∧ Kd.R (Kd.int .u8) 5 w' w.heap.size (fun _ => True) v0_ r1 ∧ Below w.heap.size w w' := by
  have HR0 := Aside0.mk hr0
  have HC0 := Aside0.mk hc0
  have HR2 := Aside0.mk hr2
  have HC2 := Aside0.mk hc2
  clear hr0 hc0 hr2 hc2
  unfold block_Put.f at h
  split at h
  case isFalse => cases h
  rename_i hsz
  have HS := Aside0.mk (block_stretch_eq l0 a1 l2.length hsz)
  by_cases hd : diskB l0 = true
  · rw [if_pos hd] at h HS
    by_cases hn : 0 ≤ a1 ∧ a1 ≤ l0.length ∧ l2.length ≤ l0.length - a1
    · rw [if_pos hn] at h
      rw [if_pos ⟨hn.1, by omega, hn.2.1, hn.2.2⟩] at HS
      simp only [Option.some.injEq, Prod.mk.injEq] at h
      obtain ⟨rfl, rfl⟩ := h
      have hln : l0.length % 512 = 0 ∧ l0.length ≤ 32768 := by simpa [diskB] using hd
      have HCl := Aside0.mk (show slices_Clone_byte_byte.f l0 = some l0 by unfold slices_Clone_byte_byte.f; rw [if_pos (by omega)])
      obtain ⟨ps, hps, hch, hpl⟩ := pieces_chain (l2.length + 1) a1 l2.length (by omega) (by omega) (by omega) (by omega)
      have HPS := Aside0.mk hps
      have HCH := Aside0.mk hch
      have HN := Aside0.mk hn
      have HD := Aside0.mk hd
      have HLN := Aside0.mk hln
      have HPL := Aside0.mk hpl
      clear hn hd hln hsz hps hch hpl
      go_enter Try.func38, Try.ntmps38
      go_wp2_with (first
        | (go_at_call 45; refine (block_stretch.calls _ _ _ _ _ _ _ HR0.out HC0.out HS.out).mono ?_; rintro e w' ⟨rfl, ⟨nd, rfl⟩⟩)
        | (go_at_call 49; refine (slices_Clone_byte_byte.calls _ _ _ _ _ (Kd.C_drewN HR0.out _) HC0.out HCl.out).mono ?_; rintro e w1 ⟨v, rfl, ho, hb⟩; obtain ⟨Av, cv, rfl⟩ := Kd.R_slice ho; have HO := Aside0.mk (Kd.R_lower ho (show w.heap.size ≤ _ from Nat.le_refl _)); have HB := Aside0.mk (below_step (pw_below_drewN (Below.refl _ _) _) hb); clear ho hb)
        | (go_at_call 46; refine (block_pieces.calls _ _ _ _ _ HPS.out).mono ?_; rintro e w2 ⟨vp, rfl, hp, hb⟩; obtain ⟨Ap, cp, rfl⟩ := Kd.R_slice hp; have HO2 := Aside0.mk (Kd.R_below HO.out hb); have HP := Aside0.mk (Kd.R_lower hp HB.out.size); have HB2 := Aside0.mk (below_step HB.out hb); clear hp hb HO HB))
      clear HS HCl HPS
      go_loopg [2, 28] ps.length (fun kq v2 v28 w' => ∃ (i : Int) (off : Nat) (A : Option Addr), v28 = .int .i64 i ∧ v2 = .slice A (l2.length - off) (c2 - off) ∧ Aside0 (0 ≤ i ∧ i + kq = ps.length ∧ off ≤ l2.length ∧ Chain (a1 + off) (l2.length - off) (ps.drop i.toNat)) ∧ Aside0 (Kd.C (Kd.int .u8) w A (l2.length - off) (l2.drop off)) ∧ Aside0 (Kd.R (Kd.int .u8) 5 w' w.heap.size (fun _ => True) (.slice Av l0.length cv) (splice l0 a1.toNat (l2.take off))) ∧ Aside0 (Kd.R k80 80 w' w.heap.size (fun _ => True) (.slice Ap ps.length cp) ps) ∧ Aside0 (Below w.heap.size w w'))
      case atStart => exact ⟨0, 0, A2, rfl, rfl, ⟨by omega, by omega, by omega, by simpa using HCH.out⟩, ⟨by simpa using HR2.out⟩, ⟨by simpa [splice] using HO2.out⟩, HP, HB2⟩
      case round =>
        clear HCH HO2 HP HB2
        obtain ⟨i, off, A, rfl, rfl, HI, HA, HO, HP, HB⟩ := hrel
        cases gk with
        | zero =>
          have hlt : decide (i < (ps.length : Int)) = false := decide_eq_false (by have := HI.out; omega)
          go_wp2
          go_ret2
          have hi := HI.out
          have hc := hi.2.2.2
          rw [List.drop_eq_nil_of_le (by omega)] at hc
          have ho := HO.out
          rw [List.take_of_length_le (by have := hc.nil_inv; omega)] at ho
          exact ⟨_, rfl, ho, HB.out⟩
        | succ k1 =>
          have hi := HI.out
          have hil : i.toNat < ps.length := by omega
          have hch := hi.2.2.2
          rw [List.drop_eq_getElem_cons hil] at hch
          have hrd : ps[i.toNat] = rd_T80 ps i := by simp [rd_T80, List.getD_eq_getElem?_getD, List.getElem?_eq_getElem hil]
          rw [hrd] at hch
          obtain ⟨⟨q1, q2, q3, q4, q5, q6⟩, q7, q8⟩ := hch.cons_inv
          have hn := HN.out
          have hln := HLN.out
          obtain ⟨D, hD⟩ : ∃ D, D = splice l0 a1.toNat (l2.take off) := ⟨_, rfl⟩
          obtain ⟨g, cg, eg, -, hgl, -⟩ := Kd.R_form HO.out (by rw [length_splice _ _ _ (by rw [List.length_take]; omega)]; omega)
          injection eg with eg1 eg2 eg3
          subst eg1
          subst eg3
          clear eg2
          have hDl : D.length = l0.length := by rw [hD]; exact length_splice _ _ _ (by rw [List.length_take]; omega)
          obtain ⟨S, hS⟩ : ∃ S, S = (D.drop ((rd_T80 ps i).f0 * 512).toNat).take 512 := ⟨_, rfl⟩
          have hSl : S.length = 512 := by rw [hS, List.length_take, List.length_drop]; omega
          have hDd : diskB D = true := by have := HD.out; simp only [diskB, hDl] at this ⊢; exact this
          have hrd2 : block_Read.f D (rd_T80 ps i).f0 = some (S, 0) := by rw [block_Read_eq D _ (by omega), if_pos hDd, if_pos (by omega), hS]
          have HRead := Aside0.mk (show ∀ W : World, Kd.C (Kd.int .u8) W (some ⟨g, 0, none⟩) l0.length D → Calls Try.prog 47 #[.slice (some ⟨g, 0, none⟩) l0.length cv, .int .i64 (rd_T80 ps i).f0] W (fun e w' => ∃ v0_ : Value, e = .returned (.tuple #[v0_, .int .i64 0]) ∧ Kd.R (Kd.int .u8) 5 w' W.heap.size (fun _ => True) v0_ S ∧ Below W.heap.size W w') from fun W hC => by
            have hcv := (Kd.R_reads' HO.out).2.1
            rw [← hDl] at hC hcv ⊢
            exact block_Read.calls _ _ _ _ _ _ _ hC hcv hrd2)
          rw [← hD] at HO
          have HDL := Aside0.mk hDl
          have HSL := Aside0.mk hSl
          have HDE := Aside0.mk hD
          have HSE := Aside0.mk hS
          have Q8 := Aside0.mk q8
          have HIL := Aside0.mk hil
          have QQ := Aside0.mk (show (rd_T80 ps i).f0 * 512 + (rd_T80 ps i).f1 = a1 + off ∧ 0 ≤ (rd_T80 ps i).f0 ∧ 0 ≤ (rd_T80 ps i).f1 ∧ 0 < (rd_T80 ps i).f2 ∧ (rd_T80 ps i).f2 ≤ l2.length - off ∧ (rd_T80 ps i).f1 + (rd_T80 ps i).f2 ≤ 512 from ⟨q1, q2, q3, q4, q5, q6⟩)
          have hlt : decide (i < (ps.length : Int)) = true := decide_eq_true (by omega)
          obtain ⟨adp, ep, hx0, hx1, hx2⟩ := at_T80 (Kd.R_reads' HP.out).2.2 i (by omega) (by omega)
          cases ep
          have p1 : (0 ≤ i) = True := eq_true (by omega)
          have p2 : (i < (ps.length : Int)) = True := eq_true (by omega)
          clear hi hil hrd hrd2 hch q1 q2 q3 q4 q5 q6 q7 q8 hn hln hD hDl hS hSl hDd
          go_wp2_with (first
            | ((with_reducible refine gate_dst (N := 10) rfl ?_); refine box_event ?hg (N := 10) ?hd (cs := #[.int .i64 0, .int .i64 0, .int .i64 0]) (t := 80) ?hr ?_; (case hd => rfl); (case hg => rfl); (case hr => first | (go_simp; done) | (go_simp; rfl)); intro gb hg w6 hbox hb; have BK := Aside0.mk hbox; have HO1 := Aside0.mk (Kd.R_below HO.out hb); have HP1 := Aside0.mk (Kd.R_below HP.out hb); have HB1 := Aside0.mk (below_step HB.out hb); have GB := Aside0.mk (show w.heap.size ≤ gb from hg ▸ HB.out.size); have AO := Aside0.mk (show ∀ k, (Value.slice (some ⟨g, 0, none⟩) l0.length cv).ownBlock = some k → k ≠ gb from fun k hk => hg ▸ Nat.ne_of_lt (Kd.R_lt HO.out k hk)); have AP := Aside0.mk (show ∀ k, (Value.slice (some adp) ps.length cp).ownBlock = some k → k ≠ gb from fun k hk => hg ▸ Nat.ne_of_lt (Kd.R_lt HP.out k hk)); clear HO HP HB hb hbox hg; have hcz0 : w6.cell? ⟨gb, 0, none⟩ = some (.int .i64 0) := (blk_cell BK.out 0).trans rfl; have hcz1 : w6.cell? ⟨gb, 1, none⟩ = some (.int .i64 0) := (blk_cell BK.out 1).trans rfl; have hcz2 : w6.cell? ⟨gb, 2, none⟩ = some (.int .i64 0) := (blk_cell BK.out 2).trans rfl; have hfz0 := blk_frozen BK.out 0; have hfz1 := blk_frozen BK.out 1; have hfz2 := blk_frozen BK.out 2)
            | (go_at_call 47; refine (HRead.out _ ?side1).mono ?_; (case side1 => rw [← HDL.out]; exact (Kd.R_reads' (R_flat_put rfl (R_flat_put rfl (R_flat_put rfl HO1.out AO.out) AO.out) AO.out)).2.2); rintro e w7 ⟨v, rfl, ho, hb⟩; obtain ⟨As, cs, rfl⟩ := Kd.R_slice ho; have HO2 := Aside0.mk (Kd.R_below (R_flat_put rfl (R_flat_put rfl (R_flat_put rfl HO1.out AO.out) AO.out) AO.out) hb); have HP2 := Aside0.mk (Kd.R_below (R_flat_put rfl (R_flat_put rfl (R_flat_put rfl HP1.out AP.out) AP.out) AP.out) hb); have HS2 := Aside0.mk (Kd.R_lower ho (show w.heap.size ≤ _ by simpa using HB1.out.size)); have BK2 := Aside0.mk (blk_below (blk_put (blk_put (blk_put BK.out 0 _ rfl) 1 _ rfl) 2 _ rfl) hb); have HB2 := Aside0.mk (below_step (below_set (below_set (below_set HB1.out GB.out) GB.out) GB.out) hb); obtain ⟨gs, cs', es, hs1, -, -⟩ := Kd.R_form ho (by rw [HSL.out]; decide); injection es with es1 es2 es3; subst es1; subst es3; have hW : w6.heap.size ≤ gs := (by simpa using hs1); have AGS := Aside0.mk (show g < gs from Nat.lt_of_lt_of_le (Kd.R_lt HO1.out g rfl) hW); have APS := Aside0.mk (show ∀ k, (Value.slice (some adp) ps.length cp).ownBlock = some k → k < gs from fun k hk => Nat.lt_of_lt_of_le (Kd.R_lt HP1.out k hk) hW); have ABS := Aside0.mk (show gb < gs from Nat.lt_of_lt_of_le (blk_lt BK.out) hW); have GS := Aside0.mk (show w.heap.size ≤ gs from Nat.le_trans HB1.out.size hW); clear hcz0 hcz1 hcz2 hfz0 hfz1 hfz2 HO1 HP1 HB1 BK es2 hs1 hW ho hb; have hz0 : w7.cell? ⟨gb, 0, none⟩ = some (.int .i64 (rd_T80 ps i).f0) := (blk_cell BK2.out 0).trans rfl; have hz1 : w7.cell? ⟨gb, 1, none⟩ = some (.int .i64 (rd_T80 ps i).f1) := (blk_cell BK2.out 1).trans rfl; have hz2 : w7.cell? ⟨gb, 2, none⟩ = some (.int .i64 (rd_T80 ps i).f2) := (blk_cell BK2.out 2).trans rfl))
          have qq := QQ.out
          have hhi := HI.out
          have hcut4 : ∀ W : World, (Instr.slice 27 (.slice (some ⟨gs, 0, none⟩) S.length cs) (some (.int .i64 (rd_T80 ps i).f1)) none none).run Try.prog W = .ok (.slice (cutAt (some ⟨gs, 0, none⟩) cs (rd_T80 ps i).f1.toNat 1) (S.length - (rd_T80 ps i).f1.toNat) (cs - (rd_T80 ps i).f1.toNat)) W := run_cut_lo (P := Try.prog) (sz := 1) Try.underlying27 (by kernel_rfl) (some ⟨gs, 0, none⟩) S.length cs (rd_T80 ps i).f1 (by omega) (by have := HSL.out; omega)
          have hcut8 : ∀ W : World, (Instr.slice 27 (.slice A (l2.length - off) (c2 - off)) none (some (.int .i64 (rd_T80 ps i).f2)) none).run Try.prog W = .ok (.slice A (rd_T80 ps i).f2.toNat (c2 - off)) W := run_cut_hi (P := Try.prog) (sz := 1) Try.underlying27 (by kernel_rfl) A (l2.length - off) (c2 - off) (rd_T80 ps i).f2 (by omega) (by have := HC2.out; omega)
          have hcut10 : ∀ W : World, (Instr.slice 27 (.slice A (l2.length - off) (c2 - off)) (some (.int .i64 (rd_T80 ps i).f2)) none none).run Try.prog W = .ok (.slice (cutAt A (c2 - off) (rd_T80 ps i).f2.toNat 1) (l2.length - off - (rd_T80 ps i).f2.toNat) (c2 - off - (rd_T80 ps i).f2.toNat)) W := run_cut_lo (P := Try.prog) (sz := 1) Try.underlying27 (by kernel_rfl) A (l2.length - off) (c2 - off) (rd_T80 ps i).f2 (by omega) (by omega)
          have YL := Aside0.mk (show (((l2.drop off).take (rd_T80 ps i).f2.toNat).take (S.length - (rd_T80 ps i).f1.toNat)) = (l2.drop off).take (rd_T80 ps i).f2.toNat from List.take_of_length_le (by have := HSL.out; rw [List.length_take, List.length_drop]; omega))
          have YN := Aside0.mk (show ((l2.drop off).take (rd_T80 ps i).f2.toNat).length = (rd_T80 ps i).f2.toNat from by rw [List.length_take, List.length_drop]; omega)
          clear qq hhi
          refine start_ (n := 12) (S := fun w' => w'.cell? ⟨gb, 1, none⟩ = some (.int .i64 (rd_T80 ps i).f1) ∧ w'.cell? ⟨gb, 2, none⟩ = some (.int .i64 (rd_T80 ps i).f2)) (ds := [9]) #[false, false, false, false, false, false, false, false, false, false, false, false] (by kernel_rfl) rfl rfl ⟨hz1, hz2⟩ (fun hHeld => ?_)
          refine pure_ (i := 0) (N := some 42) (v := ?_) (a' := ?_) #[true, false, false, false, false, false, false, false, false, false, false, false] rfl rfl (by kernel_rfl) (fun _ _ _ h => h) (Or.inl ⟨by rfl, ?_⟩) ?_ ?_
          rotate_left
          · intro w'
            go_simp
            with_reducible rfl
          rotate_left
          · simp only [Act.put, List.setIfInBounds_toArray, List.set_cons_zero, List.set_cons_succ, i64_w, i32_w]
            rfl
          refine pure_ (i := 1) (N := some 43) (v := ?_) (a' := ?_) #[true, true, false, false, false, false, false, false, false, false, false, false] rfl rfl (by kernel_rfl) (fun _ _ _ h => h) (Or.inl ⟨by rfl, ?_⟩) ?_ ?_
          rotate_left
          · intro w'
            go_simp
            with_reducible rfl
          rotate_left
          · simp only [Act.put, List.setIfInBounds_toArray, List.set_cons_zero, List.set_cons_succ, i64_w, i32_w]
            rfl
          refine pure_ (i := 2) (N := some 44) (v := ?_) (a' := ?_) #[true, true, true, false, false, false, false, false, false, false, false, false] rfl rfl (by kernel_rfl) (fun _ _ _ h => h) (Or.inl ⟨by rfl, ?_⟩) ?_ ?_
          rotate_left
          · intro w'
            go_simp
            with_reducible rfl
          rotate_left
          · simp only [Act.put, List.setIfInBounds_toArray, List.set_cons_zero, List.set_cons_succ, i64_w, i32_w]
            rfl
          refine take_ (i := 3) (N := some 45) (v := .int .i64 (rd_T80 ps i).f1) (a' := ?_) #[true, true, true, true, false, false, false, false, false, false, false, false] rfl rfl (by kernel_rfl) (fun _ _ _ h => h) (Or.inl ⟨by rfl, ?_⟩) hHeld ?_ ?_
          rotate_left
          rotate_left
          · simp only [Act.put, List.setIfInBounds_toArray, List.set_cons_zero, List.set_cons_succ]
            rfl
          rotate_left
          · rintro w' ⟨e1, e2⟩
            go_simp
          refine pure_ (i := 4) (N := some 46) (v := ?_) (a' := ?_) #[true, true, true, true, true, false, false, false, false, false, false, false] rfl rfl (by kernel_rfl) (fun _ _ _ h => h) (Or.inl ⟨by rfl, ?_⟩) ?_ ?_
          rotate_left
          · intro w'
            go_simp
            with_reducible rfl
          rotate_left
          · simp only [Act.put, List.setIfInBounds_toArray, List.set_cons_zero, List.set_cons_succ, i64_w, i32_w]
            rfl
          refine pure_ (i := 5) (N := some 47) (v := ?_) (a' := ?_) #[true, true, true, true, true, true, false, false, false, false, false, false] rfl rfl (by kernel_rfl) (fun _ _ _ h => h) (Or.inl ⟨by rfl, ?_⟩) ?_ ?_
          rotate_left
          · intro w'
            go_simp
            with_reducible rfl
          rotate_left
          · simp only [Act.put, List.setIfInBounds_toArray, List.set_cons_zero, List.set_cons_succ, i64_w, i32_w]
            rfl
          refine pure_ (i := 6) (N := some 48) (v := ?_) (a' := ?_) #[true, true, true, true, true, true, true, false, false, false, false, false] rfl rfl (by kernel_rfl) (fun _ _ _ h => h) (Or.inl ⟨by rfl, ?_⟩) ?_ ?_
          rotate_left
          · intro w'
            go_simp
            with_reducible rfl
          rotate_left
          · simp only [Act.put, List.setIfInBounds_toArray, List.set_cons_zero, List.set_cons_succ, i64_w, i32_w]
            rfl
          refine take_ (i := 7) (N := some 49) (v := .int .i64 (rd_T80 ps i).f2) (a' := ?_) #[true, true, true, true, true, true, true, true, false, false, false, false] rfl rfl (by kernel_rfl) (fun _ _ _ h => h) (Or.inl ⟨by rfl, ?_⟩) hHeld ?_ ?_
          rotate_left
          rotate_left
          · simp only [Act.put, List.setIfInBounds_toArray, List.set_cons_zero, List.set_cons_succ]
            rfl
          rotate_left
          · rintro w' ⟨e1, e2⟩
            go_simp
          refine pure_ (i := 8) (N := some 50) (v := ?_) (a' := ?_) #[true, true, true, true, true, true, true, true, true, false, false, false] rfl rfl (by kernel_rfl) (fun _ _ _ h => h) (Or.inl ⟨by rfl, ?_⟩) ?_ ?_
          rotate_left
          · intro w'
            go_simp
            with_reducible rfl
          rotate_left
          · simp only [Act.put, List.setIfInBounds_toArray, List.set_cons_zero, List.set_cons_succ, i64_w, i32_w]
            rfl
          refine last_ (i := 9) (N := some 51) #[true, true, true, true, true, true, true, true, true, true, false, false] rfl rfl (by kernel_rfl) (by decide) (fun K hK => ?_)
          have eg : goInt (((rd_T80 ps i).f2.toNat : Nat) : Int) = .int .i64 (rd_T80 ps i).f2 := by rw [Int.toNat_of_nonneg (by have := QQ.out; omega)]; rfl
          refine copy_row_step (Value.int .u8) (fun _ => rfl) (w0 := w) w.heap.size (by rfl) (N := some 51) rfl (.tmp 46) (.tmp 50) 27 27 5 rfl Try.underlying27 (by kernel_rfl) gs S.length cs (rd_T80 ps i).f1.toNat (S.length - (rd_T80 ps i).f1.toNat) (cs - (rd_T80 ps i).f1.toNat) (rd_T80 ps i).f2.toNat (c2 - off) _ _ S ((l2.drop off).take (rd_T80 ps i).f2.toNat) (fun _ => True) rfl rfl (Kd.R_drew HS2.out) ?aD ?aF ?aR ?aB ?_
          case aD => intro _; rw [cutAt_own (by have := HSL.out; have := QQ.out; have := (Kd.R_reads' HS2.out).2.1; omega), Nat.mul_one]
          case aF => have := HSL.out; have := QQ.out; omega
          case aR => have h := HA.out; rw [← List.length_drop] at h; have h2 := Kd.C_take h (m := (rd_T80 ps i).f2.toNat) (by rw [List.length_drop]; have := QQ.out; omega); rw [YN.out] at h2; exact Kd.C_below h2 (below_drew HB2.out)
          case aB => exact below_drew HB2.out
          intro w8 ho hb hg
          rw [YL.out, YN.out, eg]
          rw [YL.out] at ho
          refine hK.out _ _ ?_
          have HS3 := Aside0.mk ho
          have HB3 := Aside0.mk hb
          have HO3 := Aside0.mk (R_flat_grown rfl (Kd.R_drew HO2.out) hg (fun k hk e => by have h1 : g = k := Option.some.inj hk; have h2 : k = gs := Option.some.inj e; have := AGS.out; omega))
          have HP3 := Aside0.mk (R_flat_grown rfl (Kd.R_drew HP2.out) hg (fun k hk e => by have h2 : k = gs := Option.some.inj e; have := APS.out k hk; omega))
          have hz0' : w8.cell? ⟨gb, 0, none⟩ = some (.int .i64 (rd_T80 ps i).f0) := (blk_cell (blk_grown (blk_drew BK2.out) hg (by intro e; injection e with e; have := ABS.out; omega)) 0).trans rfl
          clear ho hb hg hz0 hz1 hz2 HS2 HB2 HO2 HP2 BK2 hHeld hcut4 hcut8 hK eg
          simp only [Act.put, List.setIfInBounds_toArray, List.set_cons_zero, List.set_cons_succ]
          refine pure_ (i := 10) (N := some 52) (v := ?_) (a' := ?_) #[true, true, true, true, true, true, true, true, true, true, true, false] rfl rfl (by kernel_rfl) (fun _ _ _ h => h) (Or.inl ⟨by rfl, ?_⟩) ?_ ?_
          rotate_left
          · intro w'
            go_simp
            with_reducible rfl
          rotate_left
          · simp only [Act.put, List.setIfInBounds_toArray, List.set_cons_zero, List.set_cons_succ, i64_w, i32_w]
            rfl
          refine pure_ (i := 11) (N := some 2) (v := ?_) (a' := ?_) #[true, true, true, true, true, true, true, true, true, true, true, true] rfl rfl (by kernel_rfl) (fun _ _ _ h => h) (Or.inl ⟨by rfl, ?_⟩) ?_ ?_
          rotate_left
          · intro w'
            go_simp
            with_reducible rfl
          rotate_left
          · simp only [Act.put, List.setIfInBounds_toArray, List.set_cons_zero, List.set_cons_succ, i64_w, i32_w]
            rfl
          refine done_ (n := 0) (by kernel_rfl) ?_
          have qq := QQ.out
          have hhi := HI.out
          have hln := HLN.out
          have hn := HN.out
          have hb0 : 0 ≤ (rd_T80 ps i).f0 := qq.2.1
          have hb1 : (rd_T80 ps i).f0 ≤ 64 := by omega
          have hi0 : 0 ≤ i := hhi.1
          have hi1 : i ≤ 1000000 := by have := HPL.out; omega
          have hcv := (Kd.R_reads' HO3.out).2.1
          have hcut12 : ∀ W : World, (Instr.slice 27 (.slice (some ⟨g, 0, none⟩) l0.length cv) (some (.int .i64 ((rd_T80 ps i).f0 * 512))) none none).run Try.prog W = .ok (.slice (cutAt (some ⟨g, 0, none⟩) cv ((rd_T80 ps i).f0 * 512).toNat 1) (l0.length - ((rd_T80 ps i).f0 * 512).toNat) (cv - ((rd_T80 ps i).f0 * 512).toNat)) W := run_cut_lo (P := Try.prog) (sz := 1) Try.underlying27 (by kernel_rfl) (some ⟨g, 0, none⟩) l0.length cv ((rd_T80 ps i).f0 * 512) (by omega) (by omega)
          have CV := Aside0.mk hcv
          have QF := Aside0.mk (show ((rd_T80 ps i).f0 * 512).toNat + 512 ≤ l0.length by omega)
          clear qq hhi hln hn hcv hcut10
          go_wp2_with (first | ((with_reducible refine gate_builtin (b := .copy) (xs := #[.tmp 57, .tmp 58]) rfl ?_); refine copy_row (Value.int .u8) (fun _ => rfl) (w0 := w) w.heap.size rfl (.tmp 57) (.tmp 58) 27 27 5 rfl Try.underlying27 (by kernel_rfl) g l0.length cv ((rd_T80 ps i).f0 * 512).toNat (l0.length - ((rd_T80 ps i).f0 * 512).toNat) (cv - ((rd_T80 ps i).f0 * 512).toNat) S.length cs _ _ D (splice S (rd_T80 ps i).f1.toNat ((l2.drop off).take (rd_T80 ps i).f2.toNat)) (fun _ => True) rfl rfl ?aO ?aD ?aF ?aR ?aB ?_; (case aO => exact HO3.out); (case aD => intro _; rw [cutAt_own (by have := QF.out; have := CV.out; have := HDL.out; omega), Nat.mul_one]); (case aF => have := QF.out; omega); (case aR => have h := (Kd.R_reads' HS3.out); have e := h.1; rw [e]; exact h.2.2); (case aB => exact HB3.out); intro w9 ho hb hg; have HO4 := Aside0.mk ho; have HP4 := Aside0.mk (Kd.R_over' HP3.out (Kd.R_typed HO3.out) (by decide) hg); have HB4 := Aside0.mk hb; clear ho hb hg HO3 HP3 HS3 HB3))
          go_roundg k1
          case measure => omega
          case rel =>
            have qq := QQ.out
            have hhi := HI.out
            have hn := HN.out
            have hln := HLN.out
            have hc2 := HC2.out
            have hil := HIL.out
            have e1 : ((rd_T80 ps i).f2.toNat : Int) = (rd_T80 ps i).f2 := Int.toNat_of_nonneg (by omega)
            have ho := HO4.out
            have hD := HDE.out
            have hS := HSE.out
            have hlen : (splice S (rd_T80 ps i).f1.toNat ((l2.drop off).take (rd_T80 ps i).f2.toNat)).length = 512 := by rw [length_splice _ _ _ (by rw [YN.out, HSL.out]; omega), HSL.out]
            rw [List.take_of_length_le (by rw [hlen]; have := QF.out; omega), hS, hD, put_step l0 l2 a1.toNat off (rd_T80 ps i).f2.toNat ((rd_T80 ps i).f0 * 512).toNat (rd_T80 ps i).f1.toNat (by omega) (by omega) QF.out (by omega) (by omega)] at ho
            have hC := C_cut HA.out (c := c2 - off) (by omega) (rd_T80 ps i).f2.toNat (l2.length - off - (rd_T80 ps i).f2.toNat) (by omega)
            rw [List.drop_drop, List.take_of_length_le (by rw [List.length_drop]; omega), Nat.sub_sub] at hC
            have hch := Q8.out
            rw [show a1 + (off : Int) + (rd_T80 ps i).f2 = a1 + ((off + (rd_T80 ps i).f2.toNat : Nat) : Int) by omega, show (l2.length : Int) - off - (rd_T80 ps i).f2 = l2.length - ((off + (rd_T80 ps i).f2.toNat : Nat) : Int) by omega, show i.toNat + 1 = (i + 1).toNat by omega] at hch
            exact ⟨i + 1, off + (rd_T80 ps i).f2.toNat, cutAt A (c2 - off) (rd_T80 ps i).f2.toNat 1, rfl, by rw [Nat.sub_sub, Nat.sub_sub], ⟨by omega, by omega, by omega, hch⟩, ⟨hC⟩, ⟨ho⟩, HP4, HB4⟩
    · rw [if_neg hn] at h
      rw [if_neg (fun x => hn ⟨x.1, x.2.2.1, x.2.2.2⟩)] at HS
      simp only [Option.some.injEq, Prod.mk.injEq] at h
      obtain ⟨rfl, rfl⟩ := h
      clear hn hsz hd
      go_enter Try.func38, Try.ntmps38
      go_wp2_with (first
        | (go_at_call 45; refine (block_stretch.calls _ _ _ _ _ _ _ HR0.out HC0.out HS.out).mono ?_; rintro e w' ⟨rfl, ⟨nd, rfl⟩⟩))
      go_ret2
      exact ⟨_, rfl, Kd.R_nil _ _ _ _ _, pw_below_drewN (Below.refl _ _) _⟩
  · rw [if_neg hd] at h HS
    simp only [Option.some.injEq, Prod.mk.injEq] at h
    obtain ⟨rfl, rfl⟩ := h
    clear hsz hd
    go_enter Try.func38, Try.ntmps38
    go_wp2_with (first
      | (go_at_call 45; refine (block_stretch.calls _ _ _ _ _ _ _ HR0.out HC0.out HS.out).mono ?_; rintro e w' ⟨rfl, ⟨nd, rfl⟩⟩))
    go_ret2
    exact ⟨_, rfl, Kd.R_nil _ _ _ _ _, pw_below_drewN (Below.refl _ _) _⟩
end Go.Proofs.Ytnbomjfpnpmllaa.Q
end
section
namespace Go.Proofs.Ytnbomjfpnpmllaa.Q
open Go.RowKit Go.Proofs.YtnbomjfpnpmllaaW.PrintWords Go.Proofs.YtnbomjfpnpmllaaW.PrintLast Go.Proofs.YtnbomjfpnpmllaaW.PrintMore
set_option linter.unusedVariables false
set_option linter.unusedSimpArgs false

attribute [local go_sem] max2_int min2_int max_two min_two max_three min_three max_four min_four
/-! ### block_Get: function 35 -/
def block_Get.l0 : Nat → List Int → List Int → List (S80) → Int → Int → Option (List Int × Int)
  | 0, _, _, _, _, _ => none
  | k + 1, x0, x9, x25, x26, x27 => if x27 < x26 then (if 0 ≤ x27 then (if x27 < (x25.length : Int) then ((block_Read.f x0 ((rd_T80 x25 x27).f0)).bind fun bt36010 => (if bt36010.2 = 0 then (if 0 ≤ ((rd_T80 x25 x27).f1) then (if ((rd_T80 x25 x27).f1) ≤ (wrap64 (((rd_T80 x25 x27).f1) + ((rd_T80 x25 x27).f2))) then (if (wrap64 (((rd_T80 x25 x27).f1) + ((rd_T80 x25 x27).f2))) ≤ (bt36010.1.length : Int) then ((some ((bt36010.1.take ((wrap64 (((rd_T80 x25 x27).f1) + ((rd_T80 x25 x27).f2))) : Int).toNat).drop (((rd_T80 x25 x27).f1) : Int).toNat : List Int)).bind fun y36014 => (if x9.length + y36014.length < 140737488355328 then (block_Get.l0 k x0 (x9 ++ y36014) x25 x26 (wrap64 (x27 + 1))) else (none))) else (none)) else (none)) else (none)) else (some (([] : List Int), bt36010.2)))) else (none)) else (none)) else (some (x9, 0))
def block_Get.f (k : Nat) (l0 : List Int) (a1 : Int) (a2 : Int) : Option (List Int × Int) := (block_stretch.f l0 a1 a2).bind fun t36001 => (if t36001 = 0 then (if 0 ≤ a2 then (if (a2 : Int).toNat ≤ 281474976710656 then ((block_pieces.f k a1 a2).bind fun t36005 => (block_Get.l0 k l0 (([] : List Int)) t36005 (t36005.length : Int) 0)) else (none)) else (none)) else (some (([] : List Int), t36001)))
theorem block_Get.mono_l : ∀ k, (∀ y0 y1 y2 y3 y4, LeO (block_Get.l0 k y0 y1 y2 y3 y4) (block_Get.l0 (k + 1) y0 y1 y2 y3 y4))
  | 0 => fun _ _ _ _ _ r h => by simp [block_Get.l0] at h
  | k + 1 => by
    have ih0 := block_Get.mono_l k
    · intro y0 y1 y2 y3 y4
      unfold block_Get.l0
      repeat' first
      | (with_reducible exact ih0 _ _ _ _ _)
      | (with_reducible exact block_pieces.mono _ _ _)
      | (with_reducible exact LeO.refl _)
      | (with_reducible exact LeO.none _)
      | (with_reducible refine LeO.ite ?_ ?_)
      | (with_reducible refine LeO.bind ?_ (fun _ => ?_))
      | exact ih0 _ _ _ _ _
      | exact block_pieces.mono _ _ _
      | exact LeO.none _
      | refine LeO.ite ?_ ?_
      | refine LeO.bind ?_ (fun _ => ?_)
theorem block_Get.mono : ∀ a0 a1 a2 k, LeO (block_Get.f k a0 a1 a2) (block_Get.f (k + 1) a0 a1 a2) := by
  intro a0 a1 a2 k
  have ih0 := block_Get.mono_l k
  unfold block_Get.f
  repeat' first
      | (with_reducible exact ih0 _ _ _ _ _)
      | (with_reducible exact block_pieces.mono _ _ _)
      | (with_reducible exact LeO.refl _)
      | (with_reducible exact LeO.none _)
      | (with_reducible refine LeO.ite ?_ ?_)
      | (with_reducible refine LeO.bind ?_ (fun _ => ?_))
      | exact ih0 _ _ _ _ _
      | exact block_pieces.mono _ _ _
      | exact LeO.none _
      | refine LeO.ite ?_ ?_
      | refine LeO.bind ?_ (fun _ => ?_)
set_option maxHeartbeats 8000000 in
set_option maxRecDepth 100000 in
theorem block_Get.calls (k : Nat) (A0 : Option Addr) (c0 : Nat) (l0 : List Int) (a1 : Int) (a2 : Int) (r1 : List Int) (r2 : Int) (w : World) (hr0 : Kd.C (Kd.int .u8) w A0 l0.length l0) (hc0 : l0.length ≤ c0) (h : block_Get.f k l0 a1 a2 = some (r1, r2)) :
    Calls Try.prog 35 #[.slice A0 l0.length c0, .int .i64 a1, .int .i64 a2] w fun e w' => ∃ v0_ : Value, e = .returned (.tuple #[v0_, .int .i64 r2]) ∧ Kd.R (Kd.int .u8) 5 w' w.heap.size (fun _ => True) v0_ r1 ∧ Below w.heap.size w w' := by
  have hu80 := Try.underlying80
  have HR0 := Aside0.mk hr0
  have HC0 := Aside0.mk hc0
  clear hr0 hc0
  have HB := Aside0.mk (Below.refl w.heap.size w)
  have H : ((block_stretch.f l0 a1 a2).bind fun t36001 => (if t36001 = 0 then (if 0 ≤ a2 then (if (a2 : Int).toNat ≤ 281474976710656 then ((block_pieces.f k a1 a2).bind fun t36005 => (block_Get.l0 k l0 (([] : List Int)) t36005 (t36005.length : Int) 0)) else (none)) else (none)) else (some (([] : List Int), t36001)))) = some (r1, r2) := h
  clear h
  replace H := Option.bind_eq_some_iff.mp H
  obtain ⟨t36001, A40, H⟩ := H
  replace H : (if t36001 = 0 then (if 0 ≤ a2 then (if (a2 : Int).toNat ≤ 281474976710656 then ((block_pieces.f k a1 a2).bind fun t36005 => (block_Get.l0 k l0 (([] : List Int)) t36005 (t36005.length : Int) 0)) else (none)) else (none)) else (some (([] : List Int), t36001))) = some (r1, r2) := H
  have A4 := Aside0.mk A40
  clear A40
  by_cases c5 : t36001 = 0
  · rw [if_pos c5] at H
    have c5b0 : (t36001 == 0) = true := beq_iff_eq.mpr c5
    have c5b1 : (t36001 != 0) = false := bne_eq_false_iff_eq.mpr c5
    clear c5
    by_cases c6 : 0 ≤ a2
    · rw [if_pos c6] at H
      have c6b0 := eq_true c6
      have c6b1 : decide (0 ≤ a2) = true := decide_eq_true c6
      clear c6
      by_cases c7 : (a2 : Int).toNat ≤ 281474976710656
      · rw [if_pos c7] at H
        have c7b0 := eq_true c7
        have c7b1 : decide ((a2 : Int).toNat ≤ 281474976710656) = true := decide_eq_true c7
        clear c7
        obtain ⟨y36002, hy36002⟩ : ∃ y_ : List Int, y_ = (([] : List Int)) := ⟨_, rfl⟩
        replace H : ((block_pieces.f k a1 a2).bind fun t36005 => (block_Get.l0 k l0 y36002 t36005 (t36005.length : Int) 0)) = some (r1, r2) := by first | (rw [hy36002]; with_reducible exact H) | (have H2_ := (Option.bind_some _ _).symm.trans H; rw [hy36002]; with_reducible exact H2_) | (have H2_ := (Option.bind_some _ _).symm.trans H; with_reducible exact H2_) | with_reducible exact H | (rw [hy36002]; exact H) | exact H
        have Ny36002 := Aside0.mk hy36002
        clear hy36002
        replace H := Option.bind_eq_some_iff.mp H
        obtain ⟨t36005, A80, H⟩ := H
        replace H : (block_Get.l0 k l0 y36002 t36005 (t36005.length : Int) 0) = some (r1, r2) := H
        have A8 := Aside0.mk A80
        clear A80
        have H' := Aside0.mk H
        clear H
        go_enter Try.func35, Try.ntmps35
        go_wp2_with (first | ((with_reducible refine gate_callee (f := 45) rfl ?_); refine goesL_ (some 17) rfl rfl Try.func45 (by kernel_rfl) rfl #[.slice A0 l0.length c0, .int .i64 a1, .int .i64 a2] rfl (by (try simp only [List.map_toArray, List.map_cons, List.map_nil]); first | done | rfl | (simp only [List.length_drop, List.length_take]; rfl)) ?_; (with_reducible refine (block_stretch.calls _ _ l0 a1 a2 t36001 _ ?side1 ?side2 A4.out).mono ?_); (case side1 => repeat (first | exact HR0.out | (with_reducible refine Kd.C_alloc ?_ _) | (with_reducible refine Kd.C_drewN ?_ _) | (with_reducible refine Kd.C_drew ?_))); (case side2 => exact HC0.out); rintro e w' ⟨rfl, ⟨nd, rfl⟩⟩; refine ⟨_, rfl, ?_⟩) | ((with_reducible refine gate_dst (N := 22) rfl ?_); refine R_make0 (Kd.int .u8) _ 5 rfl (N := 22) rfl 27 _ _ rfl a2 rfl rfl Try.underlying27 (.int .u8 0) 1 info5 (by omega) (ok := fun _ => True) trivial (of_decide_eq_true (by first | (with_reducible assumption) | assumption)) (Nat.le_trans (Nat.mul_le_mul_right _ (of_decide_eq_true (by first | (with_reducible assumption) | assumption) : a2.toNat ≤ 281474976710656)) (by omega)) (Below.refl _ _) (Nat.le_refl _) ?_; intro v36003 w9 ho10 hb hg_ hnew_; clear hg_ hnew_; (first | rw [← Ny36002.out] at ho10 | (simp only [Int.reduceToNat] at ho10; rw [← Ny36002.out] at ho10)); have n0_ := Aside0.mk (Kd.R_lower ho10 (below_size (by repeat (first | (with_reducible first | exact HB.out | apply below_alloc | apply pw_below_drewN | apply below_drew1) | exact HB.out)))); have n1_ := Aside0.mk (below_step (by repeat (first | (with_reducible first | exact HB.out | apply below_alloc | apply pw_below_drewN | apply below_drew1) | exact HB.out)) hb); clear HB; have HO36004 := n0_; have HB := n1_; clear n0_ n1_; clear hb ho10) | ((with_reducible refine gate_callee (f := 46) rfl ?_); refine goesL_ (some 25) rfl rfl Try.func46 (by kernel_rfl) rfl #[.int .i64 a1, .int .i64 a2] rfl (by (try simp only [List.map_toArray, List.map_cons, List.map_nil]); first | done | rfl | (simp only [List.length_drop, List.length_take]; rfl)) ?_; (with_reducible refine (block_pieces.calls k a1 a2 t36005 _ A8.out).mono ?_); rintro e w11 ⟨v36006, rfl, ho0, hb⟩; refine ⟨_, rfl, ?_⟩; have n0_ := Aside0.mk (Kd.R_below (by (with_reducible repeat (first | apply Kd.R_alloc | apply Kd.R_drewN | apply Kd.R_drew)); exact HO36004.out) hb); have n1_ := Aside0.mk (Kd.R_lower ho0 (below_size (by repeat (first | (with_reducible first | exact HB.out | apply below_alloc | apply pw_below_drewN | apply below_drew1) | exact HB.out)))); have n2_ := Aside0.mk (below_step (by repeat (first | (with_reducible first | exact HB.out | apply below_alloc | apply pw_below_drewN | apply below_drew1) | exact HB.out)) hb); clear HO36004; clear HB; have HO36004 := n0_; have HO36007 := n1_; have HB := n2_; clear n0_ n1_ n2_; (try clear hb); (try clear hb2); (try clear hk); (try clear hi); (try clear ho0); obtain ⟨Ao12, co12, eo12⟩ := Kd.R_slice HO36007.out; subst eo12))
        go_loopg [9, 27] k (fun kq v9 v27 w' => ∃ (x9_1 : List Int) (x27_1 : Int), v27 = .int .i64 x27_1 ∧ Aside0 (block_Get.l0 kq l0 x9_1 t36005 (t36005.length : Int) x27_1 = some (r1, r2)) ∧ Aside0 (kq ≤ k) ∧ Aside0 (Kd.R (Kd.int .u8) 5 w' w.heap.size (fun _ => True) v9 x9_1) ∧ Aside0 (Kd.R k80 80 w' w.heap.size (fun _ => True) (.slice Ao12 t36005.length co12) t36005) ∧ Aside0 (Below w.heap.size w w'))
        case atStart => exact ⟨(y36002), (0), (by first | rfl | (simp; done) | (simp [*]; done)), H', ⟨Nat.le_refl _⟩, ⟨by (with_reducible repeat (first | apply Kd.R_alloc | apply Kd.R_drewN | apply Kd.R_drew)); exact HO36004.out⟩, ⟨by (with_reducible repeat (first | apply Kd.R_alloc | apply Kd.R_drewN | apply Kd.R_drew)); exact HO36007.out⟩, ⟨by repeat (first | (with_reducible first | exact HB.out | apply below_alloc | apply pw_below_drewN | apply below_drew1) | exact HB.out)⟩⟩
        case round =>
          clear H'
          try clear p2
          try clear c3
          try clear c4
          try clear c5
          try clear c5b0
          try clear c5b1
          try clear c6
          try clear c6b0
          try clear c6b1
          try clear c7
          try clear c7b0
          try clear c7b1
          obtain ⟨x9_1, x27_1, rfl, HA, HK1, HO_9, HO_25, HB⟩ := hrel
          cases gk with
          | zero => exact absurd HA.out (by simp [block_Get.l0])
          | succ k1 =>
            have H := HA.out
            clear HA
            simp only [block_Get.l0] at H
            by_cases c13 : x27_1 < (t36005.length : Int)
            · rw [if_pos c13] at H
              have c13b0 : decide (x27_1 < (t36005.length : Int)) = true := decide_eq_true c13
              clear c13
              by_cases c14 : 0 ≤ x27_1
              · rw [if_pos c14] at H
                have c14b0 : decide (0 ≤ x27_1) = true := decide_eq_true c14
                clear c14
                by_cases c15 : x27_1 < (t36005.length : Int)
                · rw [if_pos c15] at H
                  have c15b0 : decide (x27_1 < (t36005.length : Int)) = true := decide_eq_true c15
                  clear c15
                  replace H := Option.bind_eq_some_iff.mp H
                  obtain ⟨⟨t36010, t36011⟩, A160, H⟩ := H
                  replace H : (if t36011 = 0 then (if 0 ≤ ((rd_T80 t36005 x27_1).f1) then (if ((rd_T80 t36005 x27_1).f1) ≤ (wrap64 (((rd_T80 t36005 x27_1).f1) + ((rd_T80 t36005 x27_1).f2))) then (if (wrap64 (((rd_T80 t36005 x27_1).f1) + ((rd_T80 t36005 x27_1).f2))) ≤ (t36010.length : Int) then ((some ((t36010.take ((wrap64 (((rd_T80 t36005 x27_1).f1) + ((rd_T80 t36005 x27_1).f2))) : Int).toNat).drop (((rd_T80 t36005 x27_1).f1) : Int).toNat : List Int)).bind fun y36014 => (if x9_1.length + y36014.length < 140737488355328 then (block_Get.l0 k1 l0 (x9_1 ++ y36014) t36005 (t36005.length : Int) (wrap64 (x27_1 + 1))) else (none))) else (none)) else (none)) else (none)) else (some (([] : List Int), t36011))) = some (r1, r2) := H
                  have A16 := Aside0.mk A160
                  clear A160
                  by_cases c17 : t36011 = 0
                  · rw [if_pos c17] at H
                    have c17b0 : (t36011 == 0) = true := beq_iff_eq.mpr c17
                    have c17b1 : (t36011 != 0) = false := bne_eq_false_iff_eq.mpr c17
                    clear c17
                    by_cases c18 : 0 ≤ ((rd_T80 t36005 x27_1).f1)
                    · rw [if_pos c18] at H
                      have c18b0 := eq_true c18
                      have c18b1 : decide (0 ≤ ((rd_T80 t36005 x27_1).f1)) = true := decide_eq_true c18
                      clear c18
                      by_cases c19 : ((rd_T80 t36005 x27_1).f1) ≤ (wrap64 (((rd_T80 t36005 x27_1).f1) + ((rd_T80 t36005 x27_1).f2)))
                      · rw [if_pos c19] at H
                        have c19b0 := eq_true c19
                        have c19b1 : decide (((rd_T80 t36005 x27_1).f1) ≤ (wrap64 (((rd_T80 t36005 x27_1).f1) + ((rd_T80 t36005 x27_1).f2)))) = true := decide_eq_true c19
                        by_cases c20 : (wrap64 (((rd_T80 t36005 x27_1).f1) + ((rd_T80 t36005 x27_1).f2))) ≤ (t36010.length : Int)
                        · rw [if_pos c20] at H
                          have c20b0 := eq_true c20
                          have c20b1 : decide ((wrap64 (((rd_T80 t36005 x27_1).f1) + ((rd_T80 t36005 x27_1).f2))) ≤ (t36010.length : Int)) = true := decide_eq_true c20
                          obtain ⟨y36014, hy36014⟩ : ∃ y_ : List Int, y_ = ((t36010.take ((wrap64 (((rd_T80 t36005 x27_1).f1) + ((rd_T80 t36005 x27_1).f2))) : Int).toNat).drop (((rd_T80 t36005 x27_1).f1) : Int).toNat) := ⟨_, rfl⟩
                          replace H : (if x9_1.length + y36014.length < 140737488355328 then (block_Get.l0 k1 l0 (x9_1 ++ y36014) t36005 (t36005.length : Int) (wrap64 (x27_1 + 1))) else (none)) = some (r1, r2) := by first | (rw [hy36014]; with_reducible exact H) | (have H2_ := (Option.bind_some _ _).symm.trans H; rw [hy36014]; with_reducible exact H2_) | (have H2_ := (Option.bind_some _ _).symm.trans H; with_reducible exact H2_) | with_reducible exact H | (rw [hy36014]; exact H) | exact H
                          have Ny36014 := Aside0.mk hy36014
                          clear hy36014
                          by_cases c21 : x9_1.length + y36014.length < 140737488355328
                          · rw [if_pos c21] at H
                            have LMc21 := Aside0.mk c21
                            clear c21
                            obtain ⟨y36018, hy36018⟩ : ∃ y_ : List Int, y_ = (x9_1 ++ y36014) := ⟨_, rfl⟩
                            replace H : (block_Get.l0 k1 l0 y36018 t36005 (t36005.length : Int) (wrap64 (x27_1 + 1))) = some (r1, r2) := by first | (rw [hy36018]; with_reducible exact H) | (have H2_ := (Option.bind_some _ _).symm.trans H; rw [hy36018]; with_reducible exact H2_) | (have H2_ := (Option.bind_some _ _).symm.trans H; with_reducible exact H2_) | with_reducible exact H | (rw [hy36018]; exact H) | exact H
                            have Ny36018 := Aside0.mk hy36018
                            clear hy36018
                            have H' := Aside0.mk H
                            clear H
                            have p36008 : 0 ≤ (x27_1 : Int) := of_decide_eq_true (by first | (with_reducible assumption) | assumption)
                            have q36008 : x27_1 < (t36005.length : Int) := of_decide_eq_true (by first | (with_reducible assumption) | assumption)
                            obtain ⟨ad36008, e36008, hx36008_0, hx36008_1, hx36008_2⟩ := at_T80 (Kd.R_reads' HO_25.out).2.2 x27_1 p36008 q36008
                            cases e36008
                            replace p36008 := eq_true p36008
                            replace q36008 := eq_true q36008
                            go_wp2_with (first | ((with_reducible refine gate_dst (N := 11) rfl ?_); refine box_event ?hg (N := 11) ?hd (cs := #[.int .i64 0, .int .i64 0, .int .i64 0]) (t := 80) ?hr ?_; (case hd => rfl); (case hg => rfl); (case hr => first | (go_simp; done) | (go_simp; rfl)); intro gb36009 hg w22 hbox hb; have n0_ := Aside0.mk (Kd.R_below (by (with_reducible repeat (first | apply Kd.R_alloc | apply Kd.R_drewN | apply Kd.R_drew)); exact HO_9.out) hb); have n1_ := Aside0.mk (Kd.R_below (Kd.R_elderB (by (with_reducible repeat (first | apply Kd.R_alloc | apply Kd.R_drewN | apply Kd.R_drew)); exact HO_25.out) gb36009 (Nat.le_of_eq hg.symm)) hb); have n2_ := Aside0.mk (below_step (by repeat (first | (with_reducible first | exact HB.out | apply below_alloc | apply pw_below_drewN | apply below_drew1) | exact HB.out)) hb); have n3_ := Aside0.mk (hbox); have n4_ := Aside0.mk ((by rw [hg]; exact (below_size (by repeat (first | (with_reducible first | exact HB.out | apply below_alloc | apply pw_below_drewN | apply below_drew1) | exact HB.out))) : w.heap.size ≤ gb36009)); have n5_ := Aside0.mk ((by rw [hg]; exact (below_size (by repeat (first | (with_reducible first | exact HB.out | apply below_alloc | apply pw_below_drewN | apply below_drew1) | exact HB.out))) : w.heap.size ≤ gb36009)); clear HO_9; clear HO_25; clear HB; have HO_9 := n0_; have HO_25 := n1_; have HB := n2_; have BK36009 := n3_; have GW36009 := n4_; have GE36009 := n5_; clear n0_ n1_ n2_ n3_ n4_ n5_; clear hb hbox hg; have hcz23_0 : w22.cell? ⟨gb36009, 0, none⟩ = some (.int .i64 0) := (blk_cell BK36009.out 0).trans rfl; have hcz23_1 : w22.cell? ⟨gb36009, 1, none⟩ = some (.int .i64 0) := (blk_cell BK36009.out 1).trans rfl; have hcz23_2 : w22.cell? ⟨gb36009, 2, none⟩ = some (.int .i64 0) := (blk_cell BK36009.out 2).trans rfl; have hfz23_0 := blk_frozen BK36009.out 0; have hfz23_1 := blk_frozen BK36009.out 1; have hfz23_2 := blk_frozen BK36009.out 2) | ((with_reducible refine gate_callee (f := 47) rfl ?_); refine goesL_ (some 35) rfl rfl Try.func47 (by kernel_rfl) rfl #[.slice A0 l0.length c0, .int .i64 ((rd_T80 t36005 x27_1).f0)] rfl (by (try simp only [List.map_toArray, List.map_cons, List.map_nil]); first | done | rfl | (simp only [List.length_drop, List.length_take]; rfl)) ?_; (with_reducible refine (block_Read.calls _ _ l0 ((rd_T80 t36005 x27_1).f0) t36010 t36011 _ ?side1 ?side2 A16.out).mono ?_); (case side1 => exact Kd.C_below HR0.out (by repeat (first | (with_reducible first | exact HB.out | apply below_alloc | apply pw_below_drewN | apply below_drew1 | refine below_set ?_ GE36009.out) | exact HB.out))); (case side2 => exact HC0.out); rintro e w24 ⟨v36012, rfl, ho0, hb⟩; refine ⟨_, rfl, ?_⟩; have n0_ := Aside0.mk (Kd.R_elder' (by (with_reducible repeat (first | apply Kd.R_alloc | apply Kd.R_drewN | apply Kd.R_drew)); exact (Kd.R_mono (Kd.R_far (p := ⟨gb36009, 2, none⟩) (Kd.R_far (p := ⟨gb36009, 1, none⟩) (Kd.R_far (p := ⟨gb36009, 0, none⟩) (Kd.R_types HO_9.out BK36009.out (by decide)) (fun _ hk => hk.2) (.int .i64 ((rd_T80 t36005 x27_1).f0))) (fun _ hk => hk.2) (.int .i64 ((rd_T80 t36005 x27_1).f1))) (fun _ hk => hk.2) (.int .i64 ((rd_T80 t36005 x27_1).f2))) (fun _ h_ => h_.1))) (Kd.R_base ho0) hb); have n1_ := Aside0.mk (Kd.R_below (by (with_reducible repeat (first | apply Kd.R_alloc | apply Kd.R_drewN | apply Kd.R_drew)); exact (Kd.R_mono (Kd.R_far (p := ⟨gb36009, 2, none⟩) (Kd.R_far (p := ⟨gb36009, 1, none⟩) (Kd.R_far (p := ⟨gb36009, 0, none⟩) (Kd.R_mono HO_25.out (fun k_ hk => (⟨hk, hk.2⟩ : _ ∧ k_ ≠ gb36009))) (fun _ hk => hk.2) (.int .i64 ((rd_T80 t36005 x27_1).f0))) (fun _ hk => hk.2) (.int .i64 ((rd_T80 t36005 x27_1).f1))) (fun _ hk => hk.2) (.int .i64 ((rd_T80 t36005 x27_1).f2))) (fun _ h_ => h_.1))) hb); have n2_ := Aside0.mk (Kd.R_lower (Kd.R_new' ho0 (Kd.R_lt (by (with_reducible repeat (first | apply Kd.R_alloc | apply Kd.R_drewN | apply Kd.R_drew)); exact (Kd.R_mono (Kd.R_far (p := ⟨gb36009, 2, none⟩) (Kd.R_far (p := ⟨gb36009, 1, none⟩) (Kd.R_far (p := ⟨gb36009, 0, none⟩) (Kd.R_types HO_9.out BK36009.out (by decide)) (fun _ hk => hk.2) (.int .i64 ((rd_T80 t36005 x27_1).f0))) (fun _ hk => hk.2) (.int .i64 ((rd_T80 t36005 x27_1).f1))) (fun _ hk => hk.2) (.int .i64 ((rd_T80 t36005 x27_1).f2))) (fun _ h_ => h_.1))))) (below_size (by repeat (first | (with_reducible first | exact HB.out | apply below_alloc | apply pw_below_drewN | apply below_drew1 | refine below_set ?_ GE36009.out) | exact HB.out)))); have n3_ := Aside0.mk (blk_below (g := gb36009) (o := .cells #[.int .i64 ((rd_T80 t36005 x27_1).f0), .int .i64 ((rd_T80 t36005 x27_1).f1), .int .i64 ((rd_T80 t36005 x27_1).f2)] 80 (0, 0)) (by (with_reducible repeat (first | refine blk_drewN ?_ _ | refine blk_drew ?_ | refine blk_alloc ?_ _)); refine blk_put (cs := #[.int .i64 ((rd_T80 t36005 x27_1).f0), .int .i64 ((rd_T80 t36005 x27_1).f1), .int .i64 0]) ?_ 2 _ rfl; (with_reducible repeat (first | refine blk_drewN ?_ _ | refine blk_drew ?_ | refine blk_alloc ?_ _)); refine blk_put (cs := #[.int .i64 ((rd_T80 t36005 x27_1).f0), .int .i64 0, .int .i64 0]) ?_ 1 _ rfl; (with_reducible repeat (first | refine blk_drewN ?_ _ | refine blk_drew ?_ | refine blk_alloc ?_ _)); refine blk_put (cs := #[.int .i64 0, .int .i64 0, .int .i64 0]) ?_ 0 _ rfl; (with_reducible repeat (first | refine blk_drewN ?_ _ | refine blk_drew ?_ | refine blk_alloc ?_ _)); exact BK36009.out) hb); have n4_ := Aside0.mk (below_step (by repeat (first | (with_reducible first | exact HB.out | apply below_alloc | apply pw_below_drewN | apply below_drew1 | refine below_set ?_ GE36009.out) | exact HB.out)) hb); clear HO_9; clear HO_25; clear BK36009; clear HB; have HO_9 := n0_; have HO_25 := n1_; have HO36013 := n2_; have BK36009 := n3_; have HB := n4_; clear n0_ n1_ n2_ n3_ n4_; (try clear hb); (try clear hb2); (try clear hk); (try clear hi); (try clear ho0); have hcz25_0 : w24.cell? ⟨gb36009, 0, none⟩ = some (.int .i64 ((rd_T80 t36005 x27_1).f0)) := (blk_cell BK36009.out 0).trans rfl; have hcz25_1 : w24.cell? ⟨gb36009, 1, none⟩ = some (.int .i64 ((rd_T80 t36005 x27_1).f1)) := (blk_cell BK36009.out 1).trans rfl; have hcz25_2 : w24.cell? ⟨gb36009, 2, none⟩ = some (.int .i64 ((rd_T80 t36005 x27_1).f2)) := (blk_cell BK36009.out 2).trans rfl; have hfz25_0 := blk_frozen BK36009.out 0; have hfz25_1 := blk_frozen BK36009.out 1; have hfz25_2 := blk_frozen BK36009.out 2; obtain ⟨Ao27, co27, eo27⟩ := Kd.R_slice HO36013.out; subst eo27; have q26 : ((wrap64 (((rd_T80 t36005 x27_1).f1) + ((rd_T80 t36005 x27_1).f2))) : Int) ≤ ((t36010.length : Int) : Int) := of_decide_eq_true (by first | (with_reducible assumption) | assumption); obtain ⟨i026, hi026, _, hsz26, _⟩ := info_parts info5; have hroom26 : t36010.length ≤ co27 := (Kd.R_reads' HO36013.out).2.1; have hC26 : Kd.C (Kd.int .u8) _ Ao27 t36010.length t36010 := (Kd.R_reads' HO36013.out).2.2; have ql26 : (((rd_T80 t36005 x27_1).f1) : Int) ≤ ((wrap64 (((rd_T80 t36005 x27_1).f1) + ((rd_T80 t36005 x27_1).f2))) : Int) := of_decide_eq_true (by first | (with_reducible assumption) | assumption); have q026 : (0 : Int) ≤ (((rd_T80 t36005 x27_1).f1) : Int) := of_decide_eq_true (by first | (with_reducible assumption) | assumption); have hcut26 := cut_mid (P := Try.prog) 27 5 .i64 .i64 Try.underlying27 hi026 1 hsz26 Ao27 t36010.length co27 ((rd_T80 t36005 x27_1).f1) (wrap64 (((rd_T80 t36005 x27_1).f1) + ((rd_T80 t36005 x27_1).f2))) q026 ql26 q26 hroom26; have hr26 := Kd.C_mid (lo := (((rd_T80 t36005 x27_1).f1) : Int).toNat) (hi := ((wrap64 (((rd_T80 t36005 x27_1).f1) + ((rd_T80 t36005 x27_1).f2))) : Int).toNat) (c := co27) hC26 (by omega) (by omega) hroom26; obtain ⟨A26, hA26⟩ : ∃ A1, A1 = (if co27 = (((rd_T80 t36005 x27_1).f1) : Int).toNat then Ao27 else (Ao27 : Option Addr).map (·.add ((((rd_T80 t36005 x27_1).f1) : Int).toNat * 1))) := ⟨_, rfl⟩; obtain ⟨c26, hc26⟩ : ∃ c1, c1 = co27 - (((rd_T80 t36005 x27_1).f1) : Int).toNat := ⟨_, rfl⟩; have hy26 : y36014.length = ((wrap64 (((rd_T80 t36005 x27_1).f1) + ((rd_T80 t36005 x27_1).f2))) : Int).toNat - (((rd_T80 t36005 x27_1).f1) : Int).toNat := (by rw [Ny36014.out, List.length_drop, List.length_take] <;> omega); rw [show ((t36010).take ((wrap64 (((rd_T80 t36005 x27_1).f1) + ((rd_T80 t36005 x27_1).f2))) : Int).toNat).drop (((rd_T80 t36005 x27_1).f1) : Int).toNat = y36014 from Ny36014.out.symm] at hr26; replace hr26 : Kd.C (Kd.int .u8) _ A26 y36014.length y36014 := (by rw [hA26]; exact hr26); rw [← hy26, ← hA26, ← hc26] at hcut26; have HR36017 := Aside0.mk hr26; have HC36017 := Aside0.mk (show y36014.length ≤ c26 from by rw [hy26, hc26]; exact Nat.sub_le_sub_right (Nat.le_trans (by omega) hroom26) _); clear hr26 hC26 hroom26 hi026 hsz26 hc26; have KY26 := Aside0.mk hy26; have KA26 := Aside0.mk hA26; clear hy26 hA26; have KL26 := Aside0.mk (show ((wrap64 (((rd_T80 t36005 x27_1).f1) + ((rd_T80 t36005 x27_1).f2))) : Int).toNat ≤ t36010.length from by omega); have KM26 := Aside0.mk (show (((rd_T80 t36005 x27_1).f1) : Int).toNat ≤ ((wrap64 (((rd_T80 t36005 x27_1).f1) + ((rd_T80 t36005 x27_1).f2))) : Int).toNat from by omega); replace q26 := eq_true q26) | ((with_reducible refine gate_builtin (b := .append) (xs := #[.tmp 41, .tmp 50]) rfl ?_); at_builtin; refine Kd.R_append_rows (Kd.int .u8) (w0 := w) w.heap.size rfl (.tmp 41) (.tmp 50) 27 5 (.int .u8 0) 1 rfl Try.underlying27 info5 rfl (by decide) (by omega) u9 x9_1 y36014 _ _ _ (fun k_ => some k_ ≠ (.slice Ao27 t36010.length co27 : Value).ownBlock) (fun _ => False) rfl rfl ?aO ?aR (fun _ _ h => h) (fun _ h => h.elim) ?aF ?aB ?aS ?aL ?_; (case aR => repeat (first | exact (by repeat (first | (with_reducible exact HR36017.out) | (with_reducible refine Kd.C_alloc ?_ _) | (with_reducible refine Kd.C_drewN ?_ _) | (with_reducible refine Kd.C_drew ?_) | exact HR36017.out)) | (with_reducible refine Kd.C_alloc ?_ _) | (with_reducible refine Kd.C_drewN ?_ _) | (with_reducible refine Kd.C_drew ?_))); (case aB => exact (by repeat (first | (with_reducible first | exact HB.out | apply below_alloc | apply pw_below_drewN | apply below_drew1 | refine below_set ?_ GE36009.out) | exact HB.out))); (case aF => exact (fun k_ hk => Kd.fresh' (Kd.R_lt (by (with_reducible repeat (first | apply Kd.R_alloc | apply Kd.R_drewN | apply Kd.R_drew)); exact HO36013.out)) k_ hk)); (case aO => exact (by (with_reducible repeat (first | apply Kd.R_alloc | apply Kd.R_drewN | apply Kd.R_drew)); exact Kd.R_mono HO_9.out (fun _ hk => hk.2))); (case aS => exact (below_size (by repeat (first | (with_reducible first | exact HB.out | apply below_alloc | apply pw_below_drewN | apply below_drew1 | refine below_set ?_ GE36009.out) | exact HB.out)))); (case aL => have := LMc21.out; omega); intro v36019 w28 ho hb hg hat; rw [← Ny36018.out] at ho; have n0_ := Aside0.mk (Kd.R_over' (by (with_reducible repeat (first | apply Kd.R_alloc | apply Kd.R_drewN | apply Kd.R_drew)); exact HO_25.out) (Kd.R_typed (by (with_reducible repeat (first | apply Kd.R_alloc | apply Kd.R_drewN | apply Kd.R_drew)); exact HO_9.out)) (by decide) hg); have n1_ := Aside0.mk (blk_grown (g := gb36009) (o := .cells #[.int .i64 ((rd_T80 t36005 x27_1).f0), .int .i64 ((rd_T80 t36005 x27_1).f1), .int .i64 ((rd_T80 t36005 x27_1).f2)] 80 (0, 0)) (by (with_reducible repeat (first | refine blk_drewN ?_ _ | refine blk_drew ?_ | refine blk_alloc ?_ _)); exact BK36009.out) hg (Kd.R_ne HO_9.out BK36009.out (by decide))); have n2_ := Aside0.mk (Kd.R_after (ok := (fun _ => True)) (by (with_reducible repeat (first | apply Kd.R_alloc | apply Kd.R_drewN | apply Kd.R_drew)); exact HO36013.out) hg hat); have n3_ := Aside0.mk (hb); have n4_ := Aside0.mk ((show Kd.C (Kd.int .u8) w28 A26 y36014.length y36014 from by rw [Ny36014.out, KA26.out]; exact Kd.C_mid (lo := (((rd_T80 t36005 x27_1).f1) : Int).toNat) (hi := ((wrap64 (((rd_T80 t36005 x27_1).f1) + ((rd_T80 t36005 x27_1).f2))) : Int).toNat) (c := co27) ((Kd.R_reads' (Kd.R_after (ok := (fun _ => True)) (by (with_reducible repeat (first | apply Kd.R_alloc | apply Kd.R_drewN | apply Kd.R_drew)); exact HO36013.out) hg hat)).2.2) KM26.out KL26.out ((Kd.R_reads' (Kd.R_after (ok := (fun _ => True)) (by (with_reducible repeat (first | apply Kd.R_alloc | apply Kd.R_drewN | apply Kd.R_drew)); exact HO36013.out) hg hat)).2.1))); have n5_ := Aside0.mk (ho); clear HO_25; clear BK36009; clear HO36013; clear HB; clear HR36017; clear HO_9; have HO_25 := n0_; have BK36009 := n1_; have HO36013 := n2_; have HB := n3_; have HR36017 := n4_; have HO36020 := n5_; clear n0_ n1_ n2_ n3_ n4_ n5_; clear ho hb hg hat))
                            go_roundg k1
                            case measure => have := HK1.out; omega
                            case rel => exact ⟨(y36018), (wrap64 (x27_1 + 1)), (by first | rfl | (simp; done) | (simp [*]; done)), H', ⟨by have := HK1.out; omega⟩, ⟨by (with_reducible repeat (first | apply Kd.R_alloc | apply Kd.R_drewN | apply Kd.R_drew)); exact Kd.R_mono HO36020.out (fun _ hk => trivial)⟩, ⟨by (with_reducible repeat (first | apply Kd.R_alloc | apply Kd.R_drewN | apply Kd.R_drew)); exact Kd.R_mono HO_25.out (fun _ hk => trivial)⟩, ⟨by repeat (first | (with_reducible first | exact HB.out | apply below_alloc | apply pw_below_drewN | apply below_drew1 | refine below_set ?_ GE36009.out) | exact HB.out)⟩⟩
                          · rw [if_neg c21] at H
                            exact absurd H (by simp)
                        · rw [if_neg c20] at H
                          exact absurd H (by simp)
                      · rw [if_neg c19] at H
                        exact absurd H (by simp)
                    · rw [if_neg c18] at H
                      exact absurd H (by simp)
                  · rw [if_neg c17] at H
                    have c17b0 : (t36011 == 0) = false := beq_eq_false_iff_ne.mpr c17
                    have c17b1 : (t36011 != 0) = true := bne_iff_ne.mpr c17
                    simp only [Option.some.injEq, Prod.mk.injEq] at H
                    obtain ⟨rfl, rfl⟩ := H
                    have p36008 : 0 ≤ (x27_1 : Int) := of_decide_eq_true (by first | (with_reducible assumption) | assumption)
                    have q36008 : x27_1 < (t36005.length : Int) := of_decide_eq_true (by first | (with_reducible assumption) | assumption)
                    obtain ⟨ad36008, e36008, hx36008_0, hx36008_1, hx36008_2⟩ := at_T80 (Kd.R_reads' HO_25.out).2.2 x27_1 p36008 q36008
                    cases e36008
                    replace p36008 := eq_true p36008
                    replace q36008 := eq_true q36008
                    go_wp2_with (first | ((with_reducible refine gate_dst (N := 11) rfl ?_); refine box_event ?hg (N := 11) ?hd (cs := #[.int .i64 0, .int .i64 0, .int .i64 0]) (t := 80) ?hr ?_; (case hd => rfl); (case hg => rfl); (case hr => first | (go_simp; done) | (go_simp; rfl)); intro gb36009 hg w29 hbox hb; have n0_ := Aside0.mk (Kd.R_below (by (with_reducible repeat (first | apply Kd.R_alloc | apply Kd.R_drewN | apply Kd.R_drew)); exact HO_9.out) hb); have n1_ := Aside0.mk (Kd.R_below (Kd.R_elderB (by (with_reducible repeat (first | apply Kd.R_alloc | apply Kd.R_drewN | apply Kd.R_drew)); exact HO_25.out) gb36009 (Nat.le_of_eq hg.symm)) hb); have n2_ := Aside0.mk (below_step (by repeat (first | (with_reducible first | exact HB.out | apply below_alloc | apply pw_below_drewN | apply below_drew1) | exact HB.out)) hb); have n3_ := Aside0.mk (hbox); have n4_ := Aside0.mk ((by rw [hg]; exact (below_size (by repeat (first | (with_reducible first | exact HB.out | apply below_alloc | apply pw_below_drewN | apply below_drew1) | exact HB.out))) : w.heap.size ≤ gb36009)); have n5_ := Aside0.mk ((by rw [hg]; exact (below_size (by repeat (first | (with_reducible first | exact HB.out | apply below_alloc | apply pw_below_drewN | apply below_drew1) | exact HB.out))) : w.heap.size ≤ gb36009)); clear HO_9; clear HO_25; clear HB; have HO_9 := n0_; have HO_25 := n1_; have HB := n2_; have BK36009 := n3_; have GW36009 := n4_; have GE36009 := n5_; clear n0_ n1_ n2_ n3_ n4_ n5_; clear hb hbox hg; have hcz30_0 : w29.cell? ⟨gb36009, 0, none⟩ = some (.int .i64 0) := (blk_cell BK36009.out 0).trans rfl; have hcz30_1 : w29.cell? ⟨gb36009, 1, none⟩ = some (.int .i64 0) := (blk_cell BK36009.out 1).trans rfl; have hcz30_2 : w29.cell? ⟨gb36009, 2, none⟩ = some (.int .i64 0) := (blk_cell BK36009.out 2).trans rfl; have hfz30_0 := blk_frozen BK36009.out 0; have hfz30_1 := blk_frozen BK36009.out 1; have hfz30_2 := blk_frozen BK36009.out 2) | ((with_reducible refine gate_callee (f := 47) rfl ?_); refine goesL_ (some 35) rfl rfl Try.func47 (by kernel_rfl) rfl #[.slice A0 l0.length c0, .int .i64 ((rd_T80 t36005 x27_1).f0)] rfl (by (try simp only [List.map_toArray, List.map_cons, List.map_nil]); first | done | rfl | (simp only [List.length_drop, List.length_take]; rfl)) ?_; (with_reducible refine (block_Read.calls _ _ l0 ((rd_T80 t36005 x27_1).f0) t36010 t36011 _ ?side1 ?side2 A16.out).mono ?_); (case side1 => exact Kd.C_below HR0.out (by repeat (first | (with_reducible first | exact HB.out | apply below_alloc | apply pw_below_drewN | apply below_drew1 | refine below_set ?_ GE36009.out) | exact HB.out))); (case side2 => exact HC0.out); rintro e w31 ⟨v36012, rfl, ho0, hb⟩; refine ⟨_, rfl, ?_⟩; have n0_ := Aside0.mk (Kd.R_elder' (by (with_reducible repeat (first | apply Kd.R_alloc | apply Kd.R_drewN | apply Kd.R_drew)); exact (Kd.R_mono (Kd.R_far (p := ⟨gb36009, 2, none⟩) (Kd.R_far (p := ⟨gb36009, 1, none⟩) (Kd.R_far (p := ⟨gb36009, 0, none⟩) (Kd.R_types HO_9.out BK36009.out (by decide)) (fun _ hk => hk.2) (.int .i64 ((rd_T80 t36005 x27_1).f0))) (fun _ hk => hk.2) (.int .i64 ((rd_T80 t36005 x27_1).f1))) (fun _ hk => hk.2) (.int .i64 ((rd_T80 t36005 x27_1).f2))) (fun _ h_ => h_.1))) (Kd.R_base ho0) hb); have n1_ := Aside0.mk (Kd.R_below (by (with_reducible repeat (first | apply Kd.R_alloc | apply Kd.R_drewN | apply Kd.R_drew)); exact (Kd.R_mono (Kd.R_far (p := ⟨gb36009, 2, none⟩) (Kd.R_far (p := ⟨gb36009, 1, none⟩) (Kd.R_far (p := ⟨gb36009, 0, none⟩) (Kd.R_mono HO_25.out (fun k_ hk => (⟨hk, hk.2⟩ : _ ∧ k_ ≠ gb36009))) (fun _ hk => hk.2) (.int .i64 ((rd_T80 t36005 x27_1).f0))) (fun _ hk => hk.2) (.int .i64 ((rd_T80 t36005 x27_1).f1))) (fun _ hk => hk.2) (.int .i64 ((rd_T80 t36005 x27_1).f2))) (fun _ h_ => h_.1))) hb); have n2_ := Aside0.mk (Kd.R_lower (Kd.R_new' ho0 (Kd.R_lt (by (with_reducible repeat (first | apply Kd.R_alloc | apply Kd.R_drewN | apply Kd.R_drew)); exact (Kd.R_mono (Kd.R_far (p := ⟨gb36009, 2, none⟩) (Kd.R_far (p := ⟨gb36009, 1, none⟩) (Kd.R_far (p := ⟨gb36009, 0, none⟩) (Kd.R_types HO_9.out BK36009.out (by decide)) (fun _ hk => hk.2) (.int .i64 ((rd_T80 t36005 x27_1).f0))) (fun _ hk => hk.2) (.int .i64 ((rd_T80 t36005 x27_1).f1))) (fun _ hk => hk.2) (.int .i64 ((rd_T80 t36005 x27_1).f2))) (fun _ h_ => h_.1))))) (below_size (by repeat (first | (with_reducible first | exact HB.out | apply below_alloc | apply pw_below_drewN | apply below_drew1 | refine below_set ?_ GE36009.out) | exact HB.out)))); have n3_ := Aside0.mk (blk_below (g := gb36009) (o := .cells #[.int .i64 ((rd_T80 t36005 x27_1).f0), .int .i64 ((rd_T80 t36005 x27_1).f1), .int .i64 ((rd_T80 t36005 x27_1).f2)] 80 (0, 0)) (by (with_reducible repeat (first | refine blk_drewN ?_ _ | refine blk_drew ?_ | refine blk_alloc ?_ _)); refine blk_put (cs := #[.int .i64 ((rd_T80 t36005 x27_1).f0), .int .i64 ((rd_T80 t36005 x27_1).f1), .int .i64 0]) ?_ 2 _ rfl; (with_reducible repeat (first | refine blk_drewN ?_ _ | refine blk_drew ?_ | refine blk_alloc ?_ _)); refine blk_put (cs := #[.int .i64 ((rd_T80 t36005 x27_1).f0), .int .i64 0, .int .i64 0]) ?_ 1 _ rfl; (with_reducible repeat (first | refine blk_drewN ?_ _ | refine blk_drew ?_ | refine blk_alloc ?_ _)); refine blk_put (cs := #[.int .i64 0, .int .i64 0, .int .i64 0]) ?_ 0 _ rfl; (with_reducible repeat (first | refine blk_drewN ?_ _ | refine blk_drew ?_ | refine blk_alloc ?_ _)); exact BK36009.out) hb); have n4_ := Aside0.mk (below_step (by repeat (first | (with_reducible first | exact HB.out | apply below_alloc | apply pw_below_drewN | apply below_drew1 | refine below_set ?_ GE36009.out) | exact HB.out)) hb); clear HO_9; clear HO_25; clear BK36009; clear HB; have HO_9 := n0_; have HO_25 := n1_; have HO36013 := n2_; have BK36009 := n3_; have HB := n4_; clear n0_ n1_ n2_ n3_ n4_; (try clear hb); (try clear hb2); (try clear hk); (try clear hi); (try clear ho0)))
                    go_ret2
                    exact ⟨_, by first | rfl | (simp [errW_none, errW_some] <;> rfl) | (simp [*, errW_none, errW_some] <;> rfl), by first | exact Kd.R_nil _ _ _ _ _ | exact Kd.N_nil _ _ _ _ _ | exact Kd.V_nil _ _ _ _ _ | exact Kd.Q_nil _ _ _ _ _ | exact Kd.S_nil _ _ _ _ _, by repeat (first | (with_reducible first | exact HB.out | apply below_alloc | apply pw_below_drewN | apply below_drew1 | refine below_set ?_ GE36009.out) | exact HB.out)⟩
                · rw [if_neg c15] at H
                  exact absurd H (by simp)
              · rw [if_neg c14] at H
                exact absurd H (by simp)
            · rw [if_neg c13] at H
              have c13b0 : decide (x27_1 < (t36005.length : Int)) = false := decide_eq_false c13
              clear c13
              simp only [Option.some.injEq, Prod.mk.injEq] at H
              obtain ⟨rfl, rfl⟩ := H
              go_wp2
              go_ret2
              exact ⟨_, by first | rfl | (simp [errW_none, errW_some] <;> rfl) | (simp [*, errW_none, errW_some] <;> rfl), by (with_reducible repeat (first | apply Kd.R_alloc | apply Kd.R_drewN | apply Kd.R_drew)); exact HO_9.out, by repeat (first | (with_reducible first | exact HB.out | apply below_alloc | apply pw_below_drewN | apply below_drew1) | exact HB.out)⟩
      · rw [if_neg c7] at H
        exact absurd H (by simp)
    · rw [if_neg c6] at H
      exact absurd H (by simp)
  · rw [if_neg c5] at H
    have c5b0 : (t36001 == 0) = false := beq_eq_false_iff_ne.mpr c5
    have c5b1 : (t36001 != 0) = true := bne_iff_ne.mpr c5
    simp only [Option.some.injEq, Prod.mk.injEq] at H
    obtain ⟨rfl, rfl⟩ := H
    go_enter Try.func35, Try.ntmps35
    go_wp2_with (first | ((with_reducible refine gate_callee (f := 45) rfl ?_); refine goesL_ (some 17) rfl rfl Try.func45 (by kernel_rfl) rfl #[.slice A0 l0.length c0, .int .i64 a1, .int .i64 a2] rfl (by (try simp only [List.map_toArray, List.map_cons, List.map_nil]); first | done | rfl | (simp only [List.length_drop, List.length_take]; rfl)) ?_; (with_reducible refine (block_stretch.calls _ _ l0 a1 a2 t36001 _ ?side1 ?side2 A4.out).mono ?_); (case side1 => repeat (first | exact HR0.out | (with_reducible refine Kd.C_alloc ?_ _) | (with_reducible refine Kd.C_drewN ?_ _) | (with_reducible refine Kd.C_drew ?_))); (case side2 => exact HC0.out); rintro e w' ⟨rfl, ⟨nd, rfl⟩⟩; refine ⟨_, rfl, ?_⟩))
    go_ret2
    exact ⟨_, by first | rfl | (simp [errW_none, errW_some] <;> rfl) | (simp [*, errW_none, errW_some] <;> rfl), by first | exact Kd.R_nil _ _ _ _ _ | exact Kd.N_nil _ _ _ _ _ | exact Kd.V_nil _ _ _ _ _ | exact Kd.Q_nil _ _ _ _ _ | exact Kd.S_nil _ _ _ _ _, by repeat (first | (with_reducible first | exact HB.out | apply below_alloc | apply pw_below_drewN | apply below_drew1) | exact HB.out)⟩

end Go.Proofs.Ytnbomjfpnpmllaa.Q
end
section
namespace Go.Proofs.Ytnbomjfpnpmllaa.Q
open Go.RowKit Go.Proofs.YtnbomjfpnpmllaaW.PrintWords Go.Proofs.YtnbomjfpnpmllaaW.PrintLast Go.Proofs.YtnbomjfpnpmllaaW.PrintMore
theorem take_split (l : List Int) (a n m : Nat) : (l.drop a).take (n + m) = (l.drop a).take n ++ (l.drop (a + n)).take m := by
  rw [List.take_add, List.drop_drop]
theorem get_go (l : List Int) (hd : diskB l = true) (ps : List S80) (hps : ps.length ≤ 1000000000) (d : Nat) : ∀ (k : Nat) (acc : List Int) (i at_ n : Int), 0 ≤ i → i + d = ps.length → d < k → acc.length + n ≤ 1000000000 → 0 ≤ at_ → at_ + n ≤ l.length → Chain at_ n (ps.drop i.toNat) →
    block_Get.l0 k l acc ps (ps.length : Int) i = some (acc ++ (l.drop at_.toNat).take n.toNat, 0) := by
  have hln : l.length % 512 = 0 ∧ l.length ≤ 32768 := by simpa [diskB] using hd
  induction d with
  | zero =>
    intro k acc i at_ n h0 h1 hk ha hat hn hc
    obtain ⟨k, rfl⟩ : ∃ m, k = m + 1 := ⟨k - 1, by omega⟩
    rw [List.drop_eq_nil_of_le (by omega)] at hc
    have := hc.nil_inv
    subst this
    simp only [block_Get.l0]
    rw [if_neg (by omega)]
    simp
  | succ d ih =>
    intro k acc i at_ n h0 h1 hk ha hat hn hc
    obtain ⟨k, rfl⟩ : ∃ m, k = m + 1 := ⟨k - 1, by omega⟩
    have hil : i.toNat < ps.length := by omega
    have hrd : rd_T80 ps i = ps[i.toNat] := by simp [rd_T80, List.getD_eq_getElem?_getD, List.getElem?_eq_getElem hil]
    rw [List.drop_eq_getElem_cons hil] at hc
    obtain ⟨⟨q1, q2, q3, q4, q5, q6⟩, q7, q8⟩ := hc.cons_inv
    have e1 : wrap64 (i + 1) = i + 1 := by unfold wrap64; omega
    have e2 : (i + 1).toNat = i.toNat + 1 := by omega
    have e3 : wrap64 (ps[i.toNat].f1 + ps[i.toNat].f2) = ps[i.toNat].f1 + ps[i.toNat].f2 := by unfold wrap64; omega
    have hsl : ((l.drop (ps[i.toNat].f0 * 512).toNat).take 512).length = 512 := by rw [List.length_take, List.length_drop]; omega
    simp only [block_Get.l0]
    rw [if_pos (by omega), if_pos h0, if_pos (by omega), hrd, e1, e3, block_Read_eq l _ (by omega), if_pos hd, if_pos (by omega), Option.bind_some]
    dsimp only
    rw [if_pos rfl, if_pos q3, if_pos (by omega), if_pos (by rw [hsl]; omega), Option.bind_some]
    have hy : (((l.drop (ps[i.toNat].f0 * 512).toNat).take 512).take (ps[i.toNat].f1 + ps[i.toNat].f2).toNat).drop ps[i.toNat].f1.toNat = (l.drop at_.toNat).take ps[i.toNat].f2.toNat := by
      rw [List.take_take, List.drop_take, List.drop_drop]
      congr 1
      · omega
      · congr 1
        omega
    have hyl : ((l.drop at_.toNat).take ps[i.toNat].f2.toNat).length = ps[i.toNat].f2.toNat := by rw [List.length_take, List.length_drop]; omega
    rw [hy, if_pos (by rw [hyl]; omega), ih k _ (i + 1) (at_ + ps[i.toNat].f2) (n - ps[i.toNat].f2) (by omega) (by omega) (by omega) (by rw [List.length_append, hyl]; omega) (by omega) (by omega) (by rw [e2]; exact q8)]
    rw [List.append_assoc, show n.toNat = ps[i.toNat].f2.toNat + (n - ps[i.toNat].f2).toNat by omega, take_split, show at_.toNat + ps[i.toNat].f2.toNat = (at_ + ps[i.toNat].f2).toNat by omega]
theorem block_Get_eq (l : List Int) (a n : Int) (k : Nat) (hl : l.length ≤ 140737488351232) (hk : 40000 ≤ k) : block_Get.f k l a n = some (if diskB l = true then (if 0 ≤ a ∧ 0 ≤ n ∧ a ≤ l.length ∧ n ≤ l.length - a then ((l.drop a.toNat).take n.toNat, 0) else ([], 23)) else ([], 1)) := by
  unfold block_Get.f
  rw [block_stretch_eq l a n hl, Option.bind_some]
  by_cases hd : diskB l = true
  · have hln : l.length % 512 = 0 ∧ l.length ≤ 32768 := by simpa [diskB] using hd
    rw [if_pos hd, if_pos hd]
    by_cases hn : 0 ≤ a ∧ 0 ≤ n ∧ a ≤ l.length ∧ n ≤ l.length - a
    · obtain ⟨ps, hp, hc, hpl⟩ := pieces_chain k a n (by omega) (by omega) (by omega) (by omega)
      rw [if_pos hn, if_pos hn, if_pos rfl, if_pos hn.2.1, if_pos (by omega), hp, Option.bind_some, get_go l hd ps (by omega) ps.length k [] 0 a n (by omega) (by omega) (by omega) (by simp; omega) (by omega) (by omega) hc, List.nil_append]
    · rw [if_neg hn, if_neg hn, if_neg (by decide)]
  · rw [if_neg hd, if_neg hd, if_neg (by decide)]
end Go.Proofs.Ytnbomjfpnpmllaa.Q
end
section
namespace Go.Proofs.Ytnbomjfpnpmllaa.Q
open Go.RowKit Go.Proofs.YtnbomjfpnpmllaaW.PrintWords Go.Proofs.YtnbomjfpnpmllaaW.PrintLast Go.Proofs.YtnbomjfpnpmllaaW.PrintMore
set_option linter.unusedVariables false
set_option linter.unusedSimpArgs false

attribute [local go_sem] max2_int min2_int max_two min_two max_three min_three max_four min_four
/-! ### tinderref20_In: function 48 -/
def tinderref20_In.f (l0 : List Int) (a1 : Int) (a2 : Int) : Option (Bool) := if a1 ≥ 0 then (if a1 ≤ (l0.length : Int) then (if a2 ≥ 0 then (some (decide (a2 ≤ (wrap64 ((l0.length : Int) - a1))))) else (some false)) else (some false)) else (some false)
set_option maxHeartbeats 8000000 in
set_option maxRecDepth 100000 in
theorem tinderref20_In.calls (A0 : Option Addr) (c0 : Nat) (l0 : List Int) (a1 : Int) (a2 : Int) (r : Bool) (w : World) (hr0 : Kd.C (Kd.int .u8) w A0 l0.length l0) (hc0 : l0.length ≤ c0) (h : tinderref20_In.f l0 a1 a2 = some r) :
    Calls Try.prog 48 #[.slice A0 l0.length c0, .int .i64 a1, .int .i64 a2] w fun e w' => e = .returned (.bool r) ∧ Drawn0 w w' := by
  have HR0 := Aside0.mk hr0
  have HC0 := Aside0.mk hc0
  clear hr0 hc0
  have H : (if a1 ≥ 0 then (if a1 ≤ (l0.length : Int) then (if a2 ≥ 0 then (some (decide (a2 ≤ (wrap64 ((l0.length : Int) - a1))))) else (some false)) else (some false)) else (some false)) = some r := h
  clear h
  by_cases c4 : a1 ≥ 0
  · rw [if_pos c4] at H
    have c4b0 : decide (0 ≤ a1) = true := decide_eq_true c4
    clear c4
    by_cases c5 : a1 ≤ (l0.length : Int)
    · rw [if_pos c5] at H
      have c5b0 : decide (a1 ≤ (l0.length : Int)) = true := decide_eq_true c5
      clear c5
      by_cases c6 : a2 ≥ 0
      · rw [if_pos c6] at H
        have c6b0 : decide (0 ≤ a2) = true := decide_eq_true c6
        clear c6
        obtain rfl := Option.some.inj H
        go_enter Try.func48, Try.ntmps48
        go_wp2
        go_ret
        exact ⟨by first | rfl | (simp; done) | (simp [*]; done), by repeat (first | exact Drawn0.refl _ | apply Drawn0.step)⟩
      · rw [if_neg c6] at H
        have c6b0 : decide (0 ≤ a2) = false := decide_eq_false c6
        clear c6
        obtain rfl := Option.some.inj H
        go_enter Try.func48, Try.ntmps48
        go_wp2
        go_ret
        exact ⟨by first | rfl | (simp; done) | (simp [*]; done), by repeat (first | exact Drawn0.refl _ | apply Drawn0.step)⟩
    · rw [if_neg c5] at H
      have c5b0 : decide (a1 ≤ (l0.length : Int)) = false := decide_eq_false c5
      clear c5
      obtain rfl := Option.some.inj H
      go_enter Try.func48, Try.ntmps48
      go_wp2
      go_ret
      exact ⟨by first | rfl | (simp; done) | (simp [*]; done), by repeat (first | exact Drawn0.refl _ | apply Drawn0.step)⟩
  · rw [if_neg c4] at H
    have c4b0 : decide (0 ≤ a1) = false := decide_eq_false c4
    clear c4
    obtain rfl := Option.some.inj H
    go_enter Try.func48, Try.ntmps48
    go_wp2
    go_ret
    exact ⟨by first | rfl | (simp; done) | (simp [*]; done), by repeat (first | exact Drawn0.refl _ | apply Drawn0.step)⟩

end Go.Proofs.Ytnbomjfpnpmllaa.Q
end
section
namespace Go.Proofs.Ytnbomjfpnpmllaa.Q
open Go.RowKit Go.Proofs.YtnbomjfpnpmllaaW.PrintWords Go.Proofs.YtnbomjfpnpmllaaW.PrintLast Go.Proofs.YtnbomjfpnpmllaaW.PrintMore
set_option linter.unusedVariables false
set_option linter.unusedSimpArgs false

attribute [local go_sem] max2_int min2_int max_two min_two max_three min_three max_four min_four
/-! ### tinderref04_Copy: function 17 -/
def tinderref04_Copy.f (l0 : List Int) : Option (List Int) := if ([] : List Int).length + l0.length < 140737488355328 then (some (([] : List Int) ++ l0)) else (none)
set_option maxHeartbeats 8000000 in
set_option maxRecDepth 100000 in
theorem tinderref04_Copy.calls (A0 : Option Addr) (c0 : Nat) (l0 : List Int) (r : List Int) (w : World) (hr0 : Kd.C (Kd.int .u8) w A0 l0.length l0) (hc0 : l0.length ≤ c0) (h : tinderref04_Copy.f l0 = some r) :
    Calls Try.prog 17 #[.slice A0 l0.length c0] w fun e w' => ∃ v0_ : Value, e = .returned (v0_) ∧ Kd.R (Kd.int .u8) 5 w' w.heap.size (fun _ => True) v0_ r ∧ Below w.heap.size w w' := by
  have HR0 := Aside0.mk hr0
  have HC0 := Aside0.mk hc0
  clear hr0 hc0
  have HB := Aside0.mk (Below.refl w.heap.size w)
  have H : (if ([] : List Int).length + l0.length < 140737488355328 then (some (([] : List Int) ++ l0)) else (none)) = some r := h
  clear h
  by_cases c2 : ([] : List Int).length + l0.length < 140737488355328
  · rw [if_pos c2] at H
    have LMc2 := Aside0.mk c2
    clear c2
    obtain ⟨y18001, hy18001⟩ : ∃ y_ : List Int, y_ = (([] : List Int) ++ l0) := ⟨_, rfl⟩
    replace H : (some y18001) = some r := by first | (rw [hy18001]; with_reducible exact H) | (have H2_ := (Option.bind_some _ _).symm.trans H; rw [hy18001]; with_reducible exact H2_) | (have H2_ := (Option.bind_some _ _).symm.trans H; with_reducible exact H2_) | with_reducible exact H | (rw [hy18001]; exact H) | exact H
    have Ny18001 := Aside0.mk hy18001
    clear hy18001
    obtain rfl := Option.some.inj H
    go_enter Try.func17, Try.ntmps17
    go_wp2_with (first | ((with_reducible refine gate_builtin (b := .append) (xs := #[.tmp 4, .tmp 5]) rfl ?_); at_builtin; refine Kd.R_append_rows (Kd.int .u8) (w0 := w) w.heap.size rfl (.tmp 4) (.tmp 5) 27 5 (.int .u8 0) 1 rfl Try.underlying27 info5 rfl (by decide) (by omega) (.slice none 0 0) ([] : List Int) l0 _ _ _ (fun _ => True) (fun _ => False) rfl rfl ?aO ?aR (fun _ _ h => h) (fun _ h => h.elim) ?aF ?aB ?aS ?aL ?_; (case aR => repeat (first | exact HR0.out | (with_reducible refine Kd.C_alloc ?_ _) | (with_reducible refine Kd.C_drewN ?_ _) | (with_reducible refine Kd.C_drew ?_))); (case aB => exact (by repeat (first | (with_reducible first | exact HB.out | apply below_alloc | apply pw_below_drewN | apply below_drew1) | exact HB.out))); (case aF => exact (fun _ _ => trivial)); (case aO => exact ((Kd.R_nil _ _ _ _ (fun _ => True)))); (case aS => exact (below_size (by repeat (first | (with_reducible first | exact HB.out | apply below_alloc | apply pw_below_drewN | apply below_drew1) | exact HB.out)))); (case aL => have := LMc2.out; omega); intro v18002 w3 ho hb hg hat; rw [← Ny18001.out] at ho; have n0_ := Aside0.mk (hb); have n1_ := Aside0.mk (ho); clear HB; have HB := n0_; have HO18003 := n1_; clear n0_ n1_; clear ho hb hg hat))
    go_ret
    exact ⟨_, by first | rfl | (simp [errW_none, errW_some] <;> rfl) | (simp [*, errW_none, errW_some] <;> rfl), by (with_reducible repeat (first | apply Kd.R_alloc | apply Kd.R_drewN | apply Kd.R_drew)); exact HO18003.out, by repeat (first | (with_reducible first | exact HB.out | apply below_alloc | apply pw_below_drewN | apply below_drew1) | exact HB.out)⟩
  · rw [if_neg c2] at H
    exact absurd H (by simp)

end Go.Proofs.Ytnbomjfpnpmllaa.Q
end
section
namespace Go.Proofs.Ytnbomjfpnpmllaa.Q
open Go.RowKit Go.Proofs.YtnbomjfpnpmllaaW.PrintWords Go.Proofs.YtnbomjfpnpmllaaW.PrintLast Go.Proofs.YtnbomjfpnpmllaaW.PrintMore
set_option linter.unusedVariables false
set_option linter.unusedSimpArgs false

attribute [local go_sem] max2_int min2_int max_two min_two max_three min_three max_four min_four
/-! ### tinderref20_Formed: function 33 -/
def tinderref20_Formed.f (l0 : List Int) : Option (Bool) := if ((l0.length : Int) % 512) = 0 then (some (decide ((l0.length : Int) ≤ 32768))) else (some false)
set_option maxHeartbeats 8000000 in
set_option maxRecDepth 100000 in
theorem tinderref20_Formed.calls (A0 : Option Addr) (c0 : Nat) (l0 : List Int) (r : Bool) (w : World) (hr0 : Kd.C (Kd.int .u8) w A0 l0.length l0) (hc0 : l0.length ≤ c0) (h : tinderref20_Formed.f l0 = some r) :
    Calls Try.prog 33 #[.slice A0 l0.length c0] w fun e w' => e = .returned (.bool r) ∧ Drawn0 w w' := by
  have HR0 := Aside0.mk hr0
  have HC0 := Aside0.mk hc0
  clear hr0 hc0
  have H : (if ((l0.length : Int) % 512) = 0 then (some (decide ((l0.length : Int) ≤ 32768))) else (some false)) = some r := h
  clear h
  by_cases c2 : ((l0.length : Int) % 512) = 0
  · rw [if_pos c2] at H
    have c2b0 : (((l0.length : Int) % 512) == 0) = true := beq_iff_eq.mpr c2
    have c2b1 : (((l0.length : Int) % 512) != 0) = false := bne_eq_false_iff_eq.mpr c2
    clear c2
    obtain rfl := Option.some.inj H
    go_enter Try.func33, Try.ntmps33
    go_wp2
    go_ret
    exact ⟨by first | rfl | (simp; done) | (simp [*]; done), by repeat (first | exact Drawn0.refl _ | apply Drawn0.step)⟩
  · rw [if_neg c2] at H
    have c2b0 : (((l0.length : Int) % 512) == 0) = false := beq_eq_false_iff_ne.mpr c2
    have c2b1 : (((l0.length : Int) % 512) != 0) = true := bne_iff_ne.mpr c2
    obtain rfl := Option.some.inj H
    go_enter Try.func33, Try.ntmps33
    go_wp2
    go_ret
    exact ⟨by first | rfl | (simp; done) | (simp [*]; done), by repeat (first | exact Drawn0.refl _ | apply Drawn0.step)⟩

end Go.Proofs.Ytnbomjfpnpmllaa.Q
end
section
namespace Go.Proofs.Ytnbomjfpnpmllaa.Q
open Go.RowKit Go.Proofs.YtnbomjfpnpmllaaW.PrintWords Go.Proofs.YtnbomjfpnpmllaaW.PrintLast Go.Proofs.YtnbomjfpnpmllaaW.PrintMore
set_option linter.unusedVariables false
set_option linter.unusedSimpArgs false

attribute [local go_sem] max2_int min2_int max_two min_two max_three min_three max_four min_four
/-! ### tinderref20_Get: function 37 -/
def tinderref20_Get.f (l0 : List Int) (a1 : Int) (a2 : Int) : Option (List Int × Int) := (tinderref20_Formed.f l0).bind fun t38001 => (if t38001 = true then ((tinderref20_In.f l0 a1 a2).bind fun t38002 => (if t38002 = true then (if 0 ≤ a1 then (if a1 ≤ (wrap64 (a1 + a2)) then (if (wrap64 (a1 + a2)) ≤ (l0.length : Int) then ((tinderref04_Copy.f ((l0.take ((wrap64 (a1 + a2)) : Int).toNat).drop (a1 : Int).toNat)).bind fun t38004 => (some (t38004, 0))) else (none)) else (none)) else (none)) else (some (([] : List Int), 23)))) else (some (([] : List Int), 1)))
set_option maxHeartbeats 8000000 in
set_option maxRecDepth 100000 in
theorem tinderref20_Get.calls (A0 : Option Addr) (c0 : Nat) (l0 : List Int) (a1 : Int) (a2 : Int) (r1 : List Int) (r2 : Int) (w : World) (hr0 : Kd.C (Kd.int .u8) w A0 l0.length l0) (hc0 : l0.length ≤ c0) (h : tinderref20_Get.f l0 a1 a2 = some (r1, r2)) :
    Calls Try.prog 37 #[.slice A0 l0.length c0, .int .i64 a1, .int .i64 a2] w fun e w' => ∃ v0_ : Value, e = .returned (.tuple #[v0_, .int .i64 r2]) ∧ Kd.R (Kd.int .u8) 5 w' w.heap.size (fun _ => True) v0_ r1 ∧ Below w.heap.size w w' := by
  have HR0 := Aside0.mk hr0
  have HC0 := Aside0.mk hc0
  clear hr0 hc0
  have HB := Aside0.mk (Below.refl w.heap.size w)
  have H : ((tinderref20_Formed.f l0).bind fun t38001 => (if t38001 = true then ((tinderref20_In.f l0 a1 a2).bind fun t38002 => (if t38002 = true then (if 0 ≤ a1 then (if a1 ≤ (wrap64 (a1 + a2)) then (if (wrap64 (a1 + a2)) ≤ (l0.length : Int) then ((tinderref04_Copy.f ((l0.take ((wrap64 (a1 + a2)) : Int).toNat).drop (a1 : Int).toNat)).bind fun t38004 => (some (t38004, 0))) else (none)) else (none)) else (none)) else (some (([] : List Int), 23)))) else (some (([] : List Int), 1)))) = some (r1, r2) := h
  clear h
  replace H := Option.bind_eq_some_iff.mp H
  obtain ⟨t38001, A40, H⟩ := H
  replace H : (if t38001 = true then ((tinderref20_In.f l0 a1 a2).bind fun t38002 => (if t38002 = true then (if 0 ≤ a1 then (if a1 ≤ (wrap64 (a1 + a2)) then (if (wrap64 (a1 + a2)) ≤ (l0.length : Int) then ((tinderref04_Copy.f ((l0.take ((wrap64 (a1 + a2)) : Int).toNat).drop (a1 : Int).toNat)).bind fun t38004 => (some (t38004, 0))) else (none)) else (none)) else (none)) else (some (([] : List Int), 23)))) else (some (([] : List Int), 1))) = some (r1, r2) := H
  have A4 := Aside0.mk A40
  clear A40
  by_cases c5 : t38001 = true
  · subst c5
    have H1 : ((tinderref20_In.f l0 a1 a2).bind fun t38002 => (if t38002 = true then (if 0 ≤ a1 then (if a1 ≤ (wrap64 (a1 + a2)) then (if (wrap64 (a1 + a2)) ≤ (l0.length : Int) then ((tinderref04_Copy.f ((l0.take ((wrap64 (a1 + a2)) : Int).toNat).drop (a1 : Int).toNat)).bind fun t38004 => (some (t38004, 0))) else (none)) else (none)) else (none)) else (some (([] : List Int), 23)))) = some (r1, r2) := by rw [if_pos rfl] at H; exact H
    clear H
    have H := H1
    clear H1
    replace H := Option.bind_eq_some_iff.mp H
    obtain ⟨t38002, A60, H⟩ := H
    replace H : (if t38002 = true then (if 0 ≤ a1 then (if a1 ≤ (wrap64 (a1 + a2)) then (if (wrap64 (a1 + a2)) ≤ (l0.length : Int) then ((tinderref04_Copy.f ((l0.take ((wrap64 (a1 + a2)) : Int).toNat).drop (a1 : Int).toNat)).bind fun t38004 => (some (t38004, 0))) else (none)) else (none)) else (none)) else (some (([] : List Int), 23))) = some (r1, r2) := H
    have A6 := Aside0.mk A60
    clear A60
    by_cases c7 : t38002 = true
    · subst c7
      have H1 : (if 0 ≤ a1 then (if a1 ≤ (wrap64 (a1 + a2)) then (if (wrap64 (a1 + a2)) ≤ (l0.length : Int) then ((tinderref04_Copy.f ((l0.take ((wrap64 (a1 + a2)) : Int).toNat).drop (a1 : Int).toNat)).bind fun t38004 => (some (t38004, 0))) else (none)) else (none)) else (none)) = some (r1, r2) := by rw [if_pos rfl] at H; exact H
      clear H
      have H := H1
      clear H1
      by_cases c8 : 0 ≤ a1
      · rw [if_pos c8] at H
        have c8b0 := eq_true c8
        have c8b1 : decide (0 ≤ a1) = true := decide_eq_true c8
        clear c8
        by_cases c9 : a1 ≤ (wrap64 (a1 + a2))
        · rw [if_pos c9] at H
          have c9b0 := eq_true c9
          have c9b1 : decide (a1 ≤ (wrap64 (a1 + a2))) = true := decide_eq_true c9
          by_cases c10 : (wrap64 (a1 + a2)) ≤ (l0.length : Int)
          · rw [if_pos c10] at H
            have c10b0 := eq_true c10
            have c10b1 : decide ((wrap64 (a1 + a2)) ≤ (l0.length : Int)) = true := decide_eq_true c10
            replace H := Option.bind_eq_some_iff.mp H
            obtain ⟨t38004, A110, H⟩ := H
            replace H : (some (t38004, 0)) = some (r1, r2) := H
            have A11 := Aside0.mk A110
            clear A110
            simp only [Option.some.injEq, Prod.mk.injEq] at H
            obtain ⟨rfl, rfl⟩ := H
            go_enter Try.func37, Try.ntmps37
            go_wp2_with (first | ((with_reducible refine gate_callee (f := 33) rfl ?_); refine goesL_ (some 9) rfl rfl Try.func33 (by kernel_rfl) rfl #[.slice A0 l0.length c0] rfl (by (try simp only [List.map_toArray, List.map_cons, List.map_nil]); first | done | rfl | (simp only [List.length_drop, List.length_take]; rfl)) ?_; (with_reducible refine (tinderref20_Formed.calls _ _ l0 true _ ?side1 ?side2 A4.out).mono ?_); (case side1 => repeat (first | exact HR0.out | (with_reducible refine Kd.C_alloc ?_ _) | (with_reducible refine Kd.C_drewN ?_ _) | (with_reducible refine Kd.C_drew ?_))); (case side2 => exact HC0.out); rintro e w' ⟨rfl, ⟨nd, rfl⟩⟩; refine ⟨_, rfl, ?_⟩) | ((with_reducible refine gate_callee (f := 48) rfl ?_); refine goesL_ (some 14) rfl rfl Try.func48 (by kernel_rfl) rfl #[.slice A0 l0.length c0, .int .i64 a1, .int .i64 a2] rfl (by (try simp only [List.map_toArray, List.map_cons, List.map_nil]); first | done | rfl | (simp only [List.length_drop, List.length_take]; rfl)) ?_; (with_reducible refine (tinderref20_In.calls _ _ l0 a1 a2 true _ ?side1 ?side2 A6.out).mono ?_); (case side1 => repeat (first | exact HR0.out | (with_reducible refine Kd.C_alloc ?_ _) | (with_reducible refine Kd.C_drewN ?_ _) | (with_reducible refine Kd.C_drew ?_))); (case side2 => exact HC0.out); rintro e w' ⟨rfl, ⟨nd, rfl⟩⟩; refine ⟨_, rfl, ?_⟩; obtain ⟨i012, hi012, _, hsz12, _⟩ := info_parts info5; obtain ⟨A12, hcut12, hA12, hC12⟩ := print_mid_of (P := Try.prog) (Value.int .u8) 0 27 5 .i64 .i64 Try.underlying27 hi012 hsz12 A0 c0 l0 a1 (wrap64 (a1 + a2)) (of_decide_eq_true (by first | (with_reducible assumption) | assumption)) (by first | omega | exact of_decide_eq_true (by first | (with_reducible assumption) | assumption)) (of_decide_eq_true (by first | (with_reducible assumption) | assumption)) HC0.out; have HR38003 := Aside0.mk (Kd.C_of_reads (h1 := fun _ => rfl) (hA12 _ (Kd.reads_of_C HR0.out))); have HC38003 := Aside0.mk hC12; clear hA12 hC12 hi012 hsz12) | ((with_reducible refine gate_callee (f := 17) rfl ?_); refine goesL_ (some 22) rfl rfl Try.func17 (by kernel_rfl) rfl #[.slice A12 ((l0.take ((wrap64 (a1 + a2)) : Int).toNat).drop (a1 : Int).toNat).length (c0 - a1.toNat)] rfl (by (try simp only [List.map_toArray, List.map_cons, List.map_nil]); first | done | (rw [show ((l0.take ((wrap64 (a1 + a2)) : Int).toNat).drop (a1 : Int).toNat).length = ((wrap64 (a1 + a2)).toNat - a1.toNat) from (by rw [List.length_drop, List.length_take]; have h_ : ((wrap64 (a1 + a2)) : Int) ≤ (l0.length : Int) := of_decide_eq_true (by first | (with_reducible assumption) | assumption); omega)] <;> rfl) | rfl | (simp only [List.length_drop, List.length_take]; rfl)) ?_; (with_reducible refine (tinderref04_Copy.calls _ _ ((l0.take ((wrap64 (a1 + a2)) : Int).toNat).drop (a1 : Int).toNat) t38004 _ ?side1 ?side2 A11.out).mono ?_); (case side1 => repeat (first | exact HR38003.out | (with_reducible refine Kd.C_alloc ?_ _) | (with_reducible refine Kd.C_drewN ?_ _) | (with_reducible refine Kd.C_drew ?_))); (case side2 => exact HC38003.out); rintro e w13 ⟨v38005, rfl, ho0, hb⟩; refine ⟨_, rfl, ?_⟩; have n0_ := Aside0.mk (Kd.R_lower ho0 (below_size (by repeat (first | (with_reducible first | exact HB.out | apply below_alloc | apply pw_below_drewN | apply below_drew1) | exact HB.out)))); have n1_ := Aside0.mk (below_step (by repeat (first | (with_reducible first | exact HB.out | apply below_alloc | apply pw_below_drewN | apply below_drew1) | exact HB.out)) hb); clear HB; have HO38006 := n0_; have HB := n1_; clear n0_ n1_; (try clear hb); (try clear hb2); (try clear hk); (try clear hi); (try clear ho0)))
            go_ret2
            exact ⟨_, by first | rfl | (simp [errW_none, errW_some] <;> rfl) | (simp [*, errW_none, errW_some] <;> rfl), by (with_reducible repeat (first | apply Kd.R_alloc | apply Kd.R_drewN | apply Kd.R_drew)); exact HO38006.out, by repeat (first | (with_reducible first | exact HB.out | apply below_alloc | apply pw_below_drewN | apply below_drew1) | exact HB.out)⟩
          · rw [if_neg c10] at H
            exact absurd H (by simp)
        · rw [if_neg c9] at H
          exact absurd H (by simp)
      · rw [if_neg c8] at H
        exact absurd H (by simp)
    · replace c7 := Bool.eq_false_iff.mpr c7
      subst c7
      have H1 : (some (([] : List Int), 23)) = some (r1, r2) := by rw [if_neg (show ¬ (false = true) by decide)] at H; exact H
      clear H
      have H := H1
      clear H1
      simp only [Option.some.injEq, Prod.mk.injEq] at H
      obtain ⟨rfl, rfl⟩ := H
      go_enter Try.func37, Try.ntmps37
      go_wp2_with (first | ((with_reducible refine gate_callee (f := 33) rfl ?_); refine goesL_ (some 9) rfl rfl Try.func33 (by kernel_rfl) rfl #[.slice A0 l0.length c0] rfl (by (try simp only [List.map_toArray, List.map_cons, List.map_nil]); first | done | rfl | (simp only [List.length_drop, List.length_take]; rfl)) ?_; (with_reducible refine (tinderref20_Formed.calls _ _ l0 true _ ?side1 ?side2 A4.out).mono ?_); (case side1 => repeat (first | exact HR0.out | (with_reducible refine Kd.C_alloc ?_ _) | (with_reducible refine Kd.C_drewN ?_ _) | (with_reducible refine Kd.C_drew ?_))); (case side2 => exact HC0.out); rintro e w' ⟨rfl, ⟨nd, rfl⟩⟩; refine ⟨_, rfl, ?_⟩) | ((with_reducible refine gate_callee (f := 48) rfl ?_); refine goesL_ (some 14) rfl rfl Try.func48 (by kernel_rfl) rfl #[.slice A0 l0.length c0, .int .i64 a1, .int .i64 a2] rfl (by (try simp only [List.map_toArray, List.map_cons, List.map_nil]); first | done | rfl | (simp only [List.length_drop, List.length_take]; rfl)) ?_; (with_reducible refine (tinderref20_In.calls _ _ l0 a1 a2 false _ ?side1 ?side2 A6.out).mono ?_); (case side1 => repeat (first | exact HR0.out | (with_reducible refine Kd.C_alloc ?_ _) | (with_reducible refine Kd.C_drewN ?_ _) | (with_reducible refine Kd.C_drew ?_))); (case side2 => exact HC0.out); rintro e w' ⟨rfl, ⟨nd, rfl⟩⟩; refine ⟨_, rfl, ?_⟩))
      go_ret2
      exact ⟨_, by first | rfl | (simp [errW_none, errW_some] <;> rfl) | (simp [*, errW_none, errW_some] <;> rfl), by first | exact Kd.R_nil _ _ _ _ _ | exact Kd.N_nil _ _ _ _ _ | exact Kd.V_nil _ _ _ _ _ | exact Kd.Q_nil _ _ _ _ _ | exact Kd.S_nil _ _ _ _ _, by repeat (first | (with_reducible first | exact HB.out | apply below_alloc | apply pw_below_drewN | apply below_drew1) | exact HB.out)⟩
  · replace c5 := Bool.eq_false_iff.mpr c5
    subst c5
    have H1 : (some (([] : List Int), 1)) = some (r1, r2) := by rw [if_neg (show ¬ (false = true) by decide)] at H; exact H
    clear H
    have H := H1
    clear H1
    simp only [Option.some.injEq, Prod.mk.injEq] at H
    obtain ⟨rfl, rfl⟩ := H
    go_enter Try.func37, Try.ntmps37
    go_wp2_with (first | ((with_reducible refine gate_callee (f := 33) rfl ?_); refine goesL_ (some 9) rfl rfl Try.func33 (by kernel_rfl) rfl #[.slice A0 l0.length c0] rfl (by (try simp only [List.map_toArray, List.map_cons, List.map_nil]); first | done | rfl | (simp only [List.length_drop, List.length_take]; rfl)) ?_; (with_reducible refine (tinderref20_Formed.calls _ _ l0 false _ ?side1 ?side2 A4.out).mono ?_); (case side1 => repeat (first | exact HR0.out | (with_reducible refine Kd.C_alloc ?_ _) | (with_reducible refine Kd.C_drewN ?_ _) | (with_reducible refine Kd.C_drew ?_))); (case side2 => exact HC0.out); rintro e w' ⟨rfl, ⟨nd, rfl⟩⟩; refine ⟨_, rfl, ?_⟩))
    go_ret2
    exact ⟨_, by first | rfl | (simp [errW_none, errW_some] <;> rfl) | (simp [*, errW_none, errW_some] <;> rfl), by first | exact Kd.R_nil _ _ _ _ _ | exact Kd.N_nil _ _ _ _ _ | exact Kd.V_nil _ _ _ _ _ | exact Kd.Q_nil _ _ _ _ _ | exact Kd.S_nil _ _ _ _ _, by repeat (first | (with_reducible first | exact HB.out | apply below_alloc | apply pw_below_drewN | apply below_drew1) | exact HB.out)⟩

end Go.Proofs.Ytnbomjfpnpmllaa.Q
end
