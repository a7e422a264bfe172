/- Contracts of Go functions and plain facts, of several texts, one behind the other; no condition. -/
import Derived.Test.YtfpkakedlapmkaaProg
import Derived.Below
import Derived.Deep.Draws
import Derived.Deep.AppendLies
import Derived.Maps.AppendAt
import Derived.OwnWalk
import Derived.Laws.BytesArg
import Derived.Laws.MakeOwn
import Derived.Laws.OwnMore
import Derived.Deep.OwnRows
import Derived.Tactics
import Derived.Lib.ConvBytes
import Derived.Laws.Slices
import Derived.WalkKit
import Derived.KernelRfl
import Derived.RowKit3
import Derived.Deep.LoopGhost
import Derived.Deep.QuietTactic
import Derived.BigQuiet
import Derived.WideLaws
import Derived.Deep.DeepCutAuto
import Derived.Deep.CutBlock
import Derived.Deep.RegionHeld3
import Derived.Laws.Rows
import Derived.Lib.AppendStr
import Derived.ArgAppend
import Derived.Laws.IdiomCopy
import Derived.OrdersHeld
import Derived.Laws.BitsLemmas
import Derived.RowKit
import Derived.Test.YtfpkakedlapmkaaMDictFinds1
import Derived.RangeFuncNested
import Derived.RangeFuncBound
import Derived.RangeFuncCalls
import Derived.RangeFuncLeaves
import Derived.OwnWalkIn
import Derived.OrdersIn
import Derived.Shelf.Abstract
import Derived.WalkSpells
import Derived.Laws.CopyOwn
import Derived.TacticsInMore
import Derived.LoopNIn
import Derived.LoopIn
import Derived.Sort.QuietIn
import Derived.RangeFuncWrites
import Derived.RangeFuncBox
section
namespace Go.Proofs.Ytfpkakedlapmkaa.Q
open Go.RowKit Go.Proofs.YtfpkakedlapmkaaW.PrintWords Go.Proofs.YtfpkakedlapmkaaW.PrintLast Go.Proofs.YtfpkakedlapmkaaW.PrintMore
set_option linter.unusedVariables false
set_option linter.unusedSimpArgs false

def errW : Option Int → Value
  | none => .nilIface
  | some c => .iface 0 (.int .i64 c)
theorem errW_none : errW none = .nilIface := rfl
theorem errW_some (c : Int) : errW (some c) = .iface 0 (.int .i64 c) := rfl

theorem info51 : (Try.prog.info? 51).map (fun i => (i.zero, i.size, i.bytes)) = some (some (.agg #[(.string ⟨#[]⟩), (.int .i64 0), (.int .i64 0), (.int .u32 0), (.slice none 0 0)]), 5, 64) := by kernel_rfl
-- the values' own types
/-! #### struct type 7 -/
structure S7 where
  f0 : Int
  f1 : Int
  f2 : Bool
  f3 : Int
def z7 : S7 := ⟨(0 : Int), (0 : Int), false, (0 : Int)⟩
def k7 : Kd S7 := Kd.iso (Kd.pair (Kd.int .i64) (Kd.pair (Kd.int .i64) (Kd.pair Kd.bool (Kd.int .u8)))) (fun x : S7 => (x.f0, x.f1, x.f2, x.f3))
def rd_T7 (xs : List S7) (i : Int) : S7 := xs.getD i.toNat z7

/-! #### struct type 8 -/
structure S8 where
  f0 : Int
  f1 : Int
  f2 : Bool
  f3 : Int
def z8 : S8 := ⟨(0 : Int), (0 : Int), false, (0 : Int)⟩
def k8 : Kd S8 := Kd.iso (Kd.pair (Kd.int .i64) (Kd.pair (Kd.int .i64) (Kd.pair Kd.bool (Kd.int .u8)))) (fun x : S8 => (x.f0, x.f1, x.f2, x.f3))
def rd_T8 (xs : List S8) (i : Int) : S8 := xs.getD i.toNat z8

/-! #### struct type 13 -/
structure S13 where
  f0 : ByteArray
  f1 : Int
def z13 : S13 := ⟨(⟨#[]⟩ : ByteArray), (0 : Int)⟩
def k13 : Kd S13 := Kd.iso (Kd.pair Kd.string (Kd.int .u64)) (fun x : S13 => (x.f0, x.f1))
def rd_T13 (xs : List S13) (i : Int) : S13 := xs.getD i.toNat z13

/-! #### struct type 14 -/
structure S14 where
  f0 : ByteArray
  f1 : Int
def z14 : S14 := ⟨(⟨#[]⟩ : ByteArray), (0 : Int)⟩
def k14 : Kd S14 := Kd.iso (Kd.pair Kd.string (Kd.int .u64)) (fun x : S14 => (x.f0, x.f1))
def rd_T14 (xs : List S14) (i : Int) : S14 := xs.getD i.toNat z14

def rd_L11 (xs : List (List Int)) (i : Int) : (List Int) := xs.getD i.toNat ([] : List Int)

def rd_L12 (xs : List (List Int)) (i : Int) : (List Int) := xs.getD i.toNat ([] : List Int)

/-! #### struct type 69 -/
structure S69 where
  f0 : Int
  f1 : Int
def z69 : S69 := ⟨(0 : Int), (0 : Int)⟩
def k69 : Kd S69 := Kd.iso (Kd.pair (Kd.int .i64) (Kd.int .u32)) (fun x : S69 => (x.f0, x.f1))
def rd_T69 (xs : List S69) (i : Int) : S69 := xs.getD i.toNat z69

def rd_L14 (xs : List (List S69)) (i : Int) : (List S69) := xs.getD i.toNat ([] : List S69)

/-! #### struct type 51 -/
structure S51 where
  f0 : ByteArray
  f1 : Int
  f2 : Int
  f3 : Int
  f4 : (List S69)
def z51 : S51 := ⟨(⟨#[]⟩ : ByteArray), (0 : Int), (0 : Int), (0 : Int), ([] : List S69)⟩
def k51 : Kd S51 := Kd.iso (Kd.pair Kd.string (Kd.pair (Kd.int .i64) (Kd.pair (Kd.int .i64) (Kd.pair (Kd.int .u32) (Kd.slice 69 k69))))) (fun x : S51 => (x.f0, x.f1, x.f2, x.f3, x.f4))
theorem k51_open {w : World} {x : S51} {cs : List Value} (h : k51.K w x cs) : ∃ A4 c4, cs = [.string x.f0, .int .i64 x.f1, .int .i64 x.f2, .int .u32 x.f3, .slice A4 x.f4.length c4] ∧ x.f4.length ≤ c4 ∧ k69.C w A4 x.f4.length x.f4 := by
  obtain ⟨_, _, rfl, rfl, ⟨_, _, rfl, rfl, ⟨_, _, rfl, rfl, ⟨_, _, rfl, rfl, ⟨A4, c4, rfl, l4, g4⟩⟩⟩⟩⟩ := h
  exact ⟨A4, c4, rfl, l4, g4⟩
theorem k51_mkM (w : World) (base : Nat) (ok : Nat → Prop) (x : S51) {v4 : Value} (g4 : k69.R 69 w base ok v4 x.f4) : k51.M w base ok x [.string x.f0, .int .i64 x.f1, .int .i64 x.f2, .int .u32 x.f3, v4] := ⟨[.string x.f0], [.int .i64 x.f1, .int .i64 x.f2, .int .u32 x.f3, v4], rfl, rfl, ⟨[.int .i64 x.f1], [.int .i64 x.f2, .int .u32 x.f3, v4], rfl, rfl, ⟨[.int .i64 x.f2], [.int .u32 x.f3, v4], rfl, rfl, ⟨[.int .u32 x.f3], [v4], rfl, rfl, ⟨v4, rfl, g4⟩⟩⟩⟩⟩
def rd_T51 (xs : List S51) (i : Int) : S51 := xs.getD i.toNat z51
theorem at_T51 {w : World} {A : Option Addr} {n : Nat} {xs : List S51} (h : Kd.C k51 w A n xs) (i : Int) (h0 : 0 ≤ i) (h1 : i < n) : ∃ ad A4 c4, A = some ad ∧ w.cell? (ad.add (i.toNat * 5)) = some (.string (rd_T51 xs i).f0) ∧ w.cell? ⟨(ad.add (i.toNat * 5)).block, (ad.add (i.toNat * 5)).off + 1, none⟩ = some (.int .i64 (rd_T51 xs i).f1) ∧ w.cell? ⟨(ad.add (i.toNat * 5)).block, (ad.add (i.toNat * 5)).off + 2, none⟩ = some (.int .i64 (rd_T51 xs i).f2) ∧ w.cell? ⟨(ad.add (i.toNat * 5)).block, (ad.add (i.toNat * 5)).off + 3, none⟩ = some (.int .u32 (rd_T51 xs i).f3) ∧ w.cell? ⟨(ad.add (i.toNat * 5)).block, (ad.add (i.toNat * 5)).off + 4, none⟩ = some (.slice A4 (rd_T51 xs i).f4.length c4) ∧ (rd_T51 xs i).f4.length ≤ c4 ∧ k69.C w A4 (rd_T51 xs i).f4.length (rd_T51 xs i).f4 := by
  obtain ⟨ad, c, e, _, hK, hc0⟩ := Kd.C_get h z51 i h0 h1
  have hc : ∀ j u, c[j]? = some u → w.cell? (ad.add (i.toNat * 5 + j)) = some u := hc0
  obtain ⟨A4, c4, rfl, l4, g4⟩ := k51_open hK
  exact ⟨ad, A4, c4, e, hc 0 _ rfl, by rw [← add_field _ _ 1 (by omega)]; exact hc 1 _ rfl, by rw [← add_field _ _ 2 (by omega)]; exact hc 2 _ rfl, by rw [← add_field _ _ 3 (by omega)]; exact hc 3 _ rfl, by rw [← add_field _ _ 4 (by omega)]; exact hc 4 _ rfl, l4, g4⟩

def rd_L16 (xs : List (List S51)) (i : Int) : (List S51) := xs.getD i.toNat ([] : List S51)

def rd_L17 (xs : List (List Int)) (i : Int) : (List Int) := xs.getD i.toNat ([] : List Int)

/-! #### struct type 106 -/
structure S106 where
  f0 : ByteArray
  f1 : (List Int)
def z106 : S106 := ⟨(⟨#[]⟩ : ByteArray), ([] : List Int)⟩
def k106 : Kd S106 := Kd.iso (Kd.pair Kd.string (Kd.slice 5 (Kd.int .u8))) (fun x : S106 => (x.f0, x.f1))
theorem k106_open {w : World} {x : S106} {cs : List Value} (h : k106.K w x cs) : ∃ A1 c1, cs = [.string x.f0, .slice A1 x.f1.length c1] ∧ x.f1.length ≤ c1 ∧ (Kd.int .u8).C w A1 x.f1.length x.f1 := by
  obtain ⟨_, _, rfl, rfl, ⟨A1, c1, rfl, l1, g1⟩⟩ := h
  exact ⟨A1, c1, rfl, l1, g1⟩
def rd_T106 (xs : List S106) (i : Int) : S106 := xs.getD i.toNat z106
theorem at_T106 {w : World} {A : Option Addr} {n : Nat} {xs : List S106} (h : Kd.C k106 w A n xs) (i : Int) (h0 : 0 ≤ i) (h1 : i < n) : ∃ ad A1 c1, A = some ad ∧ w.cell? (ad.add (i.toNat * 2)) = some (.string (rd_T106 xs i).f0) ∧ w.cell? ⟨(ad.add (i.toNat * 2)).block, (ad.add (i.toNat * 2)).off + 1, none⟩ = some (.slice A1 (rd_T106 xs i).f1.length c1) ∧ (rd_T106 xs i).f1.length ≤ c1 ∧ (Kd.int .u8).C w A1 (rd_T106 xs i).f1.length (rd_T106 xs i).f1 := by
  obtain ⟨ad, c, e, _, hK, hc0⟩ := Kd.C_get h z106 i h0 h1
  have hc : ∀ j u, c[j]? = some u → w.cell? (ad.add (i.toNat * 2 + j)) = some u := hc0
  obtain ⟨A1, c1, rfl, l1, g1⟩ := k106_open hK
  exact ⟨ad, A1, c1, e, hc 0 _ rfl, by rw [← add_field _ _ 1 (by omega)]; exact hc 1 _ rfl, l1, g1⟩

def rd_L19 (xs : List (List S106)) (i : Int) : (List S106) := xs.getD i.toNat ([] : List S106)

/-! #### struct type 91 -/
structure S91 where
  f0 : ByteArray
  f1 : (List Int)
  f2 : Int
  f3 : (List S106)
  f4 : (List Int)
def z91 : S91 := ⟨(⟨#[]⟩ : ByteArray), ([] : List Int), (0 : Int), ([] : List S106), ([] : List Int)⟩
def k91 : Kd S91 := Kd.iso (Kd.pair Kd.string (Kd.pair (Kd.slice 28 (Kd.int .u32)) (Kd.pair (Kd.int .i64) (Kd.pair (Kd.slice 106 k106) (Kd.slice 28 (Kd.int .u32)))))) (fun x : S91 => (x.f0, x.f1, x.f2, x.f3, x.f4))
theorem k91_open {w : World} {x : S91} {cs : List Value} (h : k91.K w x cs) : ∃ A1 c1 A3 c3 A4 c4, cs = [.string x.f0, .slice A1 x.f1.length c1, .int .i64 x.f2, .slice A3 x.f3.length c3, .slice A4 x.f4.length c4] ∧ x.f1.length ≤ c1 ∧ (Kd.int .u32).C w A1 x.f1.length x.f1 ∧ x.f3.length ≤ c3 ∧ k106.C w A3 x.f3.length x.f3 ∧ x.f4.length ≤ c4 ∧ (Kd.int .u32).C w A4 x.f4.length x.f4 := by
  obtain ⟨_, _, rfl, rfl, ⟨_, _, rfl, ⟨A1, c1, rfl, l1, g1⟩, ⟨_, _, rfl, rfl, ⟨_, _, rfl, ⟨A3, c3, rfl, l3, g3⟩, ⟨A4, c4, rfl, l4, g4⟩⟩⟩⟩⟩ := h
  exact ⟨A1, c1, A3, c3, A4, c4, rfl, l1, g1, l3, g3, l4, g4⟩
theorem k91_mkM (w : World) (base : Nat) (ok : Nat → Prop) (x : S91) {v1 : Value} (g1 : (Kd.int .u32).R 28 w base ok v1 x.f1) {v3 : Value} (g3 : k106.R 106 w base ok v3 x.f3) {v4 : Value} (g4 : (Kd.int .u32).R 28 w base ok v4 x.f4) : k91.M w base ok x [.string x.f0, v1, .int .i64 x.f2, v3, v4] := ⟨[.string x.f0], [v1, .int .i64 x.f2, v3, v4], rfl, rfl, ⟨[v1], [.int .i64 x.f2, v3, v4], rfl, ⟨v1, rfl, g1⟩, ⟨[.int .i64 x.f2], [v3, v4], rfl, rfl, ⟨[v3], [v4], rfl, ⟨v3, rfl, g3⟩, ⟨v4, rfl, g4⟩⟩⟩⟩⟩
def rd_T91 (xs : List S91) (i : Int) : S91 := xs.getD i.toNat z91
theorem at_T91 {w : World} {A : Option Addr} {n : Nat} {xs : List S91} (h : Kd.C k91 w A n xs) (i : Int) (h0 : 0 ≤ i) (h1 : i < n) : ∃ ad A1 c1 A3 c3 A4 c4, A = some ad ∧ w.cell? (ad.add (i.toNat * 5)) = some (.string (rd_T91 xs i).f0) ∧ w.cell? ⟨(ad.add (i.toNat * 5)).block, (ad.add (i.toNat * 5)).off + 1, none⟩ = some (.slice A1 (rd_T91 xs i).f1.length c1) ∧ w.cell? ⟨(ad.add (i.toNat * 5)).block, (ad.add (i.toNat * 5)).off + 2, none⟩ = some (.int .i64 (rd_T91 xs i).f2) ∧ w.cell? ⟨(ad.add (i.toNat * 5)).block, (ad.add (i.toNat * 5)).off + 3, none⟩ = some (.slice A3 (rd_T91 xs i).f3.length c3) ∧ w.cell? ⟨(ad.add (i.toNat * 5)).block, (ad.add (i.toNat * 5)).off + 4, none⟩ = some (.slice A4 (rd_T91 xs i).f4.length c4) ∧ (rd_T91 xs i).f1.length ≤ c1 ∧ (Kd.int .u32).C w A1 (rd_T91 xs i).f1.length (rd_T91 xs i).f1 ∧ (rd_T91 xs i).f3.length ≤ c3 ∧ k106.C w A3 (rd_T91 xs i).f3.length (rd_T91 xs i).f3 ∧ (rd_T91 xs i).f4.length ≤ c4 ∧ (Kd.int .u32).C w A4 (rd_T91 xs i).f4.length (rd_T91 xs i).f4 := by
  obtain ⟨ad, c, e, _, hK, hc0⟩ := Kd.C_get h z91 i h0 h1
  have hc : ∀ j u, c[j]? = some u → w.cell? (ad.add (i.toNat * 5 + j)) = some u := hc0
  obtain ⟨A1, c1, A3, c3, A4, c4, rfl, l1, g1, l3, g3, l4, g4⟩ := k91_open hK
  exact ⟨ad, A1, c1, A3, c3, A4, c4, e, hc 0 _ rfl, by rw [← add_field _ _ 1 (by omega)]; exact hc 1 _ rfl, by rw [← add_field _ _ 2 (by omega)]; exact hc 2 _ rfl, by rw [← add_field _ _ 3 (by omega)]; exact hc 3 _ rfl, by rw [← add_field _ _ 4 (by omega)]; exact hc 4 _ rfl, l1, g1, l3, g3, l4, g4⟩

def rd_L21 (xs : List (List S91)) (i : Int) : (List S91) := xs.getD i.toNat ([] : List S91)

/-! #### struct type 82 -/
structure S82 where
  f0 : Int
  f1 : Int
  f2 : ByteArray
  f3 : (List Int)
def z82 : S82 := ⟨(0 : Int), (0 : Int), (⟨#[]⟩ : ByteArray), ([] : List Int)⟩
def k82 : Kd S82 := Kd.iso (Kd.pair (Kd.int .i64) (Kd.pair (Kd.int .i64) (Kd.pair Kd.string (Kd.slice 28 (Kd.int .u32))))) (fun x : S82 => (x.f0, x.f1, x.f2, x.f3))
def rd_T82 (xs : List S82) (i : Int) : S82 := xs.getD i.toNat z82

def rd_L23 (xs : List (List S82)) (i : Int) : (List S82) := xs.getD i.toNat ([] : List S82)

/-! #### struct type 31 -/
structure S31 where
  f0 : (List Int)
  f1 : (List Int)
  f2 : (List S51)
  f3 : (List Int)
  f4 : Int
  f5 : (List S91)
  f6 : Int
  f7 : (List S82)
  f8 : Int
  f9 : ByteArray
def z31 : S31 := ⟨([] : List Int), ([] : List Int), ([] : List S51), ([] : List Int), (0 : Int), ([] : List S91), (0 : Int), ([] : List S82), (0 : Int), (⟨#[]⟩ : ByteArray)⟩
def k31 : Kd S31 := Kd.iso (Kd.pair (Kd.slice 28 (Kd.int .u32)) (Kd.pair (Kd.slice 5 (Kd.int .u8)) (Kd.pair (Kd.slice 51 k51) (Kd.pair (Kd.slice 3 (Kd.int .i64)) (Kd.pair (Kd.int .u32) (Kd.pair (Kd.slice 91 k91) (Kd.pair (Kd.int .i64) (Kd.pair (Kd.slice 82 k82) (Kd.pair (Kd.int .i64) Kd.string))))))))) (fun x : S31 => (x.f0, x.f1, x.f2, x.f3, x.f4, x.f5, x.f6, x.f7, x.f8, x.f9))
def rd_T31 (xs : List S31) (i : Int) : S31 := xs.getD i.toNat z31

/-! #### struct type 32 -/
structure S32 where
  f0 : (List Int)
  f1 : (List Int)
  f2 : (List S51)
  f3 : (List Int)
  f4 : Int
  f5 : (List S91)
  f6 : Int
  f7 : (List S82)
  f8 : Int
  f9 : ByteArray
def z32 : S32 := ⟨([] : List Int), ([] : List Int), ([] : List S51), ([] : List Int), (0 : Int), ([] : List S91), (0 : Int), ([] : List S82), (0 : Int), (⟨#[]⟩ : ByteArray)⟩
def k32 : Kd S32 := Kd.iso (Kd.pair (Kd.slice 28 (Kd.int .u32)) (Kd.pair (Kd.slice 5 (Kd.int .u8)) (Kd.pair (Kd.slice 51 k51) (Kd.pair (Kd.slice 3 (Kd.int .i64)) (Kd.pair (Kd.int .u32) (Kd.pair (Kd.slice 91 k91) (Kd.pair (Kd.int .i64) (Kd.pair (Kd.slice 82 k82) (Kd.pair (Kd.int .i64) Kd.string))))))))) (fun x : S32 => (x.f0, x.f1, x.f2, x.f3, x.f4, x.f5, x.f6, x.f7, x.f8, x.f9))
theorem k32_open {w : World} {x : S32} {cs : List Value} (h : k32.K w x cs) : ∃ A0 c0 A1 c1 A2 c2 A3 c3 A5 c5 A7 c7, cs = [.slice A0 x.f0.length c0, .slice A1 x.f1.length c1, .slice A2 x.f2.length c2, .slice A3 x.f3.length c3, .int .u32 x.f4, .slice A5 x.f5.length c5, .int .i64 x.f6, .slice A7 x.f7.length c7, .int .i64 x.f8, .string x.f9] ∧ x.f0.length ≤ c0 ∧ (Kd.int .u32).C w A0 x.f0.length x.f0 ∧ x.f1.length ≤ c1 ∧ (Kd.int .u8).C w A1 x.f1.length x.f1 ∧ x.f2.length ≤ c2 ∧ k51.C w A2 x.f2.length x.f2 ∧ x.f3.length ≤ c3 ∧ (Kd.int .i64).C w A3 x.f3.length x.f3 ∧ x.f5.length ≤ c5 ∧ k91.C w A5 x.f5.length x.f5 ∧ x.f7.length ≤ c7 ∧ k82.C w A7 x.f7.length x.f7 := by
  obtain ⟨_, _, rfl, ⟨A0, c0, rfl, l0, g0⟩, ⟨_, _, rfl, ⟨A1, c1, rfl, l1, g1⟩, ⟨_, _, rfl, ⟨A2, c2, rfl, l2, g2⟩, ⟨_, _, rfl, ⟨A3, c3, rfl, l3, g3⟩, ⟨_, _, rfl, rfl, ⟨_, _, rfl, ⟨A5, c5, rfl, l5, g5⟩, ⟨_, _, rfl, rfl, ⟨_, _, rfl, ⟨A7, c7, rfl, l7, g7⟩, ⟨_, _, rfl, rfl, rfl⟩⟩⟩⟩⟩⟩⟩⟩⟩ := h
  exact ⟨A0, c0, A1, c1, A2, c2, A3, c3, A5, c5, A7, c7, rfl, l0, g0, l1, g1, l2, g2, l3, g3, l5, g5, l7, g7⟩
def rd_T32 (xs : List S32) (i : Int) : S32 := xs.getD i.toNat z32

/-! #### struct type 37 -/
structure S37 where
  f0 : ByteArray
  f1 : Int
def z37 : S37 := ⟨(⟨#[]⟩ : ByteArray), (0 : Int)⟩
def k37 : Kd S37 := Kd.iso (Kd.pair Kd.string (Kd.int .i64)) (fun x : S37 => (x.f0, x.f1))
theorem k37_open {w : World} {x : S37} {cs : List Value} (h : k37.K w x cs) : cs = [.string x.f0, .int .i64 x.f1] := by
  obtain ⟨_, _, rfl, rfl, rfl⟩ := h
  exact rfl
theorem k37_mkM (w : World) (base : Nat) (ok : Nat → Prop) (x : S37)  : k37.M w base ok x [.string x.f0, .int .i64 x.f1] := ⟨[.string x.f0], [.int .i64 x.f1], rfl, rfl, rfl⟩
def rd_T37 (xs : List S37) (i : Int) : S37 := xs.getD i.toNat z37
theorem at_T37 {w : World} {A : Option Addr} {n : Nat} {xs : List S37} (h : Kd.C k37 w A n xs) (i : Int) (h0 : 0 ≤ i) (h1 : i < n) : ∃ ad , A = some ad ∧ w.cell? (ad.add (i.toNat * 2)) = some (.string (rd_T37 xs i).f0) ∧ w.cell? ⟨(ad.add (i.toNat * 2)).block, (ad.add (i.toNat * 2)).off + 1, none⟩ = some (.int .i64 (rd_T37 xs i).f1) := by
  obtain ⟨ad, c, e, _, hK, hc0⟩ := Kd.C_get h z37 i h0 h1
  have hc : ∀ j u, c[j]? = some u → w.cell? (ad.add (i.toNat * 2 + j)) = some u := hc0
  obtain rfl := k37_open hK
  exact ⟨ad, e, hc 0 _ rfl, by rw [← add_field _ _ 1 (by omega)]; exact hc 1 _ rfl⟩

def rd_L27 (xs : List (List S37)) (i : Int) : (List S37) := xs.getD i.toNat ([] : List S37)

/-! #### struct type 36 -/
structure S36 where
  f0 : ByteArray
  f1 : Int
def z36 : S36 := ⟨(⟨#[]⟩ : ByteArray), (0 : Int)⟩
def k36 : Kd S36 := Kd.iso (Kd.pair Kd.string (Kd.int .i64)) (fun x : S36 => (x.f0, x.f1))
def rd_T36 (xs : List S36) (i : Int) : S36 := xs.getD i.toNat z36

/-! #### struct type 50 -/
structure S50 where
  f0 : ByteArray
  f1 : Int
  f2 : Int
  f3 : Int
  f4 : (List S69)
def z50 : S50 := ⟨(⟨#[]⟩ : ByteArray), (0 : Int), (0 : Int), (0 : Int), ([] : List S69)⟩
def k50 : Kd S50 := Kd.iso (Kd.pair Kd.string (Kd.pair (Kd.int .i64) (Kd.pair (Kd.int .i64) (Kd.pair (Kd.int .u32) (Kd.slice 69 k69))))) (fun x : S50 => (x.f0, x.f1, x.f2, x.f3, x.f4))
def rd_T50 (xs : List S50) (i : Int) : S50 := xs.getD i.toNat z50

/-! #### struct type 56 -/
structure S56 where
  f0 : Int
  f1 : Int
def z56 : S56 := ⟨(0 : Int), (0 : Int)⟩
def k56 : Kd S56 := Kd.iso (Kd.pair (Kd.int .i64) (Kd.int .i64)) (fun x : S56 => (x.f0, x.f1))
def rd_T56 (xs : List S56) (i : Int) : S56 := xs.getD i.toNat z56

/-! #### struct type 68 -/
structure S68 where
  f0 : Int
  f1 : Int
def z68 : S68 := ⟨(0 : Int), (0 : Int)⟩
def k68 : Kd S68 := Kd.iso (Kd.pair (Kd.int .i64) (Kd.int .u32)) (fun x : S68 => (x.f0, x.f1))
def rd_T68 (xs : List S68) (i : Int) : S68 := xs.getD i.toNat z68

/-! #### struct type 81 -/
structure S81 where
  f0 : Int
  f1 : Int
  f2 : ByteArray
  f3 : (List Int)
def z81 : S81 := ⟨(0 : Int), (0 : Int), (⟨#[]⟩ : ByteArray), ([] : List Int)⟩
def k81 : Kd S81 := Kd.iso (Kd.pair (Kd.int .i64) (Kd.pair (Kd.int .i64) (Kd.pair Kd.string (Kd.slice 28 (Kd.int .u32))))) (fun x : S81 => (x.f0, x.f1, x.f2, x.f3))
def rd_T81 (xs : List S81) (i : Int) : S81 := xs.getD i.toNat z81

/-! #### struct type 90 -/
structure S90 where
  f0 : ByteArray
  f1 : (List Int)
  f2 : Int
  f3 : (List S106)
  f4 : (List Int)
def z90 : S90 := ⟨(⟨#[]⟩ : ByteArray), ([] : List Int), (0 : Int), ([] : List S106), ([] : List Int)⟩
def k90 : Kd S90 := Kd.iso (Kd.pair Kd.string (Kd.pair (Kd.slice 28 (Kd.int .u32)) (Kd.pair (Kd.int .i64) (Kd.pair (Kd.slice 106 k106) (Kd.slice 28 (Kd.int .u32)))))) (fun x : S90 => (x.f0, x.f1, x.f2, x.f3, x.f4))
def rd_T90 (xs : List S90) (i : Int) : S90 := xs.getD i.toNat z90

/-! #### struct type 105 -/
structure S105 where
  f0 : ByteArray
  f1 : (List Int)
def z105 : S105 := ⟨(⟨#[]⟩ : ByteArray), ([] : List Int)⟩
def k105 : Kd S105 := Kd.iso (Kd.pair Kd.string (Kd.slice 5 (Kd.int .u8))) (fun x : S105 => (x.f0, x.f1))
def rd_T105 (xs : List S105) (i : Int) : S105 := xs.getD i.toNat z105

end Go.Proofs.Ytfpkakedlapmkaa.Q
end
section
namespace Go.Proofs.Ytfpkakedlapmkaa.Q
open Go.RowKit Go.Proofs.YtfpkakedlapmkaaW.PrintWords Go.Proofs.YtfpkakedlapmkaaW.PrintLast Go.Proofs.YtfpkakedlapmkaaW.PrintMore
set_option linter.unusedVariables false
set_option linter.unusedSimpArgs false

attribute [local go_sem] max2_int min2_int max_two min_two max_three min_three max_four min_four
/-! ### tinderref09_Prims: function 15 -/
def tinderref09_Prims.f  : Option ((List (S37))) := some (([(⟨(⟨#[105]⟩ : ByteArray), 25⟩ : S37), (⟨(⟨#[106]⟩ : ByteArray), 26⟩ : S37), (⟨(⟨#[101, 120, 101, 99, 117, 116, 101]⟩ : ByteArray), 29⟩ : S37), (⟨(⟨#[43]⟩ : ByteArray), 30⟩ : S37), (⟨(⟨#[45]⟩ : ByteArray), 31⟩ : S37), (⟨(⟨#[42]⟩ : ByteArray), 32⟩ : S37), (⟨(⟨#[47]⟩ : ByteArray), 33⟩ : S37), (⟨(⟨#[109, 111, 100]⟩ : ByteArray), 34⟩ : S37), (⟨(⟨#[97, 110, 100]⟩ : ByteArray), 35⟩ : S37), (⟨(⟨#[111, 114]⟩ : ByteArray), 36⟩ : S37), (⟨(⟨#[120, 111, 114]⟩ : ByteArray), 37⟩ : S37), (⟨(⟨#[105, 110, 118, 101, 114, 116]⟩ : ByteArray), 38⟩ : S37), (⟨(⟨#[108, 115, 104, 105, 102, 116]⟩ : ByteArray), 39⟩ : S37), (⟨(⟨#[114, 115, 104, 105, 102, 116]⟩ : ByteArray), 40⟩ : S37), (⟨(⟨#[62, 62, 97]⟩ : ByteArray), 41⟩ : S37), (⟨(⟨#[47, 109, 111, 100]⟩ : ByteArray), 42⟩ : S37), (⟨(⟨#[117, 47, 109, 111, 100]⟩ : ByteArray), 43⟩ : S37), (⟨(⟨#[110, 101, 103, 97, 116, 101]⟩ : ByteArray), 44⟩ : S37), (⟨(⟨#[97, 98, 115]⟩ : ByteArray), 45⟩ : S37), (⟨(⟨#[109, 105, 110]⟩ : ByteArray), 46⟩ : S37), (⟨(⟨#[109, 97, 120]⟩ : ByteArray), 47⟩ : S37), (⟨(⟨#[62, 114]⟩ : ByteArray), 48⟩ : S37), (⟨(⟨#[114, 62]⟩ : ByteArray), 49⟩ : S37), (⟨(⟨#[114, 64]⟩ : ByteArray), 50⟩ : S37), (⟨(⟨#[48, 61]⟩ : ByteArray), 52⟩ : S37), (⟨(⟨#[48, 60, 62]⟩ : ByteArray), 53⟩ : S37), (⟨(⟨#[48, 60]⟩ : ByteArray), 54⟩ : S37), (⟨(⟨#[48, 60, 61]⟩ : ByteArray), 55⟩ : S37), (⟨(⟨#[48, 62]⟩ : ByteArray), 56⟩ : S37), (⟨(⟨#[48, 62, 61]⟩ : ByteArray), 57⟩ : S37), (⟨(⟨#[60]⟩ : ByteArray), 58⟩ : S37), (⟨(⟨#[62]⟩ : ByteArray), 59⟩ : S37), (⟨(⟨#[61]⟩ : ByteArray), 60⟩ : S37), (⟨(⟨#[60, 62]⟩ : ByteArray), 61⟩ : S37), (⟨(⟨#[117, 62]⟩ : ByteArray), 62⟩ : S37), (⟨(⟨#[117, 60, 61]⟩ : ByteArray), 63⟩ : S37), (⟨(⟨#[117, 60]⟩ : ByteArray), 64⟩ : S37), (⟨(⟨#[117, 62, 61]⟩ : ByteArray), 65⟩ : S37), (⟨(⟨#[62, 61]⟩ : ByteArray), 66⟩ : S37), (⟨(⟨#[60, 61]⟩ : ByteArray), 67⟩ : S37), (⟨(⟨#[100, 114, 111, 112]⟩ : ByteArray), 70⟩ : S37), (⟨(⟨#[100, 117, 112]⟩ : ByteArray), 71⟩ : S37), (⟨(⟨#[111, 118, 101, 114]⟩ : ByteArray), 72⟩ : S37), (⟨(⟨#[115, 119, 97, 112]⟩ : ByteArray), 73⟩ : S37), (⟨(⟨#[114, 111, 116]⟩ : ByteArray), 74⟩ : S37), (⟨(⟨#[45, 114, 111, 116]⟩ : ByteArray), 75⟩ : S37), (⟨(⟨#[116, 117, 99, 107]⟩ : ByteArray), 76⟩ : S37), (⟨(⟨#[110, 105, 112]⟩ : ByteArray), 77⟩ : S37), (⟨(⟨#[112, 105, 99, 107]⟩ : ByteArray), 78⟩ : S37), (⟨(⟨#[114, 111, 108, 108]⟩ : ByteArray), 79⟩ : S37), (⟨(⟨#[63, 100, 117, 112]⟩ : ByteArray), 80⟩ : S37), (⟨(⟨#[100, 101, 112, 116, 104]⟩ : ByteArray), 81⟩ : S37), (⟨(⟨#[50, 100, 114, 111, 112]⟩ : ByteArray), 82⟩ : S37), (⟨(⟨#[50, 100, 117, 112]⟩ : ByteArray), 83⟩ : S37), (⟨(⟨#[50, 111, 118, 101, 114]⟩ : ByteArray), 84⟩ : S37), (⟨(⟨#[50, 115, 119, 97, 112]⟩ : ByteArray), 85⟩ : S37), (⟨(⟨#[50, 114, 111, 116]⟩ : ByteArray), 86⟩ : S37), (⟨(⟨#[50, 47]⟩ : ByteArray), 87⟩ : S37), (⟨(⟨#[117, 50, 47]⟩ : ByteArray), 88⟩ : S37), (⟨(⟨#[50, 42]⟩ : ByteArray), 89⟩ : S37), (⟨(⟨#[43, 33]⟩ : ByteArray), 108⟩ : S37), (⟨(⟨#[64]⟩ : ByteArray), 109⟩ : S37), (⟨(⟨#[119, 64]⟩ : ByteArray), 111⟩ : S37), (⟨(⟨#[99, 64]⟩ : ByteArray), 113⟩ : S37), (⟨(⟨#[33]⟩ : ByteArray), 114⟩ : S37), (⟨(⟨#[119, 33]⟩ : ByteArray), 116⟩ : S37), (⟨(⟨#[99, 33]⟩ : ByteArray), 117⟩ : S37), (⟨(⟨#[109, 111, 118, 101]⟩ : ByteArray), 120⟩ : S37), (⟨(⟨#[102, 105, 108, 108]⟩ : ByteArray), 121⟩ : S37), (⟨(⟨#[99, 111, 109, 112]⟩ : ByteArray), 122⟩ : S37), (⟨(⟨#[108, 98, 115, 112, 108, 105, 116]⟩ : ByteArray), 126⟩ : S37), (⟨(⟨#[98, 108, 106, 111, 105, 110]⟩ : ByteArray), 127⟩ : S37), (⟨(⟨#[119, 98, 102, 108, 105, 112]⟩ : ByteArray), 128⟩ : S37), (⟨(⟨#[117, 112, 99]⟩ : ByteArray), 129⟩ : S37), (⟨(⟨#[108, 99, 99]⟩ : ByteArray), 130⟩ : S37), (⟨(⟨#[117, 110, 108, 111, 111, 112]⟩ : ByteArray), 137⟩ : S37), (⟨(⟨#[97, 108, 108, 111, 99, 45, 109, 101, 109]⟩ : ByteArray), 139⟩ : S37), (⟨(⟨#[101, 109, 105, 116]⟩ : ByteArray), 143⟩ : S37), (⟨(⟨#[116, 121, 112, 101]⟩ : ByteArray), 144⟩ : S37), (⟨(⟨#[99, 114]⟩ : ByteArray), 146⟩ : S37), (⟨(⟨#[117, 46]⟩ : ByteArray), 155⟩ : S37), (⟨(⟨#[46]⟩ : ByteArray), 157⟩ : S37), (⟨(⟨#[98, 97, 115, 101, 33]⟩ : ByteArray), 160⟩ : S37), (⟨(⟨#[45, 49]⟩ : ByteArray), 164⟩ : S37), (⟨(⟨#[48]⟩ : ByteArray), 165⟩ : S37), (⟨(⟨#[49]⟩ : ByteArray), 166⟩ : S37), (⟨(⟨#[50]⟩ : ByteArray), 167⟩ : S37), (⟨(⟨#[51]⟩ : ByteArray), 168⟩ : S37), (⟨(⟨#[98, 108]⟩ : ByteArray), 169⟩ : S37), (⟨(⟨#[104, 101, 114, 101]⟩ : ByteArray), 173⟩ : S37), (⟨(⟨#[117, 109, 42]⟩ : ByteArray), 212⟩ : S37), (⟨(⟨#[117, 109, 47, 109, 111, 100]⟩ : ByteArray), 213⟩ : S37), (⟨(⟨#[100, 43]⟩ : ByteArray), 216⟩ : S37), (⟨(⟨#[100, 45]⟩ : ByteArray), 217⟩ : S37), (⟨(⟨#[112, 114, 111, 112, 101, 114, 116, 121]⟩ : ByteArray), 272⟩ : S37), (⟨(⟨#[101, 110, 99, 111, 100, 101, 45, 105, 110, 116]⟩ : ByteArray), 273⟩ : S37), (⟨(⟨#[101, 110, 99, 111, 100, 101, 43]⟩ : ByteArray), 274⟩ : S37), (⟨(⟨#[101, 110, 99, 111, 100, 101, 45, 115, 116, 114, 105, 110, 103]⟩ : ByteArray), 276⟩ : S37), (⟨(⟨#[110, 101, 119, 45, 100, 101, 118, 105, 99, 101]⟩ : ByteArray), 287⟩ : S37), (⟨(⟨#[102, 105, 110, 105, 115, 104, 45, 100, 101, 118, 105, 99, 101]⟩ : ByteArray), 295⟩ : S37), (⟨(⟨#[115, 109, 47, 114, 101, 109]⟩ : ByteArray), 469⟩ : S37), (⟨(⟨#[109, 121, 45, 115, 101, 108, 102]⟩ : ByteArray), 515⟩ : S37), (⟨(⟨#[109, 121, 45, 112, 97, 114, 101, 110, 116]⟩ : ByteArray), 522⟩ : S37), (⟨(⟨#[36, 99, 97, 108, 108, 45, 109, 101, 116, 104, 111, 100]⟩ : ByteArray), 526⟩ : S37), (⟨(⟨#[99, 97, 116, 99, 104]⟩ : ByteArray), 535⟩ : S37), (⟨(⟨#[116, 104, 114, 111, 119]⟩ : ByteArray), 536⟩ : S37), (⟨(⟨#[103, 101, 116, 45, 109, 121, 45, 112, 114, 111, 112, 101, 114, 116, 121]⟩ : ByteArray), 538⟩ : S37), (⟨(⟨#[100, 101, 99, 111, 100, 101, 45, 105, 110, 116]⟩ : ByteArray), 539⟩ : S37), (⟨(⟨#[100, 101, 99, 111, 100, 101, 45, 115, 116, 114, 105, 110, 103]⟩ : ByteArray), 540⟩ : S37), (⟨(⟨#[100, 101, 108, 101, 116, 101, 45, 112, 114, 111, 112, 101, 114, 116, 121]⟩ : ByteArray), 542⟩ : S37), (⟨(⟨#[102, 109, 47, 109, 111, 100]⟩ : ByteArray), 725⟩ : S37)] : List (S37)))
set_option maxHeartbeats 8000000 in
set_option maxRecDepth 100000 in
theorem tinderref09_Prims.calls  (r : List (S37)) (w : World) (h : tinderref09_Prims.f  = some r) :
    Calls Try.prog 15 #[] w fun e w' => ∃ v0_ : Value, e = .returned (v0_) ∧ Kd.R k37 37 w' w.heap.size (fun _ => True) v0_ r ∧ Below w.heap.size w w' := by
  have hu37 := Try.underlying37
  have HB := Aside0.mk (Below.refl w.heap.size w)
  have H : (some (([(⟨(⟨#[105]⟩ : ByteArray), 25⟩ : S37), (⟨(⟨#[106]⟩ : ByteArray), 26⟩ : S37), (⟨(⟨#[101, 120, 101, 99, 117, 116, 101]⟩ : ByteArray), 29⟩ : S37), (⟨(⟨#[43]⟩ : ByteArray), 30⟩ : S37), (⟨(⟨#[45]⟩ : ByteArray), 31⟩ : S37), (⟨(⟨#[42]⟩ : ByteArray), 32⟩ : S37), (⟨(⟨#[47]⟩ : ByteArray), 33⟩ : S37), (⟨(⟨#[109, 111, 100]⟩ : ByteArray), 34⟩ : S37), (⟨(⟨#[97, 110, 100]⟩ : ByteArray), 35⟩ : S37), (⟨(⟨#[111, 114]⟩ : ByteArray), 36⟩ : S37), (⟨(⟨#[120, 111, 114]⟩ : ByteArray), 37⟩ : S37), (⟨(⟨#[105, 110, 118, 101, 114, 116]⟩ : ByteArray), 38⟩ : S37), (⟨(⟨#[108, 115, 104, 105, 102, 116]⟩ : ByteArray), 39⟩ : S37), (⟨(⟨#[114, 115, 104, 105, 102, 116]⟩ : ByteArray), 40⟩ : S37), (⟨(⟨#[62, 62, 97]⟩ : ByteArray), 41⟩ : S37), (⟨(⟨#[47, 109, 111, 100]⟩ : ByteArray), 42⟩ : S37), (⟨(⟨#[117, 47, 109, 111, 100]⟩ : ByteArray), 43⟩ : S37), (⟨(⟨#[110, 101, 103, 97, 116, 101]⟩ : ByteArray), 44⟩ : S37), (⟨(⟨#[97, 98, 115]⟩ : ByteArray), 45⟩ : S37), (⟨(⟨#[109, 105, 110]⟩ : ByteArray), 46⟩ : S37), (⟨(⟨#[109, 97, 120]⟩ : ByteArray), 47⟩ : S37), (⟨(⟨#[62, 114]⟩ : ByteArray), 48⟩ : S37), (⟨(⟨#[114, 62]⟩ : ByteArray), 49⟩ : S37), (⟨(⟨#[114, 64]⟩ : ByteArray), 50⟩ : S37), (⟨(⟨#[48, 61]⟩ : ByteArray), 52⟩ : S37), (⟨(⟨#[48, 60, 62]⟩ : ByteArray), 53⟩ : S37), (⟨(⟨#[48, 60]⟩ : ByteArray), 54⟩ : S37), (⟨(⟨#[48, 60, 61]⟩ : ByteArray), 55⟩ : S37), (⟨(⟨#[48, 62]⟩ : ByteArray), 56⟩ : S37), (⟨(⟨#[48, 62, 61]⟩ : ByteArray), 57⟩ : S37), (⟨(⟨#[60]⟩ : ByteArray), 58⟩ : S37), (⟨(⟨#[62]⟩ : ByteArray), 59⟩ : S37), (⟨(⟨#[61]⟩ : ByteArray), 60⟩ : S37), (⟨(⟨#[60, 62]⟩ : ByteArray), 61⟩ : S37), (⟨(⟨#[117, 62]⟩ : ByteArray), 62⟩ : S37), (⟨(⟨#[117, 60, 61]⟩ : ByteArray), 63⟩ : S37), (⟨(⟨#[117, 60]⟩ : ByteArray), 64⟩ : S37), (⟨(⟨#[117, 62, 61]⟩ : ByteArray), 65⟩ : S37), (⟨(⟨#[62, 61]⟩ : ByteArray), 66⟩ : S37), (⟨(⟨#[60, 61]⟩ : ByteArray), 67⟩ : S37), (⟨(⟨#[100, 114, 111, 112]⟩ : ByteArray), 70⟩ : S37), (⟨(⟨#[100, 117, 112]⟩ : ByteArray), 71⟩ : S37), (⟨(⟨#[111, 118, 101, 114]⟩ : ByteArray), 72⟩ : S37), (⟨(⟨#[115, 119, 97, 112]⟩ : ByteArray), 73⟩ : S37), (⟨(⟨#[114, 111, 116]⟩ : ByteArray), 74⟩ : S37), (⟨(⟨#[45, 114, 111, 116]⟩ : ByteArray), 75⟩ : S37), (⟨(⟨#[116, 117, 99, 107]⟩ : ByteArray), 76⟩ : S37), (⟨(⟨#[110, 105, 112]⟩ : ByteArray), 77⟩ : S37), (⟨(⟨#[112, 105, 99, 107]⟩ : ByteArray), 78⟩ : S37), (⟨(⟨#[114, 111, 108, 108]⟩ : ByteArray), 79⟩ : S37), (⟨(⟨#[63, 100, 117, 112]⟩ : ByteArray), 80⟩ : S37), (⟨(⟨#[100, 101, 112, 116, 104]⟩ : ByteArray), 81⟩ : S37), (⟨(⟨#[50, 100, 114, 111, 112]⟩ : ByteArray), 82⟩ : S37), (⟨(⟨#[50, 100, 117, 112]⟩ : ByteArray), 83⟩ : S37), (⟨(⟨#[50, 111, 118, 101, 114]⟩ : ByteArray), 84⟩ : S37), (⟨(⟨#[50, 115, 119, 97, 112]⟩ : ByteArray), 85⟩ : S37), (⟨(⟨#[50, 114, 111, 116]⟩ : ByteArray), 86⟩ : S37), (⟨(⟨#[50, 47]⟩ : ByteArray), 87⟩ : S37), (⟨(⟨#[117, 50, 47]⟩ : ByteArray), 88⟩ : S37), (⟨(⟨#[50, 42]⟩ : ByteArray), 89⟩ : S37), (⟨(⟨#[43, 33]⟩ : ByteArray), 108⟩ : S37), (⟨(⟨#[64]⟩ : ByteArray), 109⟩ : S37), (⟨(⟨#[119, 64]⟩ : ByteArray), 111⟩ : S37), (⟨(⟨#[99, 64]⟩ : ByteArray), 113⟩ : S37), (⟨(⟨#[33]⟩ : ByteArray), 114⟩ : S37), (⟨(⟨#[119, 33]⟩ : ByteArray), 116⟩ : S37), (⟨(⟨#[99, 33]⟩ : ByteArray), 117⟩ : S37), (⟨(⟨#[109, 111, 118, 101]⟩ : ByteArray), 120⟩ : S37), (⟨(⟨#[102, 105, 108, 108]⟩ : ByteArray), 121⟩ : S37), (⟨(⟨#[99, 111, 109, 112]⟩ : ByteArray), 122⟩ : S37), (⟨(⟨#[108, 98, 115, 112, 108, 105, 116]⟩ : ByteArray), 126⟩ : S37), (⟨(⟨#[98, 108, 106, 111, 105, 110]⟩ : ByteArray), 127⟩ : S37), (⟨(⟨#[119, 98, 102, 108, 105, 112]⟩ : ByteArray), 128⟩ : S37), (⟨(⟨#[117, 112, 99]⟩ : ByteArray), 129⟩ : S37), (⟨(⟨#[108, 99, 99]⟩ : ByteArray), 130⟩ : S37), (⟨(⟨#[117, 110, 108, 111, 111, 112]⟩ : ByteArray), 137⟩ : S37), (⟨(⟨#[97, 108, 108, 111, 99, 45, 109, 101, 109]⟩ : ByteArray), 139⟩ : S37), (⟨(⟨#[101, 109, 105, 116]⟩ : ByteArray), 143⟩ : S37), (⟨(⟨#[116, 121, 112, 101]⟩ : ByteArray), 144⟩ : S37), (⟨(⟨#[99, 114]⟩ : ByteArray), 146⟩ : S37), (⟨(⟨#[117, 46]⟩ : ByteArray), 155⟩ : S37), (⟨(⟨#[46]⟩ : ByteArray), 157⟩ : S37), (⟨(⟨#[98, 97, 115, 101, 33]⟩ : ByteArray), 160⟩ : S37), (⟨(⟨#[45, 49]⟩ : ByteArray), 164⟩ : S37), (⟨(⟨#[48]⟩ : ByteArray), 165⟩ : S37), (⟨(⟨#[49]⟩ : ByteArray), 166⟩ : S37), (⟨(⟨#[50]⟩ : ByteArray), 167⟩ : S37), (⟨(⟨#[51]⟩ : ByteArray), 168⟩ : S37), (⟨(⟨#[98, 108]⟩ : ByteArray), 169⟩ : S37), (⟨(⟨#[104, 101, 114, 101]⟩ : ByteArray), 173⟩ : S37), (⟨(⟨#[117, 109, 42]⟩ : ByteArray), 212⟩ : S37), (⟨(⟨#[117, 109, 47, 109, 111, 100]⟩ : ByteArray), 213⟩ : S37), (⟨(⟨#[100, 43]⟩ : ByteArray), 216⟩ : S37), (⟨(⟨#[100, 45]⟩ : ByteArray), 217⟩ : S37), (⟨(⟨#[112, 114, 111, 112, 101, 114, 116, 121]⟩ : ByteArray), 272⟩ : S37), (⟨(⟨#[101, 110, 99, 111, 100, 101, 45, 105, 110, 116]⟩ : ByteArray), 273⟩ : S37), (⟨(⟨#[101, 110, 99, 111, 100, 101, 43]⟩ : ByteArray), 274⟩ : S37), (⟨(⟨#[101, 110, 99, 111, 100, 101, 45, 115, 116, 114, 105, 110, 103]⟩ : ByteArray), 276⟩ : S37), (⟨(⟨#[110, 101, 119, 45, 100, 101, 118, 105, 99, 101]⟩ : ByteArray), 287⟩ : S37), (⟨(⟨#[102, 105, 110, 105, 115, 104, 45, 100, 101, 118, 105, 99, 101]⟩ : ByteArray), 295⟩ : S37), (⟨(⟨#[115, 109, 47, 114, 101, 109]⟩ : ByteArray), 469⟩ : S37), (⟨(⟨#[109, 121, 45, 115, 101, 108, 102]⟩ : ByteArray), 515⟩ : S37), (⟨(⟨#[109, 121, 45, 112, 97, 114, 101, 110, 116]⟩ : ByteArray), 522⟩ : S37), (⟨(⟨#[36, 99, 97, 108, 108, 45, 109, 101, 116, 104, 111, 100]⟩ : ByteArray), 526⟩ : S37), (⟨(⟨#[99, 97, 116, 99, 104]⟩ : ByteArray), 535⟩ : S37), (⟨(⟨#[116, 104, 114, 111, 119]⟩ : ByteArray), 536⟩ : S37), (⟨(⟨#[103, 101, 116, 45, 109, 121, 45, 112, 114, 111, 112, 101, 114, 116, 121]⟩ : ByteArray), 538⟩ : S37), (⟨(⟨#[100, 101, 99, 111, 100, 101, 45, 105, 110, 116]⟩ : ByteArray), 539⟩ : S37), (⟨(⟨#[100, 101, 99, 111, 100, 101, 45, 115, 116, 114, 105, 110, 103]⟩ : ByteArray), 540⟩ : S37), (⟨(⟨#[100, 101, 108, 101, 116, 101, 45, 112, 114, 111, 112, 101, 114, 116, 121]⟩ : ByteArray), 542⟩ : S37), (⟨(⟨#[102, 109, 47, 109, 111, 100]⟩ : ByteArray), 725⟩ : S37)] : List (S37)))) = some r := h
  clear h
  obtain ⟨y16001, hy16001⟩ : ∃ y_ : List (S37), y_ = (([(⟨(⟨#[105]⟩ : ByteArray), 25⟩ : S37), (⟨(⟨#[106]⟩ : ByteArray), 26⟩ : S37), (⟨(⟨#[101, 120, 101, 99, 117, 116, 101]⟩ : ByteArray), 29⟩ : S37), (⟨(⟨#[43]⟩ : ByteArray), 30⟩ : S37), (⟨(⟨#[45]⟩ : ByteArray), 31⟩ : S37), (⟨(⟨#[42]⟩ : ByteArray), 32⟩ : S37), (⟨(⟨#[47]⟩ : ByteArray), 33⟩ : S37), (⟨(⟨#[109, 111, 100]⟩ : ByteArray), 34⟩ : S37), (⟨(⟨#[97, 110, 100]⟩ : ByteArray), 35⟩ : S37), (⟨(⟨#[111, 114]⟩ : ByteArray), 36⟩ : S37), (⟨(⟨#[120, 111, 114]⟩ : ByteArray), 37⟩ : S37), (⟨(⟨#[105, 110, 118, 101, 114, 116]⟩ : ByteArray), 38⟩ : S37), (⟨(⟨#[108, 115, 104, 105, 102, 116]⟩ : ByteArray), 39⟩ : S37), (⟨(⟨#[114, 115, 104, 105, 102, 116]⟩ : ByteArray), 40⟩ : S37), (⟨(⟨#[62, 62, 97]⟩ : ByteArray), 41⟩ : S37), (⟨(⟨#[47, 109, 111, 100]⟩ : ByteArray), 42⟩ : S37), (⟨(⟨#[117, 47, 109, 111, 100]⟩ : ByteArray), 43⟩ : S37), (⟨(⟨#[110, 101, 103, 97, 116, 101]⟩ : ByteArray), 44⟩ : S37), (⟨(⟨#[97, 98, 115]⟩ : ByteArray), 45⟩ : S37), (⟨(⟨#[109, 105, 110]⟩ : ByteArray), 46⟩ : S37), (⟨(⟨#[109, 97, 120]⟩ : ByteArray), 47⟩ : S37), (⟨(⟨#[62, 114]⟩ : ByteArray), 48⟩ : S37), (⟨(⟨#[114, 62]⟩ : ByteArray), 49⟩ : S37), (⟨(⟨#[114, 64]⟩ : ByteArray), 50⟩ : S37), (⟨(⟨#[48, 61]⟩ : ByteArray), 52⟩ : S37), (⟨(⟨#[48, 60, 62]⟩ : ByteArray), 53⟩ : S37), (⟨(⟨#[48, 60]⟩ : ByteArray), 54⟩ : S37), (⟨(⟨#[48, 60, 61]⟩ : ByteArray), 55⟩ : S37), (⟨(⟨#[48, 62]⟩ : ByteArray), 56⟩ : S37), (⟨(⟨#[48, 62, 61]⟩ : ByteArray), 57⟩ : S37), (⟨(⟨#[60]⟩ : ByteArray), 58⟩ : S37), (⟨(⟨#[62]⟩ : ByteArray), 59⟩ : S37), (⟨(⟨#[61]⟩ : ByteArray), 60⟩ : S37), (⟨(⟨#[60, 62]⟩ : ByteArray), 61⟩ : S37), (⟨(⟨#[117, 62]⟩ : ByteArray), 62⟩ : S37), (⟨(⟨#[117, 60, 61]⟩ : ByteArray), 63⟩ : S37), (⟨(⟨#[117, 60]⟩ : ByteArray), 64⟩ : S37), (⟨(⟨#[117, 62, 61]⟩ : ByteArray), 65⟩ : S37), (⟨(⟨#[62, 61]⟩ : ByteArray), 66⟩ : S37), (⟨(⟨#[60, 61]⟩ : ByteArray), 67⟩ : S37), (⟨(⟨#[100, 114, 111, 112]⟩ : ByteArray), 70⟩ : S37), (⟨(⟨#[100, 117, 112]⟩ : ByteArray), 71⟩ : S37), (⟨(⟨#[111, 118, 101, 114]⟩ : ByteArray), 72⟩ : S37), (⟨(⟨#[115, 119, 97, 112]⟩ : ByteArray), 73⟩ : S37), (⟨(⟨#[114, 111, 116]⟩ : ByteArray), 74⟩ : S37), (⟨(⟨#[45, 114, 111, 116]⟩ : ByteArray), 75⟩ : S37), (⟨(⟨#[116, 117, 99, 107]⟩ : ByteArray), 76⟩ : S37), (⟨(⟨#[110, 105, 112]⟩ : ByteArray), 77⟩ : S37), (⟨(⟨#[112, 105, 99, 107]⟩ : ByteArray), 78⟩ : S37), (⟨(⟨#[114, 111, 108, 108]⟩ : ByteArray), 79⟩ : S37), (⟨(⟨#[63, 100, 117, 112]⟩ : ByteArray), 80⟩ : S37), (⟨(⟨#[100, 101, 112, 116, 104]⟩ : ByteArray), 81⟩ : S37), (⟨(⟨#[50, 100, 114, 111, 112]⟩ : ByteArray), 82⟩ : S37), (⟨(⟨#[50, 100, 117, 112]⟩ : ByteArray), 83⟩ : S37), (⟨(⟨#[50, 111, 118, 101, 114]⟩ : ByteArray), 84⟩ : S37), (⟨(⟨#[50, 115, 119, 97, 112]⟩ : ByteArray), 85⟩ : S37), (⟨(⟨#[50, 114, 111, 116]⟩ : ByteArray), 86⟩ : S37), (⟨(⟨#[50, 47]⟩ : ByteArray), 87⟩ : S37), (⟨(⟨#[117, 50, 47]⟩ : ByteArray), 88⟩ : S37), (⟨(⟨#[50, 42]⟩ : ByteArray), 89⟩ : S37), (⟨(⟨#[43, 33]⟩ : ByteArray), 108⟩ : S37), (⟨(⟨#[64]⟩ : ByteArray), 109⟩ : S37), (⟨(⟨#[119, 64]⟩ : ByteArray), 111⟩ : S37), (⟨(⟨#[99, 64]⟩ : ByteArray), 113⟩ : S37), (⟨(⟨#[33]⟩ : ByteArray), 114⟩ : S37), (⟨(⟨#[119, 33]⟩ : ByteArray), 116⟩ : S37), (⟨(⟨#[99, 33]⟩ : ByteArray), 117⟩ : S37), (⟨(⟨#[109, 111, 118, 101]⟩ : ByteArray), 120⟩ : S37), (⟨(⟨#[102, 105, 108, 108]⟩ : ByteArray), 121⟩ : S37), (⟨(⟨#[99, 111, 109, 112]⟩ : ByteArray), 122⟩ : S37), (⟨(⟨#[108, 98, 115, 112, 108, 105, 116]⟩ : ByteArray), 126⟩ : S37), (⟨(⟨#[98, 108, 106, 111, 105, 110]⟩ : ByteArray), 127⟩ : S37), (⟨(⟨#[119, 98, 102, 108, 105, 112]⟩ : ByteArray), 128⟩ : S37), (⟨(⟨#[117, 112, 99]⟩ : ByteArray), 129⟩ : S37), (⟨(⟨#[108, 99, 99]⟩ : ByteArray), 130⟩ : S37), (⟨(⟨#[117, 110, 108, 111, 111, 112]⟩ : ByteArray), 137⟩ : S37), (⟨(⟨#[97, 108, 108, 111, 99, 45, 109, 101, 109]⟩ : ByteArray), 139⟩ : S37), (⟨(⟨#[101, 109, 105, 116]⟩ : ByteArray), 143⟩ : S37), (⟨(⟨#[116, 121, 112, 101]⟩ : ByteArray), 144⟩ : S37), (⟨(⟨#[99, 114]⟩ : ByteArray), 146⟩ : S37), (⟨(⟨#[117, 46]⟩ : ByteArray), 155⟩ : S37), (⟨(⟨#[46]⟩ : ByteArray), 157⟩ : S37), (⟨(⟨#[98, 97, 115, 101, 33]⟩ : ByteArray), 160⟩ : S37), (⟨(⟨#[45, 49]⟩ : ByteArray), 164⟩ : S37), (⟨(⟨#[48]⟩ : ByteArray), 165⟩ : S37), (⟨(⟨#[49]⟩ : ByteArray), 166⟩ : S37), (⟨(⟨#[50]⟩ : ByteArray), 167⟩ : S37), (⟨(⟨#[51]⟩ : ByteArray), 168⟩ : S37), (⟨(⟨#[98, 108]⟩ : ByteArray), 169⟩ : S37), (⟨(⟨#[104, 101, 114, 101]⟩ : ByteArray), 173⟩ : S37), (⟨(⟨#[117, 109, 42]⟩ : ByteArray), 212⟩ : S37), (⟨(⟨#[117, 109, 47, 109, 111, 100]⟩ : ByteArray), 213⟩ : S37), (⟨(⟨#[100, 43]⟩ : ByteArray), 216⟩ : S37), (⟨(⟨#[100, 45]⟩ : ByteArray), 217⟩ : S37), (⟨(⟨#[112, 114, 111, 112, 101, 114, 116, 121]⟩ : ByteArray), 272⟩ : S37), (⟨(⟨#[101, 110, 99, 111, 100, 101, 45, 105, 110, 116]⟩ : ByteArray), 273⟩ : S37), (⟨(⟨#[101, 110, 99, 111, 100, 101, 43]⟩ : ByteArray), 274⟩ : S37), (⟨(⟨#[101, 110, 99, 111, 100, 101, 45, 115, 116, 114, 105, 110, 103]⟩ : ByteArray), 276⟩ : S37), (⟨(⟨#[110, 101, 119, 45, 100, 101, 118, 105, 99, 101]⟩ : ByteArray), 287⟩ : S37), (⟨(⟨#[102, 105, 110, 105, 115, 104, 45, 100, 101, 118, 105, 99, 101]⟩ : ByteArray), 295⟩ : S37), (⟨(⟨#[115, 109, 47, 114, 101, 109]⟩ : ByteArray), 469⟩ : S37), (⟨(⟨#[109, 121, 45, 115, 101, 108, 102]⟩ : ByteArray), 515⟩ : S37), (⟨(⟨#[109, 121, 45, 112, 97, 114, 101, 110, 116]⟩ : ByteArray), 522⟩ : S37), (⟨(⟨#[36, 99, 97, 108, 108, 45, 109, 101, 116, 104, 111, 100]⟩ : ByteArray), 526⟩ : S37), (⟨(⟨#[99, 97, 116, 99, 104]⟩ : ByteArray), 535⟩ : S37), (⟨(⟨#[116, 104, 114, 111, 119]⟩ : ByteArray), 536⟩ : S37), (⟨(⟨#[103, 101, 116, 45, 109, 121, 45, 112, 114, 111, 112, 101, 114, 116, 121]⟩ : ByteArray), 538⟩ : S37), (⟨(⟨#[100, 101, 99, 111, 100, 101, 45, 105, 110, 116]⟩ : ByteArray), 539⟩ : S37), (⟨(⟨#[100, 101, 99, 111, 100, 101, 45, 115, 116, 114, 105, 110, 103]⟩ : ByteArray), 540⟩ : S37), (⟨(⟨#[100, 101, 108, 101, 116, 101, 45, 112, 114, 111, 112, 101, 114, 116, 121]⟩ : ByteArray), 542⟩ : S37), (⟨(⟨#[102, 109, 47, 109, 111, 100]⟩ : ByteArray), 725⟩ : S37)] : List (S37))) := ⟨_, rfl⟩
  replace H : (some y16001) = some r := by first | (rw [hy16001]; with_reducible exact H) | (have H2_ := (Option.bind_some _ _).symm.trans H; rw [hy16001]; with_reducible exact H2_) | (have H2_ := (Option.bind_some _ _).symm.trans H; with_reducible exact H2_) | with_reducible exact H | (rw [hy16001]; exact H) | exact H
  have Ny16001 := Aside0.mk hy16001
  clear hy16001
  obtain rfl := Option.some.inj H
  go_enter Try.func15, Try.ntmps15
  go_wp2_with (first | ((with_reducible refine gate_dst (N := 112) rfl ?_); refine Kd.R_lit k37 _ 37 ?hg (N := 112) ?hd (xs := ([(⟨(⟨#[105]⟩ : ByteArray), 25⟩ : S37), (⟨(⟨#[106]⟩ : ByteArray), 26⟩ : S37), (⟨(⟨#[101, 120, 101, 99, 117, 116, 101]⟩ : ByteArray), 29⟩ : S37), (⟨(⟨#[43]⟩ : ByteArray), 30⟩ : S37), (⟨(⟨#[45]⟩ : ByteArray), 31⟩ : S37), (⟨(⟨#[42]⟩ : ByteArray), 32⟩ : S37), (⟨(⟨#[47]⟩ : ByteArray), 33⟩ : S37), (⟨(⟨#[109, 111, 100]⟩ : ByteArray), 34⟩ : S37), (⟨(⟨#[97, 110, 100]⟩ : ByteArray), 35⟩ : S37), (⟨(⟨#[111, 114]⟩ : ByteArray), 36⟩ : S37), (⟨(⟨#[120, 111, 114]⟩ : ByteArray), 37⟩ : S37), (⟨(⟨#[105, 110, 118, 101, 114, 116]⟩ : ByteArray), 38⟩ : S37), (⟨(⟨#[108, 115, 104, 105, 102, 116]⟩ : ByteArray), 39⟩ : S37), (⟨(⟨#[114, 115, 104, 105, 102, 116]⟩ : ByteArray), 40⟩ : S37), (⟨(⟨#[62, 62, 97]⟩ : ByteArray), 41⟩ : S37), (⟨(⟨#[47, 109, 111, 100]⟩ : ByteArray), 42⟩ : S37), (⟨(⟨#[117, 47, 109, 111, 100]⟩ : ByteArray), 43⟩ : S37), (⟨(⟨#[110, 101, 103, 97, 116, 101]⟩ : ByteArray), 44⟩ : S37), (⟨(⟨#[97, 98, 115]⟩ : ByteArray), 45⟩ : S37), (⟨(⟨#[109, 105, 110]⟩ : ByteArray), 46⟩ : S37), (⟨(⟨#[109, 97, 120]⟩ : ByteArray), 47⟩ : S37), (⟨(⟨#[62, 114]⟩ : ByteArray), 48⟩ : S37), (⟨(⟨#[114, 62]⟩ : ByteArray), 49⟩ : S37), (⟨(⟨#[114, 64]⟩ : ByteArray), 50⟩ : S37), (⟨(⟨#[48, 61]⟩ : ByteArray), 52⟩ : S37), (⟨(⟨#[48, 60, 62]⟩ : ByteArray), 53⟩ : S37), (⟨(⟨#[48, 60]⟩ : ByteArray), 54⟩ : S37), (⟨(⟨#[48, 60, 61]⟩ : ByteArray), 55⟩ : S37), (⟨(⟨#[48, 62]⟩ : ByteArray), 56⟩ : S37), (⟨(⟨#[48, 62, 61]⟩ : ByteArray), 57⟩ : S37), (⟨(⟨#[60]⟩ : ByteArray), 58⟩ : S37), (⟨(⟨#[62]⟩ : ByteArray), 59⟩ : S37), (⟨(⟨#[61]⟩ : ByteArray), 60⟩ : S37), (⟨(⟨#[60, 62]⟩ : ByteArray), 61⟩ : S37), (⟨(⟨#[117, 62]⟩ : ByteArray), 62⟩ : S37), (⟨(⟨#[117, 60, 61]⟩ : ByteArray), 63⟩ : S37), (⟨(⟨#[117, 60]⟩ : ByteArray), 64⟩ : S37), (⟨(⟨#[117, 62, 61]⟩ : ByteArray), 65⟩ : S37), (⟨(⟨#[62, 61]⟩ : ByteArray), 66⟩ : S37), (⟨(⟨#[60, 61]⟩ : ByteArray), 67⟩ : S37), (⟨(⟨#[100, 114, 111, 112]⟩ : ByteArray), 70⟩ : S37), (⟨(⟨#[100, 117, 112]⟩ : ByteArray), 71⟩ : S37), (⟨(⟨#[111, 118, 101, 114]⟩ : ByteArray), 72⟩ : S37), (⟨(⟨#[115, 119, 97, 112]⟩ : ByteArray), 73⟩ : S37), (⟨(⟨#[114, 111, 116]⟩ : ByteArray), 74⟩ : S37), (⟨(⟨#[45, 114, 111, 116]⟩ : ByteArray), 75⟩ : S37), (⟨(⟨#[116, 117, 99, 107]⟩ : ByteArray), 76⟩ : S37), (⟨(⟨#[110, 105, 112]⟩ : ByteArray), 77⟩ : S37), (⟨(⟨#[112, 105, 99, 107]⟩ : ByteArray), 78⟩ : S37), (⟨(⟨#[114, 111, 108, 108]⟩ : ByteArray), 79⟩ : S37), (⟨(⟨#[63, 100, 117, 112]⟩ : ByteArray), 80⟩ : S37), (⟨(⟨#[100, 101, 112, 116, 104]⟩ : ByteArray), 81⟩ : S37), (⟨(⟨#[50, 100, 114, 111, 112]⟩ : ByteArray), 82⟩ : S37), (⟨(⟨#[50, 100, 117, 112]⟩ : ByteArray), 83⟩ : S37), (⟨(⟨#[50, 111, 118, 101, 114]⟩ : ByteArray), 84⟩ : S37), (⟨(⟨#[50, 115, 119, 97, 112]⟩ : ByteArray), 85⟩ : S37), (⟨(⟨#[50, 114, 111, 116]⟩ : ByteArray), 86⟩ : S37), (⟨(⟨#[50, 47]⟩ : ByteArray), 87⟩ : S37), (⟨(⟨#[117, 50, 47]⟩ : ByteArray), 88⟩ : S37), (⟨(⟨#[50, 42]⟩ : ByteArray), 89⟩ : S37), (⟨(⟨#[43, 33]⟩ : ByteArray), 108⟩ : S37), (⟨(⟨#[64]⟩ : ByteArray), 109⟩ : S37), (⟨(⟨#[119, 64]⟩ : ByteArray), 111⟩ : S37), (⟨(⟨#[99, 64]⟩ : ByteArray), 113⟩ : S37), (⟨(⟨#[33]⟩ : ByteArray), 114⟩ : S37), (⟨(⟨#[119, 33]⟩ : ByteArray), 116⟩ : S37), (⟨(⟨#[99, 33]⟩ : ByteArray), 117⟩ : S37), (⟨(⟨#[109, 111, 118, 101]⟩ : ByteArray), 120⟩ : S37), (⟨(⟨#[102, 105, 108, 108]⟩ : ByteArray), 121⟩ : S37), (⟨(⟨#[99, 111, 109, 112]⟩ : ByteArray), 122⟩ : S37), (⟨(⟨#[108, 98, 115, 112, 108, 105, 116]⟩ : ByteArray), 126⟩ : S37), (⟨(⟨#[98, 108, 106, 111, 105, 110]⟩ : ByteArray), 127⟩ : S37), (⟨(⟨#[119, 98, 102, 108, 105, 112]⟩ : ByteArray), 128⟩ : S37), (⟨(⟨#[117, 112, 99]⟩ : ByteArray), 129⟩ : S37), (⟨(⟨#[108, 99, 99]⟩ : ByteArray), 130⟩ : S37), (⟨(⟨#[117, 110, 108, 111, 111, 112]⟩ : ByteArray), 137⟩ : S37), (⟨(⟨#[97, 108, 108, 111, 99, 45, 109, 101, 109]⟩ : ByteArray), 139⟩ : S37), (⟨(⟨#[101, 109, 105, 116]⟩ : ByteArray), 143⟩ : S37), (⟨(⟨#[116, 121, 112, 101]⟩ : ByteArray), 144⟩ : S37), (⟨(⟨#[99, 114]⟩ : ByteArray), 146⟩ : S37), (⟨(⟨#[117, 46]⟩ : ByteArray), 155⟩ : S37), (⟨(⟨#[46]⟩ : ByteArray), 157⟩ : S37), (⟨(⟨#[98, 97, 115, 101, 33]⟩ : ByteArray), 160⟩ : S37), (⟨(⟨#[45, 49]⟩ : ByteArray), 164⟩ : S37), (⟨(⟨#[48]⟩ : ByteArray), 165⟩ : S37), (⟨(⟨#[49]⟩ : ByteArray), 166⟩ : S37), (⟨(⟨#[50]⟩ : ByteArray), 167⟩ : S37), (⟨(⟨#[51]⟩ : ByteArray), 168⟩ : S37), (⟨(⟨#[98, 108]⟩ : ByteArray), 169⟩ : S37), (⟨(⟨#[104, 101, 114, 101]⟩ : ByteArray), 173⟩ : S37), (⟨(⟨#[117, 109, 42]⟩ : ByteArray), 212⟩ : S37), (⟨(⟨#[117, 109, 47, 109, 111, 100]⟩ : ByteArray), 213⟩ : S37), (⟨(⟨#[100, 43]⟩ : ByteArray), 216⟩ : S37), (⟨(⟨#[100, 45]⟩ : ByteArray), 217⟩ : S37), (⟨(⟨#[112, 114, 111, 112, 101, 114, 116, 121]⟩ : ByteArray), 272⟩ : S37), (⟨(⟨#[101, 110, 99, 111, 100, 101, 45, 105, 110, 116]⟩ : ByteArray), 273⟩ : S37), (⟨(⟨#[101, 110, 99, 111, 100, 101, 43]⟩ : ByteArray), 274⟩ : S37), (⟨(⟨#[101, 110, 99, 111, 100, 101, 45, 115, 116, 114, 105, 110, 103]⟩ : ByteArray), 276⟩ : S37), (⟨(⟨#[110, 101, 119, 45, 100, 101, 118, 105, 99, 101]⟩ : ByteArray), 287⟩ : S37), (⟨(⟨#[102, 105, 110, 105, 115, 104, 45, 100, 101, 118, 105, 99, 101]⟩ : ByteArray), 295⟩ : S37), (⟨(⟨#[115, 109, 47, 114, 101, 109]⟩ : ByteArray), 469⟩ : S37), (⟨(⟨#[109, 121, 45, 115, 101, 108, 102]⟩ : ByteArray), 515⟩ : S37), (⟨(⟨#[109, 121, 45, 112, 97, 114, 101, 110, 116]⟩ : ByteArray), 522⟩ : S37), (⟨(⟨#[36, 99, 97, 108, 108, 45, 109, 101, 116, 104, 111, 100]⟩ : ByteArray), 526⟩ : S37), (⟨(⟨#[99, 97, 116, 99, 104]⟩ : ByteArray), 535⟩ : S37), (⟨(⟨#[116, 104, 114, 111, 119]⟩ : ByteArray), 536⟩ : S37), (⟨(⟨#[103, 101, 116, 45, 109, 121, 45, 112, 114, 111, 112, 101, 114, 116, 121]⟩ : ByteArray), 538⟩ : S37), (⟨(⟨#[100, 101, 99, 111, 100, 101, 45, 105, 110, 116]⟩ : ByteArray), 539⟩ : S37), (⟨(⟨#[100, 101, 99, 111, 100, 101, 45, 115, 116, 114, 105, 110, 103]⟩ : ByteArray), 540⟩ : S37), (⟨(⟨#[100, 101, 108, 101, 116, 101, 45, 112, 114, 111, 112, 101, 114, 116, 121]⟩ : ByteArray), 542⟩ : S37), (⟨(⟨#[102, 109, 47, 109, 111, 100]⟩ : ByteArray), 725⟩ : S37)] : List (S37))) (inner := [.string (⟨#[105]⟩ : ByteArray), .int .i64 25, .string (⟨#[106]⟩ : ByteArray), .int .i64 26, .string (⟨#[101, 120, 101, 99, 117, 116, 101]⟩ : ByteArray), .int .i64 29, .string (⟨#[43]⟩ : ByteArray), .int .i64 30, .string (⟨#[45]⟩ : ByteArray), .int .i64 31, .string (⟨#[42]⟩ : ByteArray), .int .i64 32, .string (⟨#[47]⟩ : ByteArray), .int .i64 33, .string (⟨#[109, 111, 100]⟩ : ByteArray), .int .i64 34, .string (⟨#[97, 110, 100]⟩ : ByteArray), .int .i64 35, .string (⟨#[111, 114]⟩ : ByteArray), .int .i64 36, .string (⟨#[120, 111, 114]⟩ : ByteArray), .int .i64 37, .string (⟨#[105, 110, 118, 101, 114, 116]⟩ : ByteArray), .int .i64 38, .string (⟨#[108, 115, 104, 105, 102, 116]⟩ : ByteArray), .int .i64 39, .string (⟨#[114, 115, 104, 105, 102, 116]⟩ : ByteArray), .int .i64 40, .string (⟨#[62, 62, 97]⟩ : ByteArray), .int .i64 41, .string (⟨#[47, 109, 111, 100]⟩ : ByteArray), .int .i64 42, .string (⟨#[117, 47, 109, 111, 100]⟩ : ByteArray), .int .i64 43, .string (⟨#[110, 101, 103, 97, 116, 101]⟩ : ByteArray), .int .i64 44, .string (⟨#[97, 98, 115]⟩ : ByteArray), .int .i64 45, .string (⟨#[109, 105, 110]⟩ : ByteArray), .int .i64 46, .string (⟨#[109, 97, 120]⟩ : ByteArray), .int .i64 47, .string (⟨#[62, 114]⟩ : ByteArray), .int .i64 48, .string (⟨#[114, 62]⟩ : ByteArray), .int .i64 49, .string (⟨#[114, 64]⟩ : ByteArray), .int .i64 50, .string (⟨#[48, 61]⟩ : ByteArray), .int .i64 52, .string (⟨#[48, 60, 62]⟩ : ByteArray), .int .i64 53, .string (⟨#[48, 60]⟩ : ByteArray), .int .i64 54, .string (⟨#[48, 60, 61]⟩ : ByteArray), .int .i64 55, .string (⟨#[48, 62]⟩ : ByteArray), .int .i64 56, .string (⟨#[48, 62, 61]⟩ : ByteArray), .int .i64 57, .string (⟨#[60]⟩ : ByteArray), .int .i64 58, .string (⟨#[62]⟩ : ByteArray), .int .i64 59, .string (⟨#[61]⟩ : ByteArray), .int .i64 60, .string (⟨#[60, 62]⟩ : ByteArray), .int .i64 61, .string (⟨#[117, 62]⟩ : ByteArray), .int .i64 62, .string (⟨#[117, 60, 61]⟩ : ByteArray), .int .i64 63, .string (⟨#[117, 60]⟩ : ByteArray), .int .i64 64, .string (⟨#[117, 62, 61]⟩ : ByteArray), .int .i64 65, .string (⟨#[62, 61]⟩ : ByteArray), .int .i64 66, .string (⟨#[60, 61]⟩ : ByteArray), .int .i64 67, .string (⟨#[100, 114, 111, 112]⟩ : ByteArray), .int .i64 70, .string (⟨#[100, 117, 112]⟩ : ByteArray), .int .i64 71, .string (⟨#[111, 118, 101, 114]⟩ : ByteArray), .int .i64 72, .string (⟨#[115, 119, 97, 112]⟩ : ByteArray), .int .i64 73, .string (⟨#[114, 111, 116]⟩ : ByteArray), .int .i64 74, .string (⟨#[45, 114, 111, 116]⟩ : ByteArray), .int .i64 75, .string (⟨#[116, 117, 99, 107]⟩ : ByteArray), .int .i64 76, .string (⟨#[110, 105, 112]⟩ : ByteArray), .int .i64 77, .string (⟨#[112, 105, 99, 107]⟩ : ByteArray), .int .i64 78, .string (⟨#[114, 111, 108, 108]⟩ : ByteArray), .int .i64 79, .string (⟨#[63, 100, 117, 112]⟩ : ByteArray), .int .i64 80, .string (⟨#[100, 101, 112, 116, 104]⟩ : ByteArray), .int .i64 81, .string (⟨#[50, 100, 114, 111, 112]⟩ : ByteArray), .int .i64 82, .string (⟨#[50, 100, 117, 112]⟩ : ByteArray), .int .i64 83, .string (⟨#[50, 111, 118, 101, 114]⟩ : ByteArray), .int .i64 84, .string (⟨#[50, 115, 119, 97, 112]⟩ : ByteArray), .int .i64 85, .string (⟨#[50, 114, 111, 116]⟩ : ByteArray), .int .i64 86, .string (⟨#[50, 47]⟩ : ByteArray), .int .i64 87, .string (⟨#[117, 50, 47]⟩ : ByteArray), .int .i64 88, .string (⟨#[50, 42]⟩ : ByteArray), .int .i64 89, .string (⟨#[43, 33]⟩ : ByteArray), .int .i64 108, .string (⟨#[64]⟩ : ByteArray), .int .i64 109, .string (⟨#[119, 64]⟩ : ByteArray), .int .i64 111, .string (⟨#[99, 64]⟩ : ByteArray), .int .i64 113, .string (⟨#[33]⟩ : ByteArray), .int .i64 114, .string (⟨#[119, 33]⟩ : ByteArray), .int .i64 116, .string (⟨#[99, 33]⟩ : ByteArray), .int .i64 117, .string (⟨#[109, 111, 118, 101]⟩ : ByteArray), .int .i64 120, .string (⟨#[102, 105, 108, 108]⟩ : ByteArray), .int .i64 121, .string (⟨#[99, 111, 109, 112]⟩ : ByteArray), .int .i64 122, .string (⟨#[108, 98, 115, 112, 108, 105, 116]⟩ : ByteArray), .int .i64 126, .string (⟨#[98, 108, 106, 111, 105, 110]⟩ : ByteArray), .int .i64 127, .string (⟨#[119, 98, 102, 108, 105, 112]⟩ : ByteArray), .int .i64 128, .string (⟨#[117, 112, 99]⟩ : ByteArray), .int .i64 129, .string (⟨#[108, 99, 99]⟩ : ByteArray), .int .i64 130, .string (⟨#[117, 110, 108, 111, 111, 112]⟩ : ByteArray), .int .i64 137, .string (⟨#[97, 108, 108, 111, 99, 45, 109, 101, 109]⟩ : ByteArray), .int .i64 139, .string (⟨#[101, 109, 105, 116]⟩ : ByteArray), .int .i64 143, .string (⟨#[116, 121, 112, 101]⟩ : ByteArray), .int .i64 144, .string (⟨#[99, 114]⟩ : ByteArray), .int .i64 146, .string (⟨#[117, 46]⟩ : ByteArray), .int .i64 155, .string (⟨#[46]⟩ : ByteArray), .int .i64 157, .string (⟨#[98, 97, 115, 101, 33]⟩ : ByteArray), .int .i64 160, .string (⟨#[45, 49]⟩ : ByteArray), .int .i64 164, .string (⟨#[48]⟩ : ByteArray), .int .i64 165, .string (⟨#[49]⟩ : ByteArray), .int .i64 166, .string (⟨#[50]⟩ : ByteArray), .int .i64 167, .string (⟨#[51]⟩ : ByteArray), .int .i64 168, .string (⟨#[98, 108]⟩ : ByteArray), .int .i64 169, .string (⟨#[104, 101, 114, 101]⟩ : ByteArray), .int .i64 173, .string (⟨#[117, 109, 42]⟩ : ByteArray), .int .i64 212, .string (⟨#[117, 109, 47, 109, 111, 100]⟩ : ByteArray), .int .i64 213, .string (⟨#[100, 43]⟩ : ByteArray), .int .i64 216, .string (⟨#[100, 45]⟩ : ByteArray), .int .i64 217, .string (⟨#[112, 114, 111, 112, 101, 114, 116, 121]⟩ : ByteArray), .int .i64 272, .string (⟨#[101, 110, 99, 111, 100, 101, 45, 105, 110, 116]⟩ : ByteArray), .int .i64 273, .string (⟨#[101, 110, 99, 111, 100, 101, 43]⟩ : ByteArray), .int .i64 274, .string (⟨#[101, 110, 99, 111, 100, 101, 45, 115, 116, 114, 105, 110, 103]⟩ : ByteArray), .int .i64 276, .string (⟨#[110, 101, 119, 45, 100, 101, 118, 105, 99, 101]⟩ : ByteArray), .int .i64 287, .string (⟨#[102, 105, 110, 105, 115, 104, 45, 100, 101, 118, 105, 99, 101]⟩ : ByteArray), .int .i64 295, .string (⟨#[115, 109, 47, 114, 101, 109]⟩ : ByteArray), .int .i64 469, .string (⟨#[109, 121, 45, 115, 101, 108, 102]⟩ : ByteArray), .int .i64 515, .string (⟨#[109, 121, 45, 112, 97, 114, 101, 110, 116]⟩ : ByteArray), .int .i64 522, .string (⟨#[36, 99, 97, 108, 108, 45, 109, 101, 116, 104, 111, 100]⟩ : ByteArray), .int .i64 526, .string (⟨#[99, 97, 116, 99, 104]⟩ : ByteArray), .int .i64 535, .string (⟨#[116, 104, 114, 111, 119]⟩ : ByteArray), .int .i64 536, .string (⟨#[103, 101, 116, 45, 109, 121, 45, 112, 114, 111, 112, 101, 114, 116, 121]⟩ : ByteArray), .int .i64 538, .string (⟨#[100, 101, 99, 111, 100, 101, 45, 105, 110, 116]⟩ : ByteArray), .int .i64 539, .string (⟨#[100, 101, 99, 111, 100, 101, 45, 115, 116, 114, 105, 110, 103]⟩ : ByteArray), .int .i64 540, .string (⟨#[100, 101, 108, 101, 116, 101, 45, 112, 114, 111, 112, 101, 114, 116, 121]⟩ : ByteArray), .int .i64 542, .string (⟨#[102, 109, 47, 109, 111, 100]⟩ : ByteArray), .int .i64 725]) (ok := fun _ => True) (okp := fun _ => True) ?hr ?hp (fun _ hk => hk) trivial (Below.refl _ _) (Nat.le_refl _) (by simp) ?_; (case hd => rfl); (case hg => rfl); (case hr => kernel_rfl); (case hp => exact (Reps.c2 (show Kd.M k37 _ _ _ (⟨(⟨#[105]⟩ : ByteArray), 25⟩ : S37) [.string (⟨#[105]⟩ : ByteArray), .int .i64 25] from (k37_mkM _ _ _ (⟨(⟨#[105]⟩ : ByteArray), 25⟩ : S37) )) (Reps.c2 (show Kd.M k37 _ _ _ (⟨(⟨#[106]⟩ : ByteArray), 26⟩ : S37) [.string (⟨#[106]⟩ : ByteArray), .int .i64 26] from (k37_mkM _ _ _ (⟨(⟨#[106]⟩ : ByteArray), 26⟩ : S37) )) (Reps.c2 (show Kd.M k37 _ _ _ (⟨(⟨#[101, 120, 101, 99, 117, 116, 101]⟩ : ByteArray), 29⟩ : S37) [.string (⟨#[101, 120, 101, 99, 117, 116, 101]⟩ : ByteArray), .int .i64 29] from (k37_mkM _ _ _ (⟨(⟨#[101, 120, 101, 99, 117, 116, 101]⟩ : ByteArray), 29⟩ : S37) )) (Reps.c2 (show Kd.M k37 _ _ _ (⟨(⟨#[43]⟩ : ByteArray), 30⟩ : S37) [.string (⟨#[43]⟩ : ByteArray), .int .i64 30] from (k37_mkM _ _ _ (⟨(⟨#[43]⟩ : ByteArray), 30⟩ : S37) )) (Reps.c2 (show Kd.M k37 _ _ _ (⟨(⟨#[45]⟩ : ByteArray), 31⟩ : S37) [.string (⟨#[45]⟩ : ByteArray), .int .i64 31] from (k37_mkM _ _ _ (⟨(⟨#[45]⟩ : ByteArray), 31⟩ : S37) )) (Reps.c2 (show Kd.M k37 _ _ _ (⟨(⟨#[42]⟩ : ByteArray), 32⟩ : S37) [.string (⟨#[42]⟩ : ByteArray), .int .i64 32] from (k37_mkM _ _ _ (⟨(⟨#[42]⟩ : ByteArray), 32⟩ : S37) )) (Reps.c2 (show Kd.M k37 _ _ _ (⟨(⟨#[47]⟩ : ByteArray), 33⟩ : S37) [.string (⟨#[47]⟩ : ByteArray), .int .i64 33] from (k37_mkM _ _ _ (⟨(⟨#[47]⟩ : ByteArray), 33⟩ : S37) )) (Reps.c2 (show Kd.M k37 _ _ _ (⟨(⟨#[109, 111, 100]⟩ : ByteArray), 34⟩ : S37) [.string (⟨#[109, 111, 100]⟩ : ByteArray), .int .i64 34] from (k37_mkM _ _ _ (⟨(⟨#[109, 111, 100]⟩ : ByteArray), 34⟩ : S37) )) (Reps.c2 (show Kd.M k37 _ _ _ (⟨(⟨#[97, 110, 100]⟩ : ByteArray), 35⟩ : S37) [.string (⟨#[97, 110, 100]⟩ : ByteArray), .int .i64 35] from (k37_mkM _ _ _ (⟨(⟨#[97, 110, 100]⟩ : ByteArray), 35⟩ : S37) )) (Reps.c2 (show Kd.M k37 _ _ _ (⟨(⟨#[111, 114]⟩ : ByteArray), 36⟩ : S37) [.string (⟨#[111, 114]⟩ : ByteArray), .int .i64 36] from (k37_mkM _ _ _ (⟨(⟨#[111, 114]⟩ : ByteArray), 36⟩ : S37) )) (Reps.c2 (show Kd.M k37 _ _ _ (⟨(⟨#[120, 111, 114]⟩ : ByteArray), 37⟩ : S37) [.string (⟨#[120, 111, 114]⟩ : ByteArray), .int .i64 37] from (k37_mkM _ _ _ (⟨(⟨#[120, 111, 114]⟩ : ByteArray), 37⟩ : S37) )) (Reps.c2 (show Kd.M k37 _ _ _ (⟨(⟨#[105, 110, 118, 101, 114, 116]⟩ : ByteArray), 38⟩ : S37) [.string (⟨#[105, 110, 118, 101, 114, 116]⟩ : ByteArray), .int .i64 38] from (k37_mkM _ _ _ (⟨(⟨#[105, 110, 118, 101, 114, 116]⟩ : ByteArray), 38⟩ : S37) )) (Reps.c2 (show Kd.M k37 _ _ _ (⟨(⟨#[108, 115, 104, 105, 102, 116]⟩ : ByteArray), 39⟩ : S37) [.string (⟨#[108, 115, 104, 105, 102, 116]⟩ : ByteArray), .int .i64 39] from (k37_mkM _ _ _ (⟨(⟨#[108, 115, 104, 105, 102, 116]⟩ : ByteArray), 39⟩ : S37) )) (Reps.c2 (show Kd.M k37 _ _ _ (⟨(⟨#[114, 115, 104, 105, 102, 116]⟩ : ByteArray), 40⟩ : S37) [.string (⟨#[114, 115, 104, 105, 102, 116]⟩ : ByteArray), .int .i64 40] from (k37_mkM _ _ _ (⟨(⟨#[114, 115, 104, 105, 102, 116]⟩ : ByteArray), 40⟩ : S37) )) (Reps.c2 (show Kd.M k37 _ _ _ (⟨(⟨#[62, 62, 97]⟩ : ByteArray), 41⟩ : S37) [.string (⟨#[62, 62, 97]⟩ : ByteArray), .int .i64 41] from (k37_mkM _ _ _ (⟨(⟨#[62, 62, 97]⟩ : ByteArray), 41⟩ : S37) )) (Reps.c2 (show Kd.M k37 _ _ _ (⟨(⟨#[47, 109, 111, 100]⟩ : ByteArray), 42⟩ : S37) [.string (⟨#[47, 109, 111, 100]⟩ : ByteArray), .int .i64 42] from (k37_mkM _ _ _ (⟨(⟨#[47, 109, 111, 100]⟩ : ByteArray), 42⟩ : S37) )) (Reps.c2 (show Kd.M k37 _ _ _ (⟨(⟨#[117, 47, 109, 111, 100]⟩ : ByteArray), 43⟩ : S37) [.string (⟨#[117, 47, 109, 111, 100]⟩ : ByteArray), .int .i64 43] from (k37_mkM _ _ _ (⟨(⟨#[117, 47, 109, 111, 100]⟩ : ByteArray), 43⟩ : S37) )) (Reps.c2 (show Kd.M k37 _ _ _ (⟨(⟨#[110, 101, 103, 97, 116, 101]⟩ : ByteArray), 44⟩ : S37) [.string (⟨#[110, 101, 103, 97, 116, 101]⟩ : ByteArray), .int .i64 44] from (k37_mkM _ _ _ (⟨(⟨#[110, 101, 103, 97, 116, 101]⟩ : ByteArray), 44⟩ : S37) )) (Reps.c2 (show Kd.M k37 _ _ _ (⟨(⟨#[97, 98, 115]⟩ : ByteArray), 45⟩ : S37) [.string (⟨#[97, 98, 115]⟩ : ByteArray), .int .i64 45] from (k37_mkM _ _ _ (⟨(⟨#[97, 98, 115]⟩ : ByteArray), 45⟩ : S37) )) (Reps.c2 (show Kd.M k37 _ _ _ (⟨(⟨#[109, 105, 110]⟩ : ByteArray), 46⟩ : S37) [.string (⟨#[109, 105, 110]⟩ : ByteArray), .int .i64 46] from (k37_mkM _ _ _ (⟨(⟨#[109, 105, 110]⟩ : ByteArray), 46⟩ : S37) )) (Reps.c2 (show Kd.M k37 _ _ _ (⟨(⟨#[109, 97, 120]⟩ : ByteArray), 47⟩ : S37) [.string (⟨#[109, 97, 120]⟩ : ByteArray), .int .i64 47] from (k37_mkM _ _ _ (⟨(⟨#[109, 97, 120]⟩ : ByteArray), 47⟩ : S37) )) (Reps.c2 (show Kd.M k37 _ _ _ (⟨(⟨#[62, 114]⟩ : ByteArray), 48⟩ : S37) [.string (⟨#[62, 114]⟩ : ByteArray), .int .i64 48] from (k37_mkM _ _ _ (⟨(⟨#[62, 114]⟩ : ByteArray), 48⟩ : S37) )) (Reps.c2 (show Kd.M k37 _ _ _ (⟨(⟨#[114, 62]⟩ : ByteArray), 49⟩ : S37) [.string (⟨#[114, 62]⟩ : ByteArray), .int .i64 49] from (k37_mkM _ _ _ (⟨(⟨#[114, 62]⟩ : ByteArray), 49⟩ : S37) )) (Reps.c2 (show Kd.M k37 _ _ _ (⟨(⟨#[114, 64]⟩ : ByteArray), 50⟩ : S37) [.string (⟨#[114, 64]⟩ : ByteArray), .int .i64 50] from (k37_mkM _ _ _ (⟨(⟨#[114, 64]⟩ : ByteArray), 50⟩ : S37) )) (Reps.c2 (show Kd.M k37 _ _ _ (⟨(⟨#[48, 61]⟩ : ByteArray), 52⟩ : S37) [.string (⟨#[48, 61]⟩ : ByteArray), .int .i64 52] from (k37_mkM _ _ _ (⟨(⟨#[48, 61]⟩ : ByteArray), 52⟩ : S37) )) (Reps.c2 (show Kd.M k37 _ _ _ (⟨(⟨#[48, 60, 62]⟩ : ByteArray), 53⟩ : S37) [.string (⟨#[48, 60, 62]⟩ : ByteArray), .int .i64 53] from (k37_mkM _ _ _ (⟨(⟨#[48, 60, 62]⟩ : ByteArray), 53⟩ : S37) )) (Reps.c2 (show Kd.M k37 _ _ _ (⟨(⟨#[48, 60]⟩ : ByteArray), 54⟩ : S37) [.string (⟨#[48, 60]⟩ : ByteArray), .int .i64 54] from (k37_mkM _ _ _ (⟨(⟨#[48, 60]⟩ : ByteArray), 54⟩ : S37) )) (Reps.c2 (show Kd.M k37 _ _ _ (⟨(⟨#[48, 60, 61]⟩ : ByteArray), 55⟩ : S37) [.string (⟨#[48, 60, 61]⟩ : ByteArray), .int .i64 55] from (k37_mkM _ _ _ (⟨(⟨#[48, 60, 61]⟩ : ByteArray), 55⟩ : S37) )) (Reps.c2 (show Kd.M k37 _ _ _ (⟨(⟨#[48, 62]⟩ : ByteArray), 56⟩ : S37) [.string (⟨#[48, 62]⟩ : ByteArray), .int .i64 56] from (k37_mkM _ _ _ (⟨(⟨#[48, 62]⟩ : ByteArray), 56⟩ : S37) )) (Reps.c2 (show Kd.M k37 _ _ _ (⟨(⟨#[48, 62, 61]⟩ : ByteArray), 57⟩ : S37) [.string (⟨#[48, 62, 61]⟩ : ByteArray), .int .i64 57] from (k37_mkM _ _ _ (⟨(⟨#[48, 62, 61]⟩ : ByteArray), 57⟩ : S37) )) (Reps.c2 (show Kd.M k37 _ _ _ (⟨(⟨#[60]⟩ : ByteArray), 58⟩ : S37) [.string (⟨#[60]⟩ : ByteArray), .int .i64 58] from (k37_mkM _ _ _ (⟨(⟨#[60]⟩ : ByteArray), 58⟩ : S37) )) (Reps.c2 (show Kd.M k37 _ _ _ (⟨(⟨#[62]⟩ : ByteArray), 59⟩ : S37) [.string (⟨#[62]⟩ : ByteArray), .int .i64 59] from (k37_mkM _ _ _ (⟨(⟨#[62]⟩ : ByteArray), 59⟩ : S37) )) (Reps.c2 (show Kd.M k37 _ _ _ (⟨(⟨#[61]⟩ : ByteArray), 60⟩ : S37) [.string (⟨#[61]⟩ : ByteArray), .int .i64 60] from (k37_mkM _ _ _ (⟨(⟨#[61]⟩ : ByteArray), 60⟩ : S37) )) (Reps.c2 (show Kd.M k37 _ _ _ (⟨(⟨#[60, 62]⟩ : ByteArray), 61⟩ : S37) [.string (⟨#[60, 62]⟩ : ByteArray), .int .i64 61] from (k37_mkM _ _ _ (⟨(⟨#[60, 62]⟩ : ByteArray), 61⟩ : S37) )) (Reps.c2 (show Kd.M k37 _ _ _ (⟨(⟨#[117, 62]⟩ : ByteArray), 62⟩ : S37) [.string (⟨#[117, 62]⟩ : ByteArray), .int .i64 62] from (k37_mkM _ _ _ (⟨(⟨#[117, 62]⟩ : ByteArray), 62⟩ : S37) )) (Reps.c2 (show Kd.M k37 _ _ _ (⟨(⟨#[117, 60, 61]⟩ : ByteArray), 63⟩ : S37) [.string (⟨#[117, 60, 61]⟩ : ByteArray), .int .i64 63] from (k37_mkM _ _ _ (⟨(⟨#[117, 60, 61]⟩ : ByteArray), 63⟩ : S37) )) (Reps.c2 (show Kd.M k37 _ _ _ (⟨(⟨#[117, 60]⟩ : ByteArray), 64⟩ : S37) [.string (⟨#[117, 60]⟩ : ByteArray), .int .i64 64] from (k37_mkM _ _ _ (⟨(⟨#[117, 60]⟩ : ByteArray), 64⟩ : S37) )) (Reps.c2 (show Kd.M k37 _ _ _ (⟨(⟨#[117, 62, 61]⟩ : ByteArray), 65⟩ : S37) [.string (⟨#[117, 62, 61]⟩ : ByteArray), .int .i64 65] from (k37_mkM _ _ _ (⟨(⟨#[117, 62, 61]⟩ : ByteArray), 65⟩ : S37) )) (Reps.c2 (show Kd.M k37 _ _ _ (⟨(⟨#[62, 61]⟩ : ByteArray), 66⟩ : S37) [.string (⟨#[62, 61]⟩ : ByteArray), .int .i64 66] from (k37_mkM _ _ _ (⟨(⟨#[62, 61]⟩ : ByteArray), 66⟩ : S37) )) (Reps.c2 (show Kd.M k37 _ _ _ (⟨(⟨#[60, 61]⟩ : ByteArray), 67⟩ : S37) [.string (⟨#[60, 61]⟩ : ByteArray), .int .i64 67] from (k37_mkM _ _ _ (⟨(⟨#[60, 61]⟩ : ByteArray), 67⟩ : S37) )) (Reps.c2 (show Kd.M k37 _ _ _ (⟨(⟨#[100, 114, 111, 112]⟩ : ByteArray), 70⟩ : S37) [.string (⟨#[100, 114, 111, 112]⟩ : ByteArray), .int .i64 70] from (k37_mkM _ _ _ (⟨(⟨#[100, 114, 111, 112]⟩ : ByteArray), 70⟩ : S37) )) (Reps.c2 (show Kd.M k37 _ _ _ (⟨(⟨#[100, 117, 112]⟩ : ByteArray), 71⟩ : S37) [.string (⟨#[100, 117, 112]⟩ : ByteArray), .int .i64 71] from (k37_mkM _ _ _ (⟨(⟨#[100, 117, 112]⟩ : ByteArray), 71⟩ : S37) )) (Reps.c2 (show Kd.M k37 _ _ _ (⟨(⟨#[111, 118, 101, 114]⟩ : ByteArray), 72⟩ : S37) [.string (⟨#[111, 118, 101, 114]⟩ : ByteArray), .int .i64 72] from (k37_mkM _ _ _ (⟨(⟨#[111, 118, 101, 114]⟩ : ByteArray), 72⟩ : S37) )) (Reps.c2 (show Kd.M k37 _ _ _ (⟨(⟨#[115, 119, 97, 112]⟩ : ByteArray), 73⟩ : S37) [.string (⟨#[115, 119, 97, 112]⟩ : ByteArray), .int .i64 73] from (k37_mkM _ _ _ (⟨(⟨#[115, 119, 97, 112]⟩ : ByteArray), 73⟩ : S37) )) (Reps.c2 (show Kd.M k37 _ _ _ (⟨(⟨#[114, 111, 116]⟩ : ByteArray), 74⟩ : S37) [.string (⟨#[114, 111, 116]⟩ : ByteArray), .int .i64 74] from (k37_mkM _ _ _ (⟨(⟨#[114, 111, 116]⟩ : ByteArray), 74⟩ : S37) )) (Reps.c2 (show Kd.M k37 _ _ _ (⟨(⟨#[45, 114, 111, 116]⟩ : ByteArray), 75⟩ : S37) [.string (⟨#[45, 114, 111, 116]⟩ : ByteArray), .int .i64 75] from (k37_mkM _ _ _ (⟨(⟨#[45, 114, 111, 116]⟩ : ByteArray), 75⟩ : S37) )) (Reps.c2 (show Kd.M k37 _ _ _ (⟨(⟨#[116, 117, 99, 107]⟩ : ByteArray), 76⟩ : S37) [.string (⟨#[116, 117, 99, 107]⟩ : ByteArray), .int .i64 76] from (k37_mkM _ _ _ (⟨(⟨#[116, 117, 99, 107]⟩ : ByteArray), 76⟩ : S37) )) (Reps.c2 (show Kd.M k37 _ _ _ (⟨(⟨#[110, 105, 112]⟩ : ByteArray), 77⟩ : S37) [.string (⟨#[110, 105, 112]⟩ : ByteArray), .int .i64 77] from (k37_mkM _ _ _ (⟨(⟨#[110, 105, 112]⟩ : ByteArray), 77⟩ : S37) )) (Reps.c2 (show Kd.M k37 _ _ _ (⟨(⟨#[112, 105, 99, 107]⟩ : ByteArray), 78⟩ : S37) [.string (⟨#[112, 105, 99, 107]⟩ : ByteArray), .int .i64 78] from (k37_mkM _ _ _ (⟨(⟨#[112, 105, 99, 107]⟩ : ByteArray), 78⟩ : S37) )) (Reps.c2 (show Kd.M k37 _ _ _ (⟨(⟨#[114, 111, 108, 108]⟩ : ByteArray), 79⟩ : S37) [.string (⟨#[114, 111, 108, 108]⟩ : ByteArray), .int .i64 79] from (k37_mkM _ _ _ (⟨(⟨#[114, 111, 108, 108]⟩ : ByteArray), 79⟩ : S37) )) (Reps.c2 (show Kd.M k37 _ _ _ (⟨(⟨#[63, 100, 117, 112]⟩ : ByteArray), 80⟩ : S37) [.string (⟨#[63, 100, 117, 112]⟩ : ByteArray), .int .i64 80] from (k37_mkM _ _ _ (⟨(⟨#[63, 100, 117, 112]⟩ : ByteArray), 80⟩ : S37) )) (Reps.c2 (show Kd.M k37 _ _ _ (⟨(⟨#[100, 101, 112, 116, 104]⟩ : ByteArray), 81⟩ : S37) [.string (⟨#[100, 101, 112, 116, 104]⟩ : ByteArray), .int .i64 81] from (k37_mkM _ _ _ (⟨(⟨#[100, 101, 112, 116, 104]⟩ : ByteArray), 81⟩ : S37) )) (Reps.c2 (show Kd.M k37 _ _ _ (⟨(⟨#[50, 100, 114, 111, 112]⟩ : ByteArray), 82⟩ : S37) [.string (⟨#[50, 100, 114, 111, 112]⟩ : ByteArray), .int .i64 82] from (k37_mkM _ _ _ (⟨(⟨#[50, 100, 114, 111, 112]⟩ : ByteArray), 82⟩ : S37) )) (Reps.c2 (show Kd.M k37 _ _ _ (⟨(⟨#[50, 100, 117, 112]⟩ : ByteArray), 83⟩ : S37) [.string (⟨#[50, 100, 117, 112]⟩ : ByteArray), .int .i64 83] from (k37_mkM _ _ _ (⟨(⟨#[50, 100, 117, 112]⟩ : ByteArray), 83⟩ : S37) )) (Reps.c2 (show Kd.M k37 _ _ _ (⟨(⟨#[50, 111, 118, 101, 114]⟩ : ByteArray), 84⟩ : S37) [.string (⟨#[50, 111, 118, 101, 114]⟩ : ByteArray), .int .i64 84] from (k37_mkM _ _ _ (⟨(⟨#[50, 111, 118, 101, 114]⟩ : ByteArray), 84⟩ : S37) )) (Reps.c2 (show Kd.M k37 _ _ _ (⟨(⟨#[50, 115, 119, 97, 112]⟩ : ByteArray), 85⟩ : S37) [.string (⟨#[50, 115, 119, 97, 112]⟩ : ByteArray), .int .i64 85] from (k37_mkM _ _ _ (⟨(⟨#[50, 115, 119, 97, 112]⟩ : ByteArray), 85⟩ : S37) )) (Reps.c2 (show Kd.M k37 _ _ _ (⟨(⟨#[50, 114, 111, 116]⟩ : ByteArray), 86⟩ : S37) [.string (⟨#[50, 114, 111, 116]⟩ : ByteArray), .int .i64 86] from (k37_mkM _ _ _ (⟨(⟨#[50, 114, 111, 116]⟩ : ByteArray), 86⟩ : S37) )) (Reps.c2 (show Kd.M k37 _ _ _ (⟨(⟨#[50, 47]⟩ : ByteArray), 87⟩ : S37) [.string (⟨#[50, 47]⟩ : ByteArray), .int .i64 87] from (k37_mkM _ _ _ (⟨(⟨#[50, 47]⟩ : ByteArray), 87⟩ : S37) )) (Reps.c2 (show Kd.M k37 _ _ _ (⟨(⟨#[117, 50, 47]⟩ : ByteArray), 88⟩ : S37) [.string (⟨#[117, 50, 47]⟩ : ByteArray), .int .i64 88] from (k37_mkM _ _ _ (⟨(⟨#[117, 50, 47]⟩ : ByteArray), 88⟩ : S37) )) (Reps.c2 (show Kd.M k37 _ _ _ (⟨(⟨#[50, 42]⟩ : ByteArray), 89⟩ : S37) [.string (⟨#[50, 42]⟩ : ByteArray), .int .i64 89] from (k37_mkM _ _ _ (⟨(⟨#[50, 42]⟩ : ByteArray), 89⟩ : S37) )) (Reps.c2 (show Kd.M k37 _ _ _ (⟨(⟨#[43, 33]⟩ : ByteArray), 108⟩ : S37) [.string (⟨#[43, 33]⟩ : ByteArray), .int .i64 108] from (k37_mkM _ _ _ (⟨(⟨#[43, 33]⟩ : ByteArray), 108⟩ : S37) )) (Reps.c2 (show Kd.M k37 _ _ _ (⟨(⟨#[64]⟩ : ByteArray), 109⟩ : S37) [.string (⟨#[64]⟩ : ByteArray), .int .i64 109] from (k37_mkM _ _ _ (⟨(⟨#[64]⟩ : ByteArray), 109⟩ : S37) )) (Reps.c2 (show Kd.M k37 _ _ _ (⟨(⟨#[119, 64]⟩ : ByteArray), 111⟩ : S37) [.string (⟨#[119, 64]⟩ : ByteArray), .int .i64 111] from (k37_mkM _ _ _ (⟨(⟨#[119, 64]⟩ : ByteArray), 111⟩ : S37) )) (Reps.c2 (show Kd.M k37 _ _ _ (⟨(⟨#[99, 64]⟩ : ByteArray), 113⟩ : S37) [.string (⟨#[99, 64]⟩ : ByteArray), .int .i64 113] from (k37_mkM _ _ _ (⟨(⟨#[99, 64]⟩ : ByteArray), 113⟩ : S37) )) (Reps.c2 (show Kd.M k37 _ _ _ (⟨(⟨#[33]⟩ : ByteArray), 114⟩ : S37) [.string (⟨#[33]⟩ : ByteArray), .int .i64 114] from (k37_mkM _ _ _ (⟨(⟨#[33]⟩ : ByteArray), 114⟩ : S37) )) (Reps.c2 (show Kd.M k37 _ _ _ (⟨(⟨#[119, 33]⟩ : ByteArray), 116⟩ : S37) [.string (⟨#[119, 33]⟩ : ByteArray), .int .i64 116] from (k37_mkM _ _ _ (⟨(⟨#[119, 33]⟩ : ByteArray), 116⟩ : S37) )) (Reps.c2 (show Kd.M k37 _ _ _ (⟨(⟨#[99, 33]⟩ : ByteArray), 117⟩ : S37) [.string (⟨#[99, 33]⟩ : ByteArray), .int .i64 117] from (k37_mkM _ _ _ (⟨(⟨#[99, 33]⟩ : ByteArray), 117⟩ : S37) )) (Reps.c2 (show Kd.M k37 _ _ _ (⟨(⟨#[109, 111, 118, 101]⟩ : ByteArray), 120⟩ : S37) [.string (⟨#[109, 111, 118, 101]⟩ : ByteArray), .int .i64 120] from (k37_mkM _ _ _ (⟨(⟨#[109, 111, 118, 101]⟩ : ByteArray), 120⟩ : S37) )) (Reps.c2 (show Kd.M k37 _ _ _ (⟨(⟨#[102, 105, 108, 108]⟩ : ByteArray), 121⟩ : S37) [.string (⟨#[102, 105, 108, 108]⟩ : ByteArray), .int .i64 121] from (k37_mkM _ _ _ (⟨(⟨#[102, 105, 108, 108]⟩ : ByteArray), 121⟩ : S37) )) (Reps.c2 (show Kd.M k37 _ _ _ (⟨(⟨#[99, 111, 109, 112]⟩ : ByteArray), 122⟩ : S37) [.string (⟨#[99, 111, 109, 112]⟩ : ByteArray), .int .i64 122] from (k37_mkM _ _ _ (⟨(⟨#[99, 111, 109, 112]⟩ : ByteArray), 122⟩ : S37) )) (Reps.c2 (show Kd.M k37 _ _ _ (⟨(⟨#[108, 98, 115, 112, 108, 105, 116]⟩ : ByteArray), 126⟩ : S37) [.string (⟨#[108, 98, 115, 112, 108, 105, 116]⟩ : ByteArray), .int .i64 126] from (k37_mkM _ _ _ (⟨(⟨#[108, 98, 115, 112, 108, 105, 116]⟩ : ByteArray), 126⟩ : S37) )) (Reps.c2 (show Kd.M k37 _ _ _ (⟨(⟨#[98, 108, 106, 111, 105, 110]⟩ : ByteArray), 127⟩ : S37) [.string (⟨#[98, 108, 106, 111, 105, 110]⟩ : ByteArray), .int .i64 127] from (k37_mkM _ _ _ (⟨(⟨#[98, 108, 106, 111, 105, 110]⟩ : ByteArray), 127⟩ : S37) )) (Reps.c2 (show Kd.M k37 _ _ _ (⟨(⟨#[119, 98, 102, 108, 105, 112]⟩ : ByteArray), 128⟩ : S37) [.string (⟨#[119, 98, 102, 108, 105, 112]⟩ : ByteArray), .int .i64 128] from (k37_mkM _ _ _ (⟨(⟨#[119, 98, 102, 108, 105, 112]⟩ : ByteArray), 128⟩ : S37) )) (Reps.c2 (show Kd.M k37 _ _ _ (⟨(⟨#[117, 112, 99]⟩ : ByteArray), 129⟩ : S37) [.string (⟨#[117, 112, 99]⟩ : ByteArray), .int .i64 129] from (k37_mkM _ _ _ (⟨(⟨#[117, 112, 99]⟩ : ByteArray), 129⟩ : S37) )) (Reps.c2 (show Kd.M k37 _ _ _ (⟨(⟨#[108, 99, 99]⟩ : ByteArray), 130⟩ : S37) [.string (⟨#[108, 99, 99]⟩ : ByteArray), .int .i64 130] from (k37_mkM _ _ _ (⟨(⟨#[108, 99, 99]⟩ : ByteArray), 130⟩ : S37) )) (Reps.c2 (show Kd.M k37 _ _ _ (⟨(⟨#[117, 110, 108, 111, 111, 112]⟩ : ByteArray), 137⟩ : S37) [.string (⟨#[117, 110, 108, 111, 111, 112]⟩ : ByteArray), .int .i64 137] from (k37_mkM _ _ _ (⟨(⟨#[117, 110, 108, 111, 111, 112]⟩ : ByteArray), 137⟩ : S37) )) (Reps.c2 (show Kd.M k37 _ _ _ (⟨(⟨#[97, 108, 108, 111, 99, 45, 109, 101, 109]⟩ : ByteArray), 139⟩ : S37) [.string (⟨#[97, 108, 108, 111, 99, 45, 109, 101, 109]⟩ : ByteArray), .int .i64 139] from (k37_mkM _ _ _ (⟨(⟨#[97, 108, 108, 111, 99, 45, 109, 101, 109]⟩ : ByteArray), 139⟩ : S37) )) (Reps.c2 (show Kd.M k37 _ _ _ (⟨(⟨#[101, 109, 105, 116]⟩ : ByteArray), 143⟩ : S37) [.string (⟨#[101, 109, 105, 116]⟩ : ByteArray), .int .i64 143] from (k37_mkM _ _ _ (⟨(⟨#[101, 109, 105, 116]⟩ : ByteArray), 143⟩ : S37) )) (Reps.c2 (show Kd.M k37 _ _ _ (⟨(⟨#[116, 121, 112, 101]⟩ : ByteArray), 144⟩ : S37) [.string (⟨#[116, 121, 112, 101]⟩ : ByteArray), .int .i64 144] from (k37_mkM _ _ _ (⟨(⟨#[116, 121, 112, 101]⟩ : ByteArray), 144⟩ : S37) )) (Reps.c2 (show Kd.M k37 _ _ _ (⟨(⟨#[99, 114]⟩ : ByteArray), 146⟩ : S37) [.string (⟨#[99, 114]⟩ : ByteArray), .int .i64 146] from (k37_mkM _ _ _ (⟨(⟨#[99, 114]⟩ : ByteArray), 146⟩ : S37) )) (Reps.c2 (show Kd.M k37 _ _ _ (⟨(⟨#[117, 46]⟩ : ByteArray), 155⟩ : S37) [.string (⟨#[117, 46]⟩ : ByteArray), .int .i64 155] from (k37_mkM _ _ _ (⟨(⟨#[117, 46]⟩ : ByteArray), 155⟩ : S37) )) (Reps.c2 (show Kd.M k37 _ _ _ (⟨(⟨#[46]⟩ : ByteArray), 157⟩ : S37) [.string (⟨#[46]⟩ : ByteArray), .int .i64 157] from (k37_mkM _ _ _ (⟨(⟨#[46]⟩ : ByteArray), 157⟩ : S37) )) (Reps.c2 (show Kd.M k37 _ _ _ (⟨(⟨#[98, 97, 115, 101, 33]⟩ : ByteArray), 160⟩ : S37) [.string (⟨#[98, 97, 115, 101, 33]⟩ : ByteArray), .int .i64 160] from (k37_mkM _ _ _ (⟨(⟨#[98, 97, 115, 101, 33]⟩ : ByteArray), 160⟩ : S37) )) (Reps.c2 (show Kd.M k37 _ _ _ (⟨(⟨#[45, 49]⟩ : ByteArray), 164⟩ : S37) [.string (⟨#[45, 49]⟩ : ByteArray), .int .i64 164] from (k37_mkM _ _ _ (⟨(⟨#[45, 49]⟩ : ByteArray), 164⟩ : S37) )) (Reps.c2 (show Kd.M k37 _ _ _ (⟨(⟨#[48]⟩ : ByteArray), 165⟩ : S37) [.string (⟨#[48]⟩ : ByteArray), .int .i64 165] from (k37_mkM _ _ _ (⟨(⟨#[48]⟩ : ByteArray), 165⟩ : S37) )) (Reps.c2 (show Kd.M k37 _ _ _ (⟨(⟨#[49]⟩ : ByteArray), 166⟩ : S37) [.string (⟨#[49]⟩ : ByteArray), .int .i64 166] from (k37_mkM _ _ _ (⟨(⟨#[49]⟩ : ByteArray), 166⟩ : S37) )) (Reps.c2 (show Kd.M k37 _ _ _ (⟨(⟨#[50]⟩ : ByteArray), 167⟩ : S37) [.string (⟨#[50]⟩ : ByteArray), .int .i64 167] from (k37_mkM _ _ _ (⟨(⟨#[50]⟩ : ByteArray), 167⟩ : S37) )) (Reps.c2 (show Kd.M k37 _ _ _ (⟨(⟨#[51]⟩ : ByteArray), 168⟩ : S37) [.string (⟨#[51]⟩ : ByteArray), .int .i64 168] from (k37_mkM _ _ _ (⟨(⟨#[51]⟩ : ByteArray), 168⟩ : S37) )) (Reps.c2 (show Kd.M k37 _ _ _ (⟨(⟨#[98, 108]⟩ : ByteArray), 169⟩ : S37) [.string (⟨#[98, 108]⟩ : ByteArray), .int .i64 169] from (k37_mkM _ _ _ (⟨(⟨#[98, 108]⟩ : ByteArray), 169⟩ : S37) )) (Reps.c2 (show Kd.M k37 _ _ _ (⟨(⟨#[104, 101, 114, 101]⟩ : ByteArray), 173⟩ : S37) [.string (⟨#[104, 101, 114, 101]⟩ : ByteArray), .int .i64 173] from (k37_mkM _ _ _ (⟨(⟨#[104, 101, 114, 101]⟩ : ByteArray), 173⟩ : S37) )) (Reps.c2 (show Kd.M k37 _ _ _ (⟨(⟨#[117, 109, 42]⟩ : ByteArray), 212⟩ : S37) [.string (⟨#[117, 109, 42]⟩ : ByteArray), .int .i64 212] from (k37_mkM _ _ _ (⟨(⟨#[117, 109, 42]⟩ : ByteArray), 212⟩ : S37) )) (Reps.c2 (show Kd.M k37 _ _ _ (⟨(⟨#[117, 109, 47, 109, 111, 100]⟩ : ByteArray), 213⟩ : S37) [.string (⟨#[117, 109, 47, 109, 111, 100]⟩ : ByteArray), .int .i64 213] from (k37_mkM _ _ _ (⟨(⟨#[117, 109, 47, 109, 111, 100]⟩ : ByteArray), 213⟩ : S37) )) (Reps.c2 (show Kd.M k37 _ _ _ (⟨(⟨#[100, 43]⟩ : ByteArray), 216⟩ : S37) [.string (⟨#[100, 43]⟩ : ByteArray), .int .i64 216] from (k37_mkM _ _ _ (⟨(⟨#[100, 43]⟩ : ByteArray), 216⟩ : S37) )) (Reps.c2 (show Kd.M k37 _ _ _ (⟨(⟨#[100, 45]⟩ : ByteArray), 217⟩ : S37) [.string (⟨#[100, 45]⟩ : ByteArray), .int .i64 217] from (k37_mkM _ _ _ (⟨(⟨#[100, 45]⟩ : ByteArray), 217⟩ : S37) )) (Reps.c2 (show Kd.M k37 _ _ _ (⟨(⟨#[112, 114, 111, 112, 101, 114, 116, 121]⟩ : ByteArray), 272⟩ : S37) [.string (⟨#[112, 114, 111, 112, 101, 114, 116, 121]⟩ : ByteArray), .int .i64 272] from (k37_mkM _ _ _ (⟨(⟨#[112, 114, 111, 112, 101, 114, 116, 121]⟩ : ByteArray), 272⟩ : S37) )) (Reps.c2 (show Kd.M k37 _ _ _ (⟨(⟨#[101, 110, 99, 111, 100, 101, 45, 105, 110, 116]⟩ : ByteArray), 273⟩ : S37) [.string (⟨#[101, 110, 99, 111, 100, 101, 45, 105, 110, 116]⟩ : ByteArray), .int .i64 273] from (k37_mkM _ _ _ (⟨(⟨#[101, 110, 99, 111, 100, 101, 45, 105, 110, 116]⟩ : ByteArray), 273⟩ : S37) )) (Reps.c2 (show Kd.M k37 _ _ _ (⟨(⟨#[101, 110, 99, 111, 100, 101, 43]⟩ : ByteArray), 274⟩ : S37) [.string (⟨#[101, 110, 99, 111, 100, 101, 43]⟩ : ByteArray), .int .i64 274] from (k37_mkM _ _ _ (⟨(⟨#[101, 110, 99, 111, 100, 101, 43]⟩ : ByteArray), 274⟩ : S37) )) (Reps.c2 (show Kd.M k37 _ _ _ (⟨(⟨#[101, 110, 99, 111, 100, 101, 45, 115, 116, 114, 105, 110, 103]⟩ : ByteArray), 276⟩ : S37) [.string (⟨#[101, 110, 99, 111, 100, 101, 45, 115, 116, 114, 105, 110, 103]⟩ : ByteArray), .int .i64 276] from (k37_mkM _ _ _ (⟨(⟨#[101, 110, 99, 111, 100, 101, 45, 115, 116, 114, 105, 110, 103]⟩ : ByteArray), 276⟩ : S37) )) (Reps.c2 (show Kd.M k37 _ _ _ (⟨(⟨#[110, 101, 119, 45, 100, 101, 118, 105, 99, 101]⟩ : ByteArray), 287⟩ : S37) [.string (⟨#[110, 101, 119, 45, 100, 101, 118, 105, 99, 101]⟩ : ByteArray), .int .i64 287] from (k37_mkM _ _ _ (⟨(⟨#[110, 101, 119, 45, 100, 101, 118, 105, 99, 101]⟩ : ByteArray), 287⟩ : S37) )) (Reps.c2 (show Kd.M k37 _ _ _ (⟨(⟨#[102, 105, 110, 105, 115, 104, 45, 100, 101, 118, 105, 99, 101]⟩ : ByteArray), 295⟩ : S37) [.string (⟨#[102, 105, 110, 105, 115, 104, 45, 100, 101, 118, 105, 99, 101]⟩ : ByteArray), .int .i64 295] from (k37_mkM _ _ _ (⟨(⟨#[102, 105, 110, 105, 115, 104, 45, 100, 101, 118, 105, 99, 101]⟩ : ByteArray), 295⟩ : S37) )) (Reps.c2 (show Kd.M k37 _ _ _ (⟨(⟨#[115, 109, 47, 114, 101, 109]⟩ : ByteArray), 469⟩ : S37) [.string (⟨#[115, 109, 47, 114, 101, 109]⟩ : ByteArray), .int .i64 469] from (k37_mkM _ _ _ (⟨(⟨#[115, 109, 47, 114, 101, 109]⟩ : ByteArray), 469⟩ : S37) )) (Reps.c2 (show Kd.M k37 _ _ _ (⟨(⟨#[109, 121, 45, 115, 101, 108, 102]⟩ : ByteArray), 515⟩ : S37) [.string (⟨#[109, 121, 45, 115, 101, 108, 102]⟩ : ByteArray), .int .i64 515] from (k37_mkM _ _ _ (⟨(⟨#[109, 121, 45, 115, 101, 108, 102]⟩ : ByteArray), 515⟩ : S37) )) (Reps.c2 (show Kd.M k37 _ _ _ (⟨(⟨#[109, 121, 45, 112, 97, 114, 101, 110, 116]⟩ : ByteArray), 522⟩ : S37) [.string (⟨#[109, 121, 45, 112, 97, 114, 101, 110, 116]⟩ : ByteArray), .int .i64 522] from (k37_mkM _ _ _ (⟨(⟨#[109, 121, 45, 112, 97, 114, 101, 110, 116]⟩ : ByteArray), 522⟩ : S37) )) (Reps.c2 (show Kd.M k37 _ _ _ (⟨(⟨#[36, 99, 97, 108, 108, 45, 109, 101, 116, 104, 111, 100]⟩ : ByteArray), 526⟩ : S37) [.string (⟨#[36, 99, 97, 108, 108, 45, 109, 101, 116, 104, 111, 100]⟩ : ByteArray), .int .i64 526] from (k37_mkM _ _ _ (⟨(⟨#[36, 99, 97, 108, 108, 45, 109, 101, 116, 104, 111, 100]⟩ : ByteArray), 526⟩ : S37) )) (Reps.c2 (show Kd.M k37 _ _ _ (⟨(⟨#[99, 97, 116, 99, 104]⟩ : ByteArray), 535⟩ : S37) [.string (⟨#[99, 97, 116, 99, 104]⟩ : ByteArray), .int .i64 535] from (k37_mkM _ _ _ (⟨(⟨#[99, 97, 116, 99, 104]⟩ : ByteArray), 535⟩ : S37) )) (Reps.c2 (show Kd.M k37 _ _ _ (⟨(⟨#[116, 104, 114, 111, 119]⟩ : ByteArray), 536⟩ : S37) [.string (⟨#[116, 104, 114, 111, 119]⟩ : ByteArray), .int .i64 536] from (k37_mkM _ _ _ (⟨(⟨#[116, 104, 114, 111, 119]⟩ : ByteArray), 536⟩ : S37) )) (Reps.c2 (show Kd.M k37 _ _ _ (⟨(⟨#[103, 101, 116, 45, 109, 121, 45, 112, 114, 111, 112, 101, 114, 116, 121]⟩ : ByteArray), 538⟩ : S37) [.string (⟨#[103, 101, 116, 45, 109, 121, 45, 112, 114, 111, 112, 101, 114, 116, 121]⟩ : ByteArray), .int .i64 538] from (k37_mkM _ _ _ (⟨(⟨#[103, 101, 116, 45, 109, 121, 45, 112, 114, 111, 112, 101, 114, 116, 121]⟩ : ByteArray), 538⟩ : S37) )) (Reps.c2 (show Kd.M k37 _ _ _ (⟨(⟨#[100, 101, 99, 111, 100, 101, 45, 105, 110, 116]⟩ : ByteArray), 539⟩ : S37) [.string (⟨#[100, 101, 99, 111, 100, 101, 45, 105, 110, 116]⟩ : ByteArray), .int .i64 539] from (k37_mkM _ _ _ (⟨(⟨#[100, 101, 99, 111, 100, 101, 45, 105, 110, 116]⟩ : ByteArray), 539⟩ : S37) )) (Reps.c2 (show Kd.M k37 _ _ _ (⟨(⟨#[100, 101, 99, 111, 100, 101, 45, 115, 116, 114, 105, 110, 103]⟩ : ByteArray), 540⟩ : S37) [.string (⟨#[100, 101, 99, 111, 100, 101, 45, 115, 116, 114, 105, 110, 103]⟩ : ByteArray), .int .i64 540] from (k37_mkM _ _ _ (⟨(⟨#[100, 101, 99, 111, 100, 101, 45, 115, 116, 114, 105, 110, 103]⟩ : ByteArray), 540⟩ : S37) )) (Reps.c2 (show Kd.M k37 _ _ _ (⟨(⟨#[100, 101, 108, 101, 116, 101, 45, 112, 114, 111, 112, 101, 114, 116, 121]⟩ : ByteArray), 542⟩ : S37) [.string (⟨#[100, 101, 108, 101, 116, 101, 45, 112, 114, 111, 112, 101, 114, 116, 121]⟩ : ByteArray), .int .i64 542] from (k37_mkM _ _ _ (⟨(⟨#[100, 101, 108, 101, 116, 101, 45, 112, 114, 111, 112, 101, 114, 116, 121]⟩ : ByteArray), 542⟩ : S37) )) (Reps.c2 (show Kd.M k37 _ _ _ (⟨(⟨#[102, 109, 47, 109, 111, 100]⟩ : ByteArray), 725⟩ : S37) [.string (⟨#[102, 109, 47, 109, 111, 100]⟩ : ByteArray), .int .i64 725] from (k37_mkM _ _ _ (⟨(⟨#[102, 109, 47, 109, 111, 100]⟩ : ByteArray), 725⟩ : S37) )) (Reps.none _ _))))))))))))))))))))))))))))))))))))))))))))))))))))))))))))))))))))))))))))))))))))))))))))))))))))))))))))))))); intro v16002 w1 ho2 hb hg_ hnew_; clear hg_ hnew_; (first | rw [← Ny16001.out] at ho2 | (simp only [Int.reduceToNat] at ho2; rw [← Ny16001.out] at ho2)); have n0_ := Aside0.mk (Kd.R_lower ho2 (below_size (by repeat (first | (with_reducible first | exact HB.out | apply below_alloc | apply pw_below_drewN | apply below_drew1) | exact HB.out)))); have n1_ := Aside0.mk (below_step (by repeat (first | (with_reducible first | exact HB.out | apply below_alloc | apply pw_below_drewN | apply below_drew1) | exact HB.out)) hb); clear HB; have HO16003 := n0_; have HB := n1_; clear n0_ n1_; clear hb ho2))
  go_ret
  exact ⟨_, by first | rfl | (simp [errW_none, errW_some] <;> rfl) | (simp [*, errW_none, errW_some] <;> rfl), by (with_reducible repeat (first | apply Kd.R_alloc | apply Kd.R_drewN | apply Kd.R_drew)); exact HO16003.out, by repeat (first | (with_reducible first | exact HB.out | apply below_alloc | apply pw_below_drewN | apply below_drew1) | exact HB.out)⟩

end Go.Proofs.Ytfpkakedlapmkaa.Q
end
section
namespace Go.Proofs.Ytfpkakedlapmkaa.Q
open Go.RowKit Go.Proofs.YtfpkakedlapmkaaW.PrintWords Go.Proofs.YtfpkakedlapmkaaW.PrintLast Go.Proofs.YtfpkakedlapmkaaW.PrintMore
set_option linter.unusedVariables false
set_option linter.unusedSimpArgs false

attribute [local go_sem] max2_int min2_int max_two min_two max_three min_three max_four min_four
/-! ### tinderref09_Code: function 25 -/
def tinderref09_Code.l0 : Nat → Int → List (S37) → Int → Option (Int × Bool)
  | 0, _, _, _ => none
  | k + 1, x1, x6, x7 => if x7 < (x6.length : Int) then (if 0 ≤ x7 then (if ((rd_T37 x6 x7).f1) = x1 then (some (x7, true)) else (tinderref09_Code.l0 k x1 x6 (wrap64 (x7 + 1)))) else (none)) else (some (0, false))
def tinderref09_Code.f (k : Nat) (l0_0 : List Int) (l0_1 : List Int) (l0_2 : List (S51)) (l0_3 : List Int) (a0_4 : Int) (l0_5 : List (S91)) (a0_6 : Int) (l0_7 : List (S82)) (a0_8 : Int) (a0_9 : ByteArray) (a1 : Int) : Option (Int × Bool) := if a1 ≥ 2048 then (if (wrap64 (a1 - 2048)) < (l0_3.length : Int) then (if 0 ≤ (wrap64 (a1 - 2048)) then (if (rd l0_3 (wrap64 (a1 - 2048))) = (-1) then (some (0, false)) else (some (rd l0_3 (wrap64 (a1 - 2048)), true))) else (none)) else (some (0, false))) else ((tinderref09_Prims.f).bind fun t26004 => (tinderref09_Code.l0 k a1 t26004 0))
set_option maxHeartbeats 8000000 in
set_option maxRecDepth 100000 in
theorem tinderref09_Code.calls (k : Nat) (A0_0 : Option Addr) (c0_0 : Nat) (l0_0 : List Int) (A0_1 : Option Addr) (c0_1 : Nat) (l0_1 : List Int) (A0_2 : Option Addr) (c0_2 : Nat) (l0_2 : List (S51)) (A0_3 : Option Addr) (c0_3 : Nat) (l0_3 : List Int) (a0_4 : Int) (A0_5 : Option Addr) (c0_5 : Nat) (l0_5 : List (S91)) (a0_6 : Int) (A0_7 : Option Addr) (c0_7 : Nat) (l0_7 : List (S82)) (a0_8 : Int) (a0_9 : ByteArray) (a1 : Int) (r1 : Int) (r2 : Bool) (w : World) (hr0_0 : Kd.C (Kd.int .u32) w A0_0 l0_0.length l0_0) (hc0_0 : l0_0.length ≤ c0_0) (hr0_1 : Kd.C (Kd.int .u8) w A0_1 l0_1.length l0_1) (hc0_1 : l0_1.length ≤ c0_1) (hr0_2 : Kd.C k51 w A0_2 l0_2.length l0_2) (hc0_2 : l0_2.length ≤ c0_2) (hr0_3 : Kd.C (Kd.int .i64) w A0_3 l0_3.length l0_3) (hc0_3 : l0_3.length ≤ c0_3) (hr0_5 : Kd.C k91 w A0_5 l0_5.length l0_5) (hc0_5 : l0_5.length ≤ c0_5) (hr0_7 : Kd.C k82 w A0_7 l0_7.length l0_7) (hc0_7 : l0_7.length ≤ c0_7) (h : tinderref09_Code.f k l0_0 l0_1 l0_2 l0_3 a0_4 l0_5 a0_6 l0_7 a0_8 a0_9 a1 = some (r1, r2)) :
    Calls Try.prog 25 #[.agg #[.slice A0_0 l0_0.length c0_0, .slice A0_1 l0_1.length c0_1, .slice A0_2 l0_2.length c0_2, .slice A0_3 l0_3.length c0_3, .int .u32 a0_4, .slice A0_5 l0_5.length c0_5, .int .i64 a0_6, .slice A0_7 l0_7.length c0_7, .int .i64 a0_8, .string a0_9], .int .i64 a1] w fun e w' => e = .returned (.tuple #[.int .i64 r1, .bool r2]) ∧ Below w.heap.size w w' := by
  have hu32 := Try.underlying32
  have HR0_0 := Aside0.mk hr0_0
  have HC0_0 := Aside0.mk hc0_0
  clear hr0_0 hc0_0
  have HR0_1 := Aside0.mk hr0_1
  have HC0_1 := Aside0.mk hc0_1
  clear hr0_1 hc0_1
  have HR0_2 := Aside0.mk hr0_2
  have HC0_2 := Aside0.mk hc0_2
  clear hr0_2 hc0_2
  have HR0_3 := Aside0.mk hr0_3
  have HC0_3 := Aside0.mk hc0_3
  clear hr0_3 hc0_3
  have HR0_5 := Aside0.mk hr0_5
  have HC0_5 := Aside0.mk hc0_5
  clear hr0_5 hc0_5
  have HR0_7 := Aside0.mk hr0_7
  have HC0_7 := Aside0.mk hc0_7
  clear hr0_7 hc0_7
  have HB := Aside0.mk (Below.refl w.heap.size w)
  have H : (if a1 ≥ 2048 then (if (wrap64 (a1 - 2048)) < (l0_3.length : Int) then (if 0 ≤ (wrap64 (a1 - 2048)) then (if (rd l0_3 (wrap64 (a1 - 2048))) = (-1) then (some (0, false)) else (some (rd l0_3 (wrap64 (a1 - 2048)), true))) else (none)) else (some (0, false))) else ((tinderref09_Prims.f).bind fun t26004 => (tinderref09_Code.l0 k a1 t26004 0))) = some (r1, r2) := h
  clear h
  by_cases c3 : a1 ≥ 2048
  · rw [if_pos c3] at H
    have c3b0 : decide (2048 ≤ a1) = true := decide_eq_true c3
    clear c3
    by_cases c4 : (wrap64 (a1 - 2048)) < (l0_3.length : Int)
    · rw [if_pos c4] at H
      have c4b0 : decide ((wrap64 (a1 - 2048)) < (l0_3.length : Int)) = true := decide_eq_true c4
      clear c4
      obtain ⟨ji5, hji5⟩ : ∃ j_ : Int, (wrap64 (a1 - 2048)) = j_ := ⟨_, rfl⟩
      replace H : (if 0 ≤ (ji5) then (if (rd l0_3 (ji5)) = (-1) then (some (0, false)) else (some (rd l0_3 (ji5), true))) else (none)) = some (r1, r2) := by first | (rw [hji5] at H; exact H) | (simp only [hji5] at H ⊢; exact H)
      (try rw [hji5] at c4b0)
      have hji5w : (IntKind.i64.wrap (a1 - 2048)) = ji5 := (i64_w _).trans hji5
      by_cases c6 : 0 ≤ (ji5)
      · rw [if_pos c6] at H
        have c6b0 : decide (0 ≤ (ji5)) = true := decide_eq_true c6
        clear c6
        by_cases c7 : (rd l0_3 (ji5)) = (-1)
        · rw [if_pos c7] at H
          have c7b0 : ((rd l0_3 (ji5)) == (-1)) = true := beq_iff_eq.mpr c7
          have c7b1 : ((rd l0_3 (ji5)) != (-1)) = false := bne_eq_false_iff_eq.mpr c7
          clear c7
          simp only [Option.some.injEq, Prod.mk.injEq] at H
          obtain ⟨rfl, rfl⟩ := H
          go_enter Try.func25, Try.ntmps25
          go_wp2_with (first | ((with_reducible refine gate_dst (N := 2) rfl ?_); refine box_event ?hg (N := 2) ?hd (cs := #[.slice A0_0 l0_0.length c0_0, .slice A0_1 l0_1.length c0_1, .slice A0_2 l0_2.length c0_2, .slice A0_3 l0_3.length c0_3, .int .u32 a0_4, .slice A0_5 l0_5.length c0_5, .int .i64 a0_6, .slice A0_7 l0_7.length c0_7, .int .i64 a0_8, .string a0_9]) (t := 32) ?hr ?_; (case hd => rfl); (case hg => rfl); (case hr => first | (go_simp; done) | (go_simp; rfl)); intro gb26001 hg w8 hbox hb; have n0_ := Aside0.mk (below_step (by repeat (first | (with_reducible first | exact HB.out | apply below_alloc | apply pw_below_drewN | apply below_drew1) | exact HB.out)) hb); have n1_ := Aside0.mk (hbox); have n2_ := Aside0.mk ((by rw [hg]; exact (below_size (by repeat (first | (with_reducible first | exact HB.out | apply below_alloc | apply pw_below_drewN | apply below_drew1) | exact HB.out))) : w.heap.size ≤ gb26001)); have n3_ := Aside0.mk ((by rw [hg]; exact (below_size (by repeat (first | (with_reducible first | exact HB.out | apply below_alloc | apply pw_below_drewN | apply below_drew1) | exact HB.out))) : w.heap.size ≤ gb26001)); clear HB; have HB := n0_; have BK26001 := n1_; have GW26001 := n2_; have GE26001 := n3_; clear n0_ n1_ n2_ n3_; clear hb hbox hg; have hcz9_0 : w8.cell? ⟨gb26001, 0, none⟩ = some (.slice A0_0 l0_0.length c0_0) := (blk_cell BK26001.out 0).trans rfl; have hcz9_1 : w8.cell? ⟨gb26001, 1, none⟩ = some (.slice A0_1 l0_1.length c0_1) := (blk_cell BK26001.out 1).trans rfl; have hcz9_2 : w8.cell? ⟨gb26001, 2, none⟩ = some (.slice A0_2 l0_2.length c0_2) := (blk_cell BK26001.out 2).trans rfl; have hcz9_3 : w8.cell? ⟨gb26001, 3, none⟩ = some (.slice A0_3 l0_3.length c0_3) := (blk_cell BK26001.out 3).trans rfl; have hcz9_4 : w8.cell? ⟨gb26001, 4, none⟩ = some (.int .u32 a0_4) := (blk_cell BK26001.out 4).trans rfl; have hcz9_5 : w8.cell? ⟨gb26001, 5, none⟩ = some (.slice A0_5 l0_5.length c0_5) := (blk_cell BK26001.out 5).trans rfl; have hcz9_6 : w8.cell? ⟨gb26001, 6, none⟩ = some (.int .i64 a0_6) := (blk_cell BK26001.out 6).trans rfl; have hcz9_7 : w8.cell? ⟨gb26001, 7, none⟩ = some (.slice A0_7 l0_7.length c0_7) := (blk_cell BK26001.out 7).trans rfl; have hcz9_8 : w8.cell? ⟨gb26001, 8, none⟩ = some (.int .i64 a0_8) := (blk_cell BK26001.out 8).trans rfl; have hcz9_9 : w8.cell? ⟨gb26001, 9, none⟩ = some (.string a0_9) := (blk_cell BK26001.out 9).trans rfl; have hfz9_0 := blk_frozen BK26001.out 0; have hfz9_1 := blk_frozen BK26001.out 1; have hfz9_2 := blk_frozen BK26001.out 2; have hfz9_3 := blk_frozen BK26001.out 3; have hfz9_4 := blk_frozen BK26001.out 4; have hfz9_5 := blk_frozen BK26001.out 5; have hfz9_6 := blk_frozen BK26001.out 6; have hfz9_7 := blk_frozen BK26001.out 7; have hfz9_8 := blk_frozen BK26001.out 8; have hfz9_9 := blk_frozen BK26001.out 9; have p26002 : 0 ≤ ((ji5) : Int) := of_decide_eq_true (by first | (with_reducible assumption) | assumption); have q26002 : (ji5) < (l0_3.length : Int) := of_decide_eq_true (by first | (with_reducible assumption) | assumption); obtain ⟨ad26002, e26002, hx26002_0⟩ := Kd.at_int HR0_3.out (ji5) p26002 q26002; cases e26002; replace hx26002_0 := (HB.out.cell (World.block_lt_of_cell? w _ hx26002_0)).trans hx26002_0; replace p26002 := eq_true p26002; replace q26002 := eq_true q26002))
          go_ret2
          exact ⟨by first | rfl | (simp [errW_none, errW_some] <;> rfl) | (simp only [← hji5]; first | rfl | (simp [errW_none, errW_some] <;> rfl)) | (simp [*, errW_none, errW_some] <;> rfl), by repeat (first | (with_reducible first | exact HB.out | apply below_alloc | apply pw_below_drewN | apply below_drew1 | refine below_set ?_ GE26001.out) | exact HB.out)⟩
        · rw [if_neg c7] at H
          have c7b0 : ((rd l0_3 (ji5)) == (-1)) = false := beq_eq_false_iff_ne.mpr c7
          have c7b1 : ((rd l0_3 (ji5)) != (-1)) = true := bne_iff_ne.mpr c7
          simp only [Option.some.injEq, Prod.mk.injEq] at H
          obtain ⟨rfl, rfl⟩ := H
          go_enter Try.func25, Try.ntmps25
          go_wp2_with (first | ((with_reducible refine gate_dst (N := 2) rfl ?_); refine box_event ?hg (N := 2) ?hd (cs := #[.slice A0_0 l0_0.length c0_0, .slice A0_1 l0_1.length c0_1, .slice A0_2 l0_2.length c0_2, .slice A0_3 l0_3.length c0_3, .int .u32 a0_4, .slice A0_5 l0_5.length c0_5, .int .i64 a0_6, .slice A0_7 l0_7.length c0_7, .int .i64 a0_8, .string a0_9]) (t := 32) ?hr ?_; (case hd => rfl); (case hg => rfl); (case hr => first | (go_simp; done) | (go_simp; rfl)); intro gb26001 hg w10 hbox hb; have n0_ := Aside0.mk (below_step (by repeat (first | (with_reducible first | exact HB.out | apply below_alloc | apply pw_below_drewN | apply below_drew1) | exact HB.out)) hb); have n1_ := Aside0.mk (hbox); have n2_ := Aside0.mk ((by rw [hg]; exact (below_size (by repeat (first | (with_reducible first | exact HB.out | apply below_alloc | apply pw_below_drewN | apply below_drew1) | exact HB.out))) : w.heap.size ≤ gb26001)); have n3_ := Aside0.mk ((by rw [hg]; exact (below_size (by repeat (first | (with_reducible first | exact HB.out | apply below_alloc | apply pw_below_drewN | apply below_drew1) | exact HB.out))) : w.heap.size ≤ gb26001)); clear HB; have HB := n0_; have BK26001 := n1_; have GW26001 := n2_; have GE26001 := n3_; clear n0_ n1_ n2_ n3_; clear hb hbox hg; have hcz11_0 : w10.cell? ⟨gb26001, 0, none⟩ = some (.slice A0_0 l0_0.length c0_0) := (blk_cell BK26001.out 0).trans rfl; have hcz11_1 : w10.cell? ⟨gb26001, 1, none⟩ = some (.slice A0_1 l0_1.length c0_1) := (blk_cell BK26001.out 1).trans rfl; have hcz11_2 : w10.cell? ⟨gb26001, 2, none⟩ = some (.slice A0_2 l0_2.length c0_2) := (blk_cell BK26001.out 2).trans rfl; have hcz11_3 : w10.cell? ⟨gb26001, 3, none⟩ = some (.slice A0_3 l0_3.length c0_3) := (blk_cell BK26001.out 3).trans rfl; have hcz11_4 : w10.cell? ⟨gb26001, 4, none⟩ = some (.int .u32 a0_4) := (blk_cell BK26001.out 4).trans rfl; have hcz11_5 : w10.cell? ⟨gb26001, 5, none⟩ = some (.slice A0_5 l0_5.length c0_5) := (blk_cell BK26001.out 5).trans rfl; have hcz11_6 : w10.cell? ⟨gb26001, 6, none⟩ = some (.int .i64 a0_6) := (blk_cell BK26001.out 6).trans rfl; have hcz11_7 : w10.cell? ⟨gb26001, 7, none⟩ = some (.slice A0_7 l0_7.length c0_7) := (blk_cell BK26001.out 7).trans rfl; have hcz11_8 : w10.cell? ⟨gb26001, 8, none⟩ = some (.int .i64 a0_8) := (blk_cell BK26001.out 8).trans rfl; have hcz11_9 : w10.cell? ⟨gb26001, 9, none⟩ = some (.string a0_9) := (blk_cell BK26001.out 9).trans rfl; have hfz11_0 := blk_frozen BK26001.out 0; have hfz11_1 := blk_frozen BK26001.out 1; have hfz11_2 := blk_frozen BK26001.out 2; have hfz11_3 := blk_frozen BK26001.out 3; have hfz11_4 := blk_frozen BK26001.out 4; have hfz11_5 := blk_frozen BK26001.out 5; have hfz11_6 := blk_frozen BK26001.out 6; have hfz11_7 := blk_frozen BK26001.out 7; have hfz11_8 := blk_frozen BK26001.out 8; have hfz11_9 := blk_frozen BK26001.out 9; have p26002 : 0 ≤ ((ji5) : Int) := of_decide_eq_true (by first | (with_reducible assumption) | assumption); have q26002 : (ji5) < (l0_3.length : Int) := of_decide_eq_true (by first | (with_reducible assumption) | assumption); obtain ⟨ad26002, e26002, hx26002_0⟩ := Kd.at_int HR0_3.out (ji5) p26002 q26002; cases e26002; replace hx26002_0 := (HB.out.cell (World.block_lt_of_cell? w _ hx26002_0)).trans hx26002_0; replace p26002 := eq_true p26002; replace q26002 := eq_true q26002; have p26003 : 0 ≤ ((ji5) : Int) := of_decide_eq_true (by first | (with_reducible assumption) | assumption); have q26003 : (ji5) < (l0_3.length : Int) := of_decide_eq_true (by first | (with_reducible assumption) | assumption); obtain ⟨ad26003, e26003, hx26003_0⟩ := Kd.at_int HR0_3.out (ji5) p26003 q26003; obtain rfl : ad26002 = ad26003 := (by injection e26003); replace hx26003_0 := (HB.out.cell (World.block_lt_of_cell? w _ hx26003_0)).trans hx26003_0; replace p26003 := eq_true p26003; replace q26003 := eq_true q26003))
          go_ret2
          exact ⟨by first | rfl | (simp [errW_none, errW_some] <;> rfl) | (simp only [← hji5]; first | rfl | (simp [errW_none, errW_some] <;> rfl)) | (simp [*, errW_none, errW_some] <;> rfl), by repeat (first | (with_reducible first | exact HB.out | apply below_alloc | apply pw_below_drewN | apply below_drew1 | refine below_set ?_ GE26001.out) | exact HB.out)⟩
      · rw [if_neg c6] at H
        exact absurd H (by simp)
    · rw [if_neg c4] at H
      have c4b0 : decide ((wrap64 (a1 - 2048)) < (l0_3.length : Int)) = false := decide_eq_false c4
      clear c4
      simp only [Option.some.injEq, Prod.mk.injEq] at H
      obtain ⟨rfl, rfl⟩ := H
      go_enter Try.func25, Try.ntmps25
      go_wp2_with (first | ((with_reducible refine gate_dst (N := 2) rfl ?_); refine box_event ?hg (N := 2) ?hd (cs := #[.slice A0_0 l0_0.length c0_0, .slice A0_1 l0_1.length c0_1, .slice A0_2 l0_2.length c0_2, .slice A0_3 l0_3.length c0_3, .int .u32 a0_4, .slice A0_5 l0_5.length c0_5, .int .i64 a0_6, .slice A0_7 l0_7.length c0_7, .int .i64 a0_8, .string a0_9]) (t := 32) ?hr ?_; (case hd => rfl); (case hg => rfl); (case hr => first | (go_simp; done) | (go_simp; rfl)); intro gb26001 hg w12 hbox hb; have n0_ := Aside0.mk (below_step (by repeat (first | (with_reducible first | exact HB.out | apply below_alloc | apply pw_below_drewN | apply below_drew1) | exact HB.out)) hb); have n1_ := Aside0.mk (hbox); have n2_ := Aside0.mk ((by rw [hg]; exact (below_size (by repeat (first | (with_reducible first | exact HB.out | apply below_alloc | apply pw_below_drewN | apply below_drew1) | exact HB.out))) : w.heap.size ≤ gb26001)); have n3_ := Aside0.mk ((by rw [hg]; exact (below_size (by repeat (first | (with_reducible first | exact HB.out | apply below_alloc | apply pw_below_drewN | apply below_drew1) | exact HB.out))) : w.heap.size ≤ gb26001)); clear HB; have HB := n0_; have BK26001 := n1_; have GW26001 := n2_; have GE26001 := n3_; clear n0_ n1_ n2_ n3_; clear hb hbox hg; have hcz13_0 : w12.cell? ⟨gb26001, 0, none⟩ = some (.slice A0_0 l0_0.length c0_0) := (blk_cell BK26001.out 0).trans rfl; have hcz13_1 : w12.cell? ⟨gb26001, 1, none⟩ = some (.slice A0_1 l0_1.length c0_1) := (blk_cell BK26001.out 1).trans rfl; have hcz13_2 : w12.cell? ⟨gb26001, 2, none⟩ = some (.slice A0_2 l0_2.length c0_2) := (blk_cell BK26001.out 2).trans rfl; have hcz13_3 : w12.cell? ⟨gb26001, 3, none⟩ = some (.slice A0_3 l0_3.length c0_3) := (blk_cell BK26001.out 3).trans rfl; have hcz13_4 : w12.cell? ⟨gb26001, 4, none⟩ = some (.int .u32 a0_4) := (blk_cell BK26001.out 4).trans rfl; have hcz13_5 : w12.cell? ⟨gb26001, 5, none⟩ = some (.slice A0_5 l0_5.length c0_5) := (blk_cell BK26001.out 5).trans rfl; have hcz13_6 : w12.cell? ⟨gb26001, 6, none⟩ = some (.int .i64 a0_6) := (blk_cell BK26001.out 6).trans rfl; have hcz13_7 : w12.cell? ⟨gb26001, 7, none⟩ = some (.slice A0_7 l0_7.length c0_7) := (blk_cell BK26001.out 7).trans rfl; have hcz13_8 : w12.cell? ⟨gb26001, 8, none⟩ = some (.int .i64 a0_8) := (blk_cell BK26001.out 8).trans rfl; have hcz13_9 : w12.cell? ⟨gb26001, 9, none⟩ = some (.string a0_9) := (blk_cell BK26001.out 9).trans rfl; have hfz13_0 := blk_frozen BK26001.out 0; have hfz13_1 := blk_frozen BK26001.out 1; have hfz13_2 := blk_frozen BK26001.out 2; have hfz13_3 := blk_frozen BK26001.out 3; have hfz13_4 := blk_frozen BK26001.out 4; have hfz13_5 := blk_frozen BK26001.out 5; have hfz13_6 := blk_frozen BK26001.out 6; have hfz13_7 := blk_frozen BK26001.out 7; have hfz13_8 := blk_frozen BK26001.out 8; have hfz13_9 := blk_frozen BK26001.out 9))
      go_ret2
      exact ⟨by first | rfl | (simp [errW_none, errW_some] <;> rfl) | (simp [*, errW_none, errW_some] <;> rfl), by repeat (first | (with_reducible first | exact HB.out | apply below_alloc | apply pw_below_drewN | apply below_drew1 | refine below_set ?_ GE26001.out) | exact HB.out)⟩
  · rw [if_neg c3] at H
    have c3b0 : decide (2048 ≤ a1) = false := decide_eq_false c3
    clear c3
    replace H := Option.bind_eq_some_iff.mp H
    obtain ⟨t26004, A140, H⟩ := H
    replace H : (tinderref09_Code.l0 k a1 t26004 0) = some (r1, r2) := H
    have A14 := Aside0.mk A140
    clear A140
    have H' := Aside0.mk H
    clear H
    go_enter Try.func25, Try.ntmps25
    go_wp2_with (first | ((with_reducible refine gate_dst (N := 2) rfl ?_); refine box_event ?hg (N := 2) ?hd (cs := #[.slice A0_0 l0_0.length c0_0, .slice A0_1 l0_1.length c0_1, .slice A0_2 l0_2.length c0_2, .slice A0_3 l0_3.length c0_3, .int .u32 a0_4, .slice A0_5 l0_5.length c0_5, .int .i64 a0_6, .slice A0_7 l0_7.length c0_7, .int .i64 a0_8, .string a0_9]) (t := 32) ?hr ?_; (case hd => rfl); (case hg => rfl); (case hr => first | (go_simp; done) | (go_simp; rfl)); intro gb26001 hg w15 hbox hb; have n0_ := Aside0.mk (below_step (by repeat (first | (with_reducible first | exact HB.out | apply below_alloc | apply pw_below_drewN | apply below_drew1) | exact HB.out)) hb); have n1_ := Aside0.mk (hbox); have n2_ := Aside0.mk ((by rw [hg]; exact (below_size (by repeat (first | (with_reducible first | exact HB.out | apply below_alloc | apply pw_below_drewN | apply below_drew1) | exact HB.out))) : w.heap.size ≤ gb26001)); have n3_ := Aside0.mk ((by rw [hg]; exact (below_size (by repeat (first | (with_reducible first | exact HB.out | apply below_alloc | apply pw_below_drewN | apply below_drew1) | exact HB.out))) : w.heap.size ≤ gb26001)); clear HB; have HB := n0_; have BK26001 := n1_; have GW26001 := n2_; have GE26001 := n3_; clear n0_ n1_ n2_ n3_; clear hb hbox hg) | ((with_reducible refine gate_callee (f := 15) rfl ?_); refine goesL_ (some 31) rfl rfl Try.func15 (by kernel_rfl) rfl #[] rfl (by (try simp only [List.map_toArray, List.map_cons, List.map_nil]); first | done | rfl | (simp only [List.length_drop, List.length_take]; rfl)) ?_; (with_reducible refine (tinderref09_Prims.calls  t26004 _ A14.out).mono ?_); rintro e w16 ⟨v26005, rfl, ho0, hb⟩; refine ⟨_, rfl, ?_⟩; have n0_ := Aside0.mk (Kd.R_lower ho0 (below_size (by repeat (first | (with_reducible first | exact HB.out | apply below_alloc | apply pw_below_drewN | apply below_drew1 | refine below_set ?_ GE26001.out) | exact HB.out)))); have n1_ := Aside0.mk (blk_below (g := gb26001) (o := .cells #[.slice A0_0 l0_0.length c0_0, .slice A0_1 l0_1.length c0_1, .slice A0_2 l0_2.length c0_2, .slice A0_3 l0_3.length c0_3, .int .u32 a0_4, .slice A0_5 l0_5.length c0_5, .int .i64 a0_6, .slice A0_7 l0_7.length c0_7, .int .i64 a0_8, .string a0_9] 32 (0, 0)) (by (with_reducible repeat (first | refine blk_drewN ?_ _ | refine blk_drew ?_ | refine blk_alloc ?_ _)); exact BK26001.out) hb); have n2_ := Aside0.mk (below_step (by repeat (first | (with_reducible first | exact HB.out | apply below_alloc | apply pw_below_drewN | apply below_drew1 | refine below_set ?_ GE26001.out) | exact HB.out)) hb); clear BK26001; clear HB; have HO26006 := n0_; have BK26001 := n1_; have HB := n2_; clear n0_ n1_ n2_; (try clear hb); (try clear hb2); (try clear hk); (try clear hi); (try clear ho0)))
    go_loopg [7] k (fun kq v7 w' => ∃ (x7_1 : Int), v7 = .int .i64 x7_1 ∧ Aside0 (tinderref09_Code.l0 kq a1 t26004 x7_1 = some (r1, r2)) ∧ Aside0 (kq ≤ k) ∧ Aside0 (Kd.R k37 37 w' w.heap.size (fun _ => True) v26005 t26004) ∧ Aside0 (w'.heap[gb26001]? = some (.cells #[(.slice A0_0 l0_0.length c0_0), (.slice A0_1 l0_1.length c0_1), (.slice A0_2 l0_2.length c0_2), (.slice A0_3 l0_3.length c0_3), .int .u32 a0_4, (.slice A0_5 l0_5.length c0_5), .int .i64 a0_6, (.slice A0_7 l0_7.length c0_7), .int .i64 a0_8, .string a0_9] 32 (0, 0))) ∧ Aside0 (Below w.heap.size w w'))
    case atStart => exact ⟨(0), (by first | rfl | (simp; done) | (simp [*]; done)), H', ⟨Nat.le_refl _⟩, ⟨by (with_reducible repeat (first | apply Kd.R_alloc | apply Kd.R_drewN | apply Kd.R_drew)); exact HO26006.out⟩, ⟨by (with_reducible repeat (first | refine blk_drewN ?_ _ | refine blk_drew ?_ | refine blk_alloc ?_ _)); exact BK26001.out⟩, ⟨by repeat (first | (with_reducible first | exact HB.out | apply below_alloc | apply pw_below_drewN | apply below_drew1 | refine below_set ?_ GE26001.out) | exact HB.out)⟩⟩
    case round =>
      clear H'
      try clear c1
      try clear c2
      try clear p2
      try clear q2
      try clear hx2
      try clear c3
      try clear c3b0
      try clear c4
      try clear c4b0
      try clear c6
      try clear c6b0
      try clear p6
      try clear c7
      try clear c7b0
      try clear c7b1
      try clear c15
      try clear hcz11_0
      try clear hcz11_1
      try clear hcz11_2
      try clear hcz11_3
      try clear hcz11_4
      try clear hcz11_5
      try clear hcz11_6
      try clear hcz11_7
      try clear hcz11_8
      try clear hcz11_9
      try clear hcz13_0
      try clear hcz13_1
      try clear hcz13_2
      try clear hcz13_3
      try clear hcz13_4
      try clear hcz13_5
      try clear hcz13_6
      try clear hcz13_7
      try clear hcz13_8
      try clear hcz13_9
      try clear hcz9_0
      try clear hcz9_1
      try clear hcz9_2
      try clear hcz9_3
      try clear hcz9_4
      try clear hcz9_5
      try clear hcz9_6
      try clear hcz9_7
      try clear hcz9_8
      try clear hcz9_9
      try clear hfz11_0
      try clear hfz11_1
      try clear hfz11_2
      try clear hfz11_3
      try clear hfz11_4
      try clear hfz11_5
      try clear hfz11_6
      try clear hfz11_7
      try clear hfz11_8
      try clear hfz11_9
      try clear hfz13_0
      try clear hfz13_1
      try clear hfz13_2
      try clear hfz13_3
      try clear hfz13_4
      try clear hfz13_5
      try clear hfz13_6
      try clear hfz13_7
      try clear hfz13_8
      try clear hfz13_9
      try clear hfz9_0
      try clear hfz9_1
      try clear hfz9_2
      try clear hfz9_3
      try clear hfz9_4
      try clear hfz9_5
      try clear hfz9_6
      try clear hfz9_7
      try clear hfz9_8
      try clear hfz9_9
      try clear hx26002_0
      try clear hx26003_0
      try clear p26002
      try clear p26003
      try clear q26002
      try clear q26003
      obtain ⟨x7_1, rfl, HA, HK1, HO_6, BK26001, HB⟩ := hrel
      cases gk with
      | zero => exact absurd HA.out (by simp [tinderref09_Code.l0])
      | succ k1 =>
        have H := HA.out
        clear HA
        simp only [tinderref09_Code.l0] at H
        by_cases c17 : x7_1 < (t26004.length : Int)
        · rw [if_pos c17] at H
          have c17b0 : decide (x7_1 < (t26004.length : Int)) = true := decide_eq_true c17
          clear c17
          by_cases c18 : 0 ≤ x7_1
          · rw [if_pos c18] at H
            have c18b0 : decide (0 ≤ x7_1) = true := decide_eq_true c18
            clear c18
            by_cases c19 : ((rd_T37 t26004 x7_1).f1) = a1
            · rw [if_pos c19] at H
              have c19b0 : (((rd_T37 t26004 x7_1).f1) == a1) = true := beq_iff_eq.mpr c19
              have c19b1 : (((rd_T37 t26004 x7_1).f1) != a1) = false := bne_eq_false_iff_eq.mpr c19
              clear c19
              simp only [Option.some.injEq, Prod.mk.injEq] at H
              obtain ⟨rfl, rfl⟩ := H
              obtain ⟨Ao20, co20, eo20⟩ := Kd.R_slice HO_6.out
              subst eo20
              have p26007 : 0 ≤ (x7_1 : Int) := of_decide_eq_true (by first | (with_reducible assumption) | assumption)
              have q26007 : x7_1 < (t26004.length : Int) := of_decide_eq_true (by first | (with_reducible assumption) | assumption)
              obtain ⟨ad26007, e26007, hx26007_0, hx26007_1⟩ := at_T37 (Kd.R_reads' HO_6.out).2.2 x7_1 p26007 q26007
              cases e26007
              replace p26007 := eq_true p26007
              replace q26007 := eq_true q26007
              go_wp2
              go_ret2
              exact ⟨by first | rfl | (simp [errW_none, errW_some] <;> rfl) | (simp [*, errW_none, errW_some] <;> rfl), by repeat (first | (with_reducible first | exact HB.out | apply below_alloc | apply pw_below_drewN | apply below_drew1 | refine below_set ?_ GE26001.out) | exact HB.out)⟩
            · rw [if_neg c19] at H
              have c19b0 : (((rd_T37 t26004 x7_1).f1) == a1) = false := beq_eq_false_iff_ne.mpr c19
              have c19b1 : (((rd_T37 t26004 x7_1).f1) != a1) = true := bne_iff_ne.mpr c19
              have H' := Aside0.mk H
              clear H
              obtain ⟨Ao21, co21, eo21⟩ := Kd.R_slice HO_6.out
              subst eo21
              have p26007 : 0 ≤ (x7_1 : Int) := of_decide_eq_true (by first | (with_reducible assumption) | assumption)
              have q26007 : x7_1 < (t26004.length : Int) := of_decide_eq_true (by first | (with_reducible assumption) | assumption)
              obtain ⟨ad26007, e26007, hx26007_0, hx26007_1⟩ := at_T37 (Kd.R_reads' HO_6.out).2.2 x7_1 p26007 q26007
              cases e26007
              replace p26007 := eq_true p26007
              replace q26007 := eq_true q26007
              go_wp2
              go_roundg k1
              case measure => have := HK1.out; omega
              case rel => exact ⟨(wrap64 (x7_1 + 1)), (by first | rfl | (simp; done) | (simp [*]; done)), H', ⟨by have := HK1.out; omega⟩, ⟨by (with_reducible repeat (first | apply Kd.R_alloc | apply Kd.R_drewN | apply Kd.R_drew)); exact HO_6.out⟩, ⟨by (with_reducible repeat (first | refine blk_drewN ?_ _ | refine blk_drew ?_ | refine blk_alloc ?_ _)); exact BK26001.out⟩, ⟨by repeat (first | (with_reducible first | exact HB.out | apply below_alloc | apply pw_below_drewN | apply below_drew1 | refine below_set ?_ GE26001.out) | exact HB.out)⟩⟩
          · rw [if_neg c18] at H
            exact absurd H (by simp)
        · rw [if_neg c17] at H
          have c17b0 : decide (x7_1 < (t26004.length : Int)) = false := decide_eq_false c17
          clear c17
          simp only [Option.some.injEq, Prod.mk.injEq] at H
          obtain ⟨rfl, rfl⟩ := H
          obtain ⟨Ao22, co22, eo22⟩ := Kd.R_slice HO_6.out
          subst eo22
          go_wp2
          go_ret2
          exact ⟨by first | rfl | (simp [errW_none, errW_some] <;> rfl) | (simp [*, errW_none, errW_some] <;> rfl), by repeat (first | (with_reducible first | exact HB.out | apply below_alloc | apply pw_below_drewN | apply below_drew1 | refine below_set ?_ GE26001.out) | exact HB.out)⟩

end Go.Proofs.Ytfpkakedlapmkaa.Q
end
section
namespace Go.Proofs.Ytfpkakedlapmkaa.Q
open Go.RowKit Go.Proofs.YtfpkakedlapmkaaW.PrintWords Go.Proofs.YtfpkakedlapmkaaW.PrintLast Go.Proofs.YtfpkakedlapmkaaW.PrintMore
set_option linter.unusedVariables false
set_option linter.unusedSimpArgs false

attribute [local go_sem] max2_int min2_int max_two min_two max_three min_three max_four min_four
/-! ### tinderref09_Find: function 22 -/
mutual
def tinderref09_Find.l0 : Nat → ByteArray → Int → List Int → List Int → List (S51) → List Int → Int → List (S91) → Int → List (S82) → Int → ByteArray → Option (Int × Bool)
  | 0, _, _, _, _, _, _, _, _, _, _, _, _ => none
  | k + 1, x1, x6, x23002000, x23002001, x23002002, x23002003, x23002004, x23002005, x23002006, x23002007, x23002008, x23002009 => if x6 ≥ 0 then (tinderref09_Find.j1 k x1 x6 (x1.toList != ([] : List UInt8)) x23002000 x23002001 x23002002 x23002003 x23002004 x23002005 x23002006 x23002007 x23002008 x23002009) else (tinderref09_Find.j1 k x1 x6 false x23002000 x23002001 x23002002 x23002003 x23002004 x23002005 x23002006 x23002007 x23002008 x23002009)
def tinderref09_Find.j1 : Nat → ByteArray → Int → Bool → List Int → List Int → List (S51) → List Int → Int → List (S91) → Int → List (S82) → Int → ByteArray → Option (Int × Bool)
  | 0, _, _, _, _, _, _, _, _, _, _, _, _, _ => none
  | k + 1, x1, x6, x16, x23002000, x23002001, x23002002, x23002003, x23002004, x23002005, x23002006, x23002007, x23002008, x23002009 => if x16 = true then (if 0 ≤ x6 then (if x6 < (x23002002.length : Int) then (if ((rd_T51 x23002002 x6).f0).toList = x1.toList then (some (x6, true)) else (tinderref09_Find.l0 k x1 (wrap64 (x6 - 1)) x23002000 x23002001 x23002002 x23002003 x23002004 x23002005 x23002006 x23002007 x23002008 x23002009)) else (none)) else (none)) else (some (0, false))
end
def tinderref09_Find.f (k : Nat) (l0_0 : List Int) (l0_1 : List Int) (l0_2 : List (S51)) (l0_3 : List Int) (a0_4 : Int) (l0_5 : List (S91)) (a0_6 : Int) (l0_7 : List (S82)) (a0_8 : Int) (a0_9 : ByteArray) (a1 : ByteArray) : Option (Int × Bool) := tinderref09_Find.l0 k a1 (wrap64 ((l0_2.length : Int) - 1)) l0_0 l0_1 l0_2 l0_3 a0_4 l0_5 a0_6 l0_7 a0_8 a0_9
set_option maxHeartbeats 8000000 in
set_option maxRecDepth 100000 in
theorem tinderref09_Find.calls (k : Nat) (A0_0 : Option Addr) (c0_0 : Nat) (l0_0 : List Int) (A0_1 : Option Addr) (c0_1 : Nat) (l0_1 : List Int) (A0_2 : Option Addr) (c0_2 : Nat) (l0_2 : List (S51)) (A0_3 : Option Addr) (c0_3 : Nat) (l0_3 : List Int) (a0_4 : Int) (A0_5 : Option Addr) (c0_5 : Nat) (l0_5 : List (S91)) (a0_6 : Int) (A0_7 : Option Addr) (c0_7 : Nat) (l0_7 : List (S82)) (a0_8 : Int) (a0_9 : ByteArray) (a1 : ByteArray) (r1 : Int) (r2 : Bool) (w : World) (hr0_0 : Kd.C (Kd.int .u32) w A0_0 l0_0.length l0_0) (hc0_0 : l0_0.length ≤ c0_0) (hr0_1 : Kd.C (Kd.int .u8) w A0_1 l0_1.length l0_1) (hc0_1 : l0_1.length ≤ c0_1) (hr0_2 : Kd.C k51 w A0_2 l0_2.length l0_2) (hc0_2 : l0_2.length ≤ c0_2) (hr0_3 : Kd.C (Kd.int .i64) w A0_3 l0_3.length l0_3) (hc0_3 : l0_3.length ≤ c0_3) (hr0_5 : Kd.C k91 w A0_5 l0_5.length l0_5) (hc0_5 : l0_5.length ≤ c0_5) (hr0_7 : Kd.C k82 w A0_7 l0_7.length l0_7) (hc0_7 : l0_7.length ≤ c0_7) (h : tinderref09_Find.f k l0_0 l0_1 l0_2 l0_3 a0_4 l0_5 a0_6 l0_7 a0_8 a0_9 a1 = some (r1, r2)) :
    Calls Try.prog 22 #[.agg #[.slice A0_0 l0_0.length c0_0, .slice A0_1 l0_1.length c0_1, .slice A0_2 l0_2.length c0_2, .slice A0_3 l0_3.length c0_3, .int .u32 a0_4, .slice A0_5 l0_5.length c0_5, .int .i64 a0_6, .slice A0_7 l0_7.length c0_7, .int .i64 a0_8, .string a0_9], .string a1] w fun e w' => e = .returned (.tuple #[.int .i64 r1, .bool r2]) ∧ Below w.heap.size w w' := by
  have hu32 := Try.underlying32
  have HR0_0 := Aside0.mk hr0_0
  have HC0_0 := Aside0.mk hc0_0
  clear hr0_0 hc0_0
  have HR0_1 := Aside0.mk hr0_1
  have HC0_1 := Aside0.mk hc0_1
  clear hr0_1 hc0_1
  have HR0_2 := Aside0.mk hr0_2
  have HC0_2 := Aside0.mk hc0_2
  clear hr0_2 hc0_2
  have HR0_3 := Aside0.mk hr0_3
  have HC0_3 := Aside0.mk hc0_3
  clear hr0_3 hc0_3
  have HR0_5 := Aside0.mk hr0_5
  have HC0_5 := Aside0.mk hc0_5
  clear hr0_5 hc0_5
  have HR0_7 := Aside0.mk hr0_7
  have HC0_7 := Aside0.mk hc0_7
  clear hr0_7 hc0_7
  have HB := Aside0.mk (Below.refl w.heap.size w)
  have H : (tinderref09_Find.l0 k a1 (wrap64 ((l0_2.length : Int) - 1)) l0_0 l0_1 l0_2 l0_3 a0_4 l0_5 a0_6 l0_7 a0_8 a0_9) = some (r1, r2) := h
  clear h
  have H' := Aside0.mk H
  clear H
  go_enter Try.func22, Try.ntmps22
  go_wp2_with (first | ((with_reducible refine gate_dst (N := 2) rfl ?_); refine box_event ?hg (N := 2) ?hd (cs := #[.slice A0_0 l0_0.length c0_0, .slice A0_1 l0_1.length c0_1, .slice A0_2 l0_2.length c0_2, .slice A0_3 l0_3.length c0_3, .int .u32 a0_4, .slice A0_5 l0_5.length c0_5, .int .i64 a0_6, .slice A0_7 l0_7.length c0_7, .int .i64 a0_8, .string a0_9]) (t := 32) ?hr ?_; (case hd => rfl); (case hg => rfl); (case hr => first | (go_simp; done) | (go_simp; rfl)); intro gb23001 hg w3 hbox hb; have n0_ := Aside0.mk (below_step (by repeat (first | (with_reducible first | exact HB.out | apply below_alloc | apply pw_below_drewN | apply below_drew1) | exact HB.out)) hb); have n1_ := Aside0.mk (hbox); have n2_ := Aside0.mk ((by rw [hg]; exact (below_size (by repeat (first | (with_reducible first | exact HB.out | apply below_alloc | apply pw_below_drewN | apply below_drew1) | exact HB.out))) : w.heap.size ≤ gb23001)); have n3_ := Aside0.mk ((by rw [hg]; exact (below_size (by repeat (first | (with_reducible first | exact HB.out | apply below_alloc | apply pw_below_drewN | apply below_drew1) | exact HB.out))) : w.heap.size ≤ gb23001)); clear HB; have HB := n0_; have BK23001 := n1_; have GW23001 := n2_; have GE23001 := n3_; clear n0_ n1_ n2_ n3_; clear hb hbox hg; have hcz4_0 : w3.cell? ⟨gb23001, 0, none⟩ = some (.slice A0_0 l0_0.length c0_0) := (blk_cell BK23001.out 0).trans rfl; have hcz4_1 : w3.cell? ⟨gb23001, 1, none⟩ = some (.slice A0_1 l0_1.length c0_1) := (blk_cell BK23001.out 1).trans rfl; have hcz4_2 : w3.cell? ⟨gb23001, 2, none⟩ = some (.slice A0_2 l0_2.length c0_2) := (blk_cell BK23001.out 2).trans rfl; have hcz4_3 : w3.cell? ⟨gb23001, 3, none⟩ = some (.slice A0_3 l0_3.length c0_3) := (blk_cell BK23001.out 3).trans rfl; have hcz4_4 : w3.cell? ⟨gb23001, 4, none⟩ = some (.int .u32 a0_4) := (blk_cell BK23001.out 4).trans rfl; have hcz4_5 : w3.cell? ⟨gb23001, 5, none⟩ = some (.slice A0_5 l0_5.length c0_5) := (blk_cell BK23001.out 5).trans rfl; have hcz4_6 : w3.cell? ⟨gb23001, 6, none⟩ = some (.int .i64 a0_6) := (blk_cell BK23001.out 6).trans rfl; have hcz4_7 : w3.cell? ⟨gb23001, 7, none⟩ = some (.slice A0_7 l0_7.length c0_7) := (blk_cell BK23001.out 7).trans rfl; have hcz4_8 : w3.cell? ⟨gb23001, 8, none⟩ = some (.int .i64 a0_8) := (blk_cell BK23001.out 8).trans rfl; have hcz4_9 : w3.cell? ⟨gb23001, 9, none⟩ = some (.string a0_9) := (blk_cell BK23001.out 9).trans rfl; have hfz4_0 := blk_frozen BK23001.out 0; have hfz4_1 := blk_frozen BK23001.out 1; have hfz4_2 := blk_frozen BK23001.out 2; have hfz4_3 := blk_frozen BK23001.out 3; have hfz4_4 := blk_frozen BK23001.out 4; have hfz4_5 := blk_frozen BK23001.out 5; have hfz4_6 := blk_frozen BK23001.out 6; have hfz4_7 := blk_frozen BK23001.out 7; have hfz4_8 := blk_frozen BK23001.out 8; have hfz4_9 := blk_frozen BK23001.out 9))
  go_loopg [6] k (fun kq v6 w' => ∃ (x6_1 : Int), v6 = .int .i64 x6_1 ∧ Aside0 (tinderref09_Find.l0 kq a1 x6_1 l0_0 l0_1 l0_2 l0_3 a0_4 l0_5 a0_6 l0_7 a0_8 a0_9 = some (r1, r2)) ∧ Aside0 (kq ≤ k) ∧ Aside0 (w'.heap[gb23001]? = some (.cells #[(.slice A0_0 l0_0.length c0_0), (.slice A0_1 l0_1.length c0_1), (.slice A0_2 l0_2.length c0_2), (.slice A0_3 l0_3.length c0_3), .int .u32 a0_4, (.slice A0_5 l0_5.length c0_5), .int .i64 a0_6, (.slice A0_7 l0_7.length c0_7), .int .i64 a0_8, .string a0_9] 32 (0, 0))) ∧ Aside0 (Below w.heap.size w w'))
  case atStart => exact ⟨(wrap64 ((l0_2.length : Int) - 1)), (by first | rfl | (simp; done) | (simp [*]; done)), H', ⟨Nat.le_refl _⟩, ⟨by (with_reducible repeat (first | refine blk_drewN ?_ _ | refine blk_drew ?_ | refine blk_alloc ?_ _)); exact BK23001.out⟩, ⟨by repeat (first | (with_reducible first | exact HB.out | apply below_alloc | apply pw_below_drewN | apply below_drew1 | refine below_set ?_ GE23001.out) | exact HB.out)⟩⟩
  case round =>
    clear H'
    try clear c2
    try clear p2
    try clear hcz4_0
    try clear hcz4_1
    try clear hcz4_2
    try clear hcz4_3
    try clear hcz4_4
    try clear hcz4_5
    try clear hcz4_6
    try clear hcz4_7
    try clear hcz4_8
    try clear hcz4_9
    try clear hfz4_0
    try clear hfz4_1
    try clear hfz4_2
    try clear hfz4_3
    try clear hfz4_4
    try clear hfz4_5
    try clear hfz4_6
    try clear hfz4_7
    try clear hfz4_8
    try clear hfz4_9
    obtain ⟨x6_1, rfl, HA, HK1, BK23001, HB⟩ := hrel
    cases gk with
    | zero => exact absurd HA.out (by simp [tinderref09_Find.l0])
    | succ k1 =>
      have H := HA.out
      clear HA
      simp only [tinderref09_Find.l0] at H
      have HC5 := Aside0.mk H
      clear H
      go_upto_region 2 with (fail)
      go_cut [16] (fun v16 wc => ∃ (kq : Nat) (x16_4 : Bool), v16 = .bool x16_4 ∧ Aside0 (tinderref09_Find.j1 kq a1 x6_1 x16_4 l0_0 l0_1 l0_2 l0_3 a0_4 l0_5 a0_6 l0_7 a0_8 a0_9 = some (r1, r2)) ∧ Aside0 (kq ≤ k1) ∧ Aside0 (wc.heap[gb23001]? = some (.cells #[(.slice A0_0 l0_0.length c0_0), (.slice A0_1 l0_1.length c0_1), (.slice A0_2 l0_2.length c0_2), (.slice A0_3 l0_3.length c0_3), .int .u32 a0_4, (.slice A0_5 l0_5.length c0_5), .int .i64 a0_6, (.slice A0_7 l0_7.length c0_7), .int .i64 a0_8, .string a0_9] 32 (0, 0))) ∧ Aside0 (Below w.heap.size w wc))
      case first =>
        have H := HC5.out
        clear HC5
        by_cases c6 : x6_1 ≥ 0
        · rw [if_pos c6] at H
          have c6b0 : decide (0 ≤ x6_1) = true := decide_eq_true c6
          clear c6
          (first | rw [c6b0] | (simp only [i64_w, i32_w]; rw [c6b0]) | skip)
          have H' := Aside0.mk H
          clear H
          go_wp2
          go_meet
          case rel => exact ⟨_, ((a1.toList != ([] : List UInt8))), (by first | rfl | (simp; done) | (simp [*]; done) | (simp; cases a1.toList <;> rfl)), H', ⟨by have := HK1.out; first | omega | exact Nat.le_refl _⟩, ⟨by (with_reducible repeat (first | refine blk_drewN ?_ _ | refine blk_drew ?_ | refine blk_alloc ?_ _)); exact BK23001.out⟩, ⟨by repeat (first | (with_reducible first | exact HB.out | apply below_alloc | apply pw_below_drewN | apply below_drew1 | refine below_set ?_ GE23001.out) | exact HB.out)⟩⟩
        · rw [if_neg c6] at H
          have c6b0 : decide (0 ≤ x6_1) = false := decide_eq_false c6
          clear c6
          (first | rw [c6b0] | (simp only [i64_w, i32_w]; rw [c6b0]) | skip)
          have H' := Aside0.mk H
          clear H
          go_wp2
          go_meet
          case rel => exact ⟨_, (false), (by first | rfl | (simp; done) | (simp [*]; done)), H', ⟨by have := HK1.out; first | omega | exact Nat.le_refl _⟩, ⟨by (with_reducible repeat (first | refine blk_drewN ?_ _ | refine blk_drew ?_ | refine blk_alloc ?_ _)); exact BK23001.out⟩, ⟨by repeat (first | (with_reducible first | exact HB.out | apply below_alloc | apply pw_below_drewN | apply below_drew1 | refine below_set ?_ GE23001.out) | exact HB.out)⟩⟩
      case rest =>
        clear HC5
        try clear c2
        try clear p2
        try clear c6
        try clear c6b0
        try clear p6
        try clear hcz4_0
        try clear hcz4_1
        try clear hcz4_2
        try clear hcz4_3
        try clear hcz4_4
        try clear hcz4_5
        try clear hcz4_6
        try clear hcz4_7
        try clear hcz4_8
        try clear hcz4_9
        try clear hfz4_0
        try clear hfz4_1
        try clear hfz4_2
        try clear hfz4_3
        try clear hfz4_4
        try clear hfz4_5
        try clear hfz4_6
        try clear hfz4_7
        try clear hfz4_8
        try clear hfz4_9
        try clear p2
        obtain ⟨kq, x16_4, rfl, HA, HJ4, BK23001, HB⟩ := hcut
        cases kq with
        | zero => exact absurd HA.out (by simp [tinderref09_Find.j1])
        | succ kj4 =>
          have H := HA.out
          clear HA
          simp only [tinderref09_Find.j1] at H
          by_cases c7 : x16_4 = true
          · subst c7
            have H1 : (if 0 ≤ x6_1 then (if x6_1 < (l0_2.length : Int) then (if ((rd_T51 l0_2 x6_1).f0).toList = a1.toList then (some (x6_1, true)) else (tinderref09_Find.l0 kj4 a1 (wrap64 (x6_1 - 1)) l0_0 l0_1 l0_2 l0_3 a0_4 l0_5 a0_6 l0_7 a0_8 a0_9)) else (none)) else (none)) = some (r1, r2) := by rw [if_pos rfl] at H; exact H
            clear H
            have H := H1
            clear H1
            by_cases c8 : 0 ≤ x6_1
            · rw [if_pos c8] at H
              have c8b0 : decide (0 ≤ x6_1) = true := decide_eq_true c8
              clear c8
              by_cases c9 : x6_1 < (l0_2.length : Int)
              · rw [if_pos c9] at H
                have c9b0 : decide (x6_1 < (l0_2.length : Int)) = true := decide_eq_true c9
                clear c9
                by_cases c10 : ((rd_T51 l0_2 x6_1).f0).toList = a1.toList
                · rw [if_pos c10] at H
                  have c10b0 : (((rd_T51 l0_2 x6_1).f0).toList == a1.toList) = true := beq_iff_eq.mpr c10
                  have c10b1 : (((rd_T51 l0_2 x6_1).f0).toList != a1.toList) = false := bne_eq_false_iff_eq.mpr c10
                  clear c10
                  simp only [Option.some.injEq, Prod.mk.injEq] at H
                  obtain ⟨rfl, rfl⟩ := H
                  have hcz11_0 : wc.cell? ⟨gb23001, 0, none⟩ = some (.slice A0_0 l0_0.length c0_0) := (blk_cell BK23001.out 0).trans rfl
                  have hcz11_1 : wc.cell? ⟨gb23001, 1, none⟩ = some (.slice A0_1 l0_1.length c0_1) := (blk_cell BK23001.out 1).trans rfl
                  have hcz11_2 : wc.cell? ⟨gb23001, 2, none⟩ = some (.slice A0_2 l0_2.length c0_2) := (blk_cell BK23001.out 2).trans rfl
                  have hcz11_3 : wc.cell? ⟨gb23001, 3, none⟩ = some (.slice A0_3 l0_3.length c0_3) := (blk_cell BK23001.out 3).trans rfl
                  have hcz11_4 : wc.cell? ⟨gb23001, 4, none⟩ = some (.int .u32 a0_4) := (blk_cell BK23001.out 4).trans rfl
                  have hcz11_5 : wc.cell? ⟨gb23001, 5, none⟩ = some (.slice A0_5 l0_5.length c0_5) := (blk_cell BK23001.out 5).trans rfl
                  have hcz11_6 : wc.cell? ⟨gb23001, 6, none⟩ = some (.int .i64 a0_6) := (blk_cell BK23001.out 6).trans rfl
                  have hcz11_7 : wc.cell? ⟨gb23001, 7, none⟩ = some (.slice A0_7 l0_7.length c0_7) := (blk_cell BK23001.out 7).trans rfl
                  have hcz11_8 : wc.cell? ⟨gb23001, 8, none⟩ = some (.int .i64 a0_8) := (blk_cell BK23001.out 8).trans rfl
                  have hcz11_9 : wc.cell? ⟨gb23001, 9, none⟩ = some (.string a0_9) := (blk_cell BK23001.out 9).trans rfl
                  have hfz11_0 := blk_frozen BK23001.out 0
                  have hfz11_1 := blk_frozen BK23001.out 1
                  have hfz11_2 := blk_frozen BK23001.out 2
                  have hfz11_3 := blk_frozen BK23001.out 3
                  have hfz11_4 := blk_frozen BK23001.out 4
                  have hfz11_5 := blk_frozen BK23001.out 5
                  have hfz11_6 := blk_frozen BK23001.out 6
                  have hfz11_7 := blk_frozen BK23001.out 7
                  have hfz11_8 := blk_frozen BK23001.out 8
                  have hfz11_9 := blk_frozen BK23001.out 9
                  have p23002 : 0 ≤ (x6_1 : Int) := of_decide_eq_true (by first | (with_reducible assumption) | assumption)
                  have q23002 : x6_1 < (l0_2.length : Int) := of_decide_eq_true (by first | (with_reducible assumption) | assumption)
                  obtain ⟨ad23002, A23002_4, c23002_4, e23002, hx23002_0, hx23002_1, hx23002_2, hx23002_3, hx23002_4, hl23002_4, hi23002_4⟩ := at_T51 HR0_2.out x6_1 p23002 q23002
                  cases e23002
                  replace hx23002_0 := (HB.out.cell (World.block_lt_of_cell? w _ hx23002_0)).trans hx23002_0
                  replace hx23002_1 := (HB.out.cell (World.block_lt_of_cell? w _ hx23002_1)).trans hx23002_1
                  replace hx23002_2 := (HB.out.cell (World.block_lt_of_cell? w _ hx23002_2)).trans hx23002_2
                  replace hx23002_3 := (HB.out.cell (World.block_lt_of_cell? w _ hx23002_3)).trans hx23002_3
                  replace hx23002_4 := (HB.out.cell (World.block_lt_of_cell? w _ hx23002_4)).trans hx23002_4
                  have HR23002_4 := Aside0.mk hi23002_4
                  have HC23002_4 := Aside0.mk hl23002_4
                  clear hi23002_4 hl23002_4
                  replace p23002 := eq_true p23002
                  replace q23002 := eq_true q23002
                  go_wp2
                  go_ret2
                  exact ⟨by first | rfl | (simp [errW_none, errW_some] <;> rfl) | (simp [*, errW_none, errW_some] <;> rfl), by repeat (first | (with_reducible first | exact HB.out | apply below_alloc | apply pw_below_drewN | apply below_drew1 | refine below_set ?_ GE23001.out) | exact HB.out)⟩
                · rw [if_neg c10] at H
                  have c10b0 : (((rd_T51 l0_2 x6_1).f0).toList == a1.toList) = false := beq_eq_false_iff_ne.mpr c10
                  have c10b1 : (((rd_T51 l0_2 x6_1).f0).toList != a1.toList) = true := bne_iff_ne.mpr c10
                  have H' := Aside0.mk H
                  clear H
                  have hcz12_0 : wc.cell? ⟨gb23001, 0, none⟩ = some (.slice A0_0 l0_0.length c0_0) := (blk_cell BK23001.out 0).trans rfl
                  have hcz12_1 : wc.cell? ⟨gb23001, 1, none⟩ = some (.slice A0_1 l0_1.length c0_1) := (blk_cell BK23001.out 1).trans rfl
                  have hcz12_2 : wc.cell? ⟨gb23001, 2, none⟩ = some (.slice A0_2 l0_2.length c0_2) := (blk_cell BK23001.out 2).trans rfl
                  have hcz12_3 : wc.cell? ⟨gb23001, 3, none⟩ = some (.slice A0_3 l0_3.length c0_3) := (blk_cell BK23001.out 3).trans rfl
                  have hcz12_4 : wc.cell? ⟨gb23001, 4, none⟩ = some (.int .u32 a0_4) := (blk_cell BK23001.out 4).trans rfl
                  have hcz12_5 : wc.cell? ⟨gb23001, 5, none⟩ = some (.slice A0_5 l0_5.length c0_5) := (blk_cell BK23001.out 5).trans rfl
                  have hcz12_6 : wc.cell? ⟨gb23001, 6, none⟩ = some (.int .i64 a0_6) := (blk_cell BK23001.out 6).trans rfl
                  have hcz12_7 : wc.cell? ⟨gb23001, 7, none⟩ = some (.slice A0_7 l0_7.length c0_7) := (blk_cell BK23001.out 7).trans rfl
                  have hcz12_8 : wc.cell? ⟨gb23001, 8, none⟩ = some (.int .i64 a0_8) := (blk_cell BK23001.out 8).trans rfl
                  have hcz12_9 : wc.cell? ⟨gb23001, 9, none⟩ = some (.string a0_9) := (blk_cell BK23001.out 9).trans rfl
                  have hfz12_0 := blk_frozen BK23001.out 0
                  have hfz12_1 := blk_frozen BK23001.out 1
                  have hfz12_2 := blk_frozen BK23001.out 2
                  have hfz12_3 := blk_frozen BK23001.out 3
                  have hfz12_4 := blk_frozen BK23001.out 4
                  have hfz12_5 := blk_frozen BK23001.out 5
                  have hfz12_6 := blk_frozen BK23001.out 6
                  have hfz12_7 := blk_frozen BK23001.out 7
                  have hfz12_8 := blk_frozen BK23001.out 8
                  have hfz12_9 := blk_frozen BK23001.out 9
                  have p23002 : 0 ≤ (x6_1 : Int) := of_decide_eq_true (by first | (with_reducible assumption) | assumption)
                  have q23002 : x6_1 < (l0_2.length : Int) := of_decide_eq_true (by first | (with_reducible assumption) | assumption)
                  obtain ⟨ad23002, A23002_4, c23002_4, e23002, hx23002_0, hx23002_1, hx23002_2, hx23002_3, hx23002_4, hl23002_4, hi23002_4⟩ := at_T51 HR0_2.out x6_1 p23002 q23002
                  cases e23002
                  replace hx23002_0 := (HB.out.cell (World.block_lt_of_cell? w _ hx23002_0)).trans hx23002_0
                  replace hx23002_1 := (HB.out.cell (World.block_lt_of_cell? w _ hx23002_1)).trans hx23002_1
                  replace hx23002_2 := (HB.out.cell (World.block_lt_of_cell? w _ hx23002_2)).trans hx23002_2
                  replace hx23002_3 := (HB.out.cell (World.block_lt_of_cell? w _ hx23002_3)).trans hx23002_3
                  replace hx23002_4 := (HB.out.cell (World.block_lt_of_cell? w _ hx23002_4)).trans hx23002_4
                  have HR23002_4 := Aside0.mk hi23002_4
                  have HC23002_4 := Aside0.mk hl23002_4
                  clear hi23002_4 hl23002_4
                  replace p23002 := eq_true p23002
                  replace q23002 := eq_true q23002
                  go_wp2
                  go_roundg kj4
                  case measure => have := HK1.out; have := HJ4.out; omega
                  case rel => exact ⟨(wrap64 (x6_1 - 1)), (by first | rfl | (simp; done) | (simp [*]; done)), H', ⟨by have := HK1.out; have := HJ4.out; omega⟩, ⟨by (with_reducible repeat (first | refine blk_drewN ?_ _ | refine blk_drew ?_ | refine blk_alloc ?_ _)); exact BK23001.out⟩, ⟨by repeat (first | (with_reducible first | exact HB.out | apply below_alloc | apply pw_below_drewN | apply below_drew1 | refine below_set ?_ GE23001.out) | exact HB.out)⟩⟩
              · rw [if_neg c9] at H
                exact absurd H (by simp)
            · rw [if_neg c8] at H
              exact absurd H (by simp)
          · replace c7 := Bool.eq_false_iff.mpr c7
            subst c7
            have H1 : (some (0, false)) = some (r1, r2) := by rw [if_neg (show ¬ (false = true) by decide)] at H; exact H
            clear H
            have H := H1
            clear H1
            simp only [Option.some.injEq, Prod.mk.injEq] at H
            obtain ⟨rfl, rfl⟩ := H
            go_wp2
            go_ret2
            exact ⟨by first | rfl | (simp [errW_none, errW_some] <;> rfl) | (simp [*, errW_none, errW_some] <;> rfl), by repeat (first | (with_reducible first | exact HB.out | apply below_alloc | apply pw_below_drewN | apply below_drew1 | refine below_set ?_ GE23001.out) | exact HB.out)⟩

end Go.Proofs.Ytfpkakedlapmkaa.Q
end
section
namespace Go.Proofs.Ytfpkakedlapmkaa.Q
open Go.RowKit Go.Proofs.YtfpkakedlapmkaaW.PrintWords Go.Proofs.YtfpkakedlapmkaaW.PrintLast Go.Proofs.YtfpkakedlapmkaaW.PrintMore
set_option linter.unusedVariables false
set_option linter.unusedSimpArgs false

attribute [local go_sem] max2_int min2_int max_two min_two max_three min_three max_four min_four
/-! ### tinderref09_Method: function 24 -/
mutual
def tinderref09_Method.l0 : Nat → Int → ByteArray → Int → List Int → List Int → List (S51) → List Int → Int → List (S91) → Int → List (S82) → Int → ByteArray → Option (Int × Bool)
  | 0, _, _, _, _, _, _, _, _, _, _, _, _, _ => none
  | k + 1, x1, x2, x8, x25002000, x25002001, x25002002, x25002003, x25002004, x25002005, x25002006, x25002007, x25002008, x25002009 => if x8 ≥ 0 then (if x2.toList = ([] : List UInt8) then (tinderref09_Method.j1 k x1 x2 x8 false x25002000 x25002001 x25002002 x25002003 x25002004 x25002005 x25002006 x25002007 x25002008 x25002009) else (tinderref09_Method.j1 k x1 x2 x8 (decide (x1 ≥ 0)) x25002000 x25002001 x25002002 x25002003 x25002004 x25002005 x25002006 x25002007 x25002008 x25002009)) else (tinderref09_Method.j1 k x1 x2 x8 false x25002000 x25002001 x25002002 x25002003 x25002004 x25002005 x25002006 x25002007 x25002008 x25002009)
def tinderref09_Method.j1 : Nat → Int → ByteArray → Int → Bool → List Int → List Int → List (S51) → List Int → Int → List (S91) → Int → List (S82) → Int → ByteArray → Option (Int × Bool)
  | 0, _, _, _, _, _, _, _, _, _, _, _, _, _, _ => none
  | k + 1, x1, x2, x8, x22, x25002000, x25002001, x25002002, x25002003, x25002004, x25002005, x25002006, x25002007, x25002008, x25002009 => if x22 = true then (if 0 ≤ x8 then (if x8 < (x25002002.length : Int) then (if ((rd_T51 x25002002 x8).f0).toList = x2.toList then (if ((rd_T51 x25002002 x8).f1) = x1 then (some (x8, true)) else (tinderref09_Method.l0 k x1 x2 (wrap64 (x8 - 1)) x25002000 x25002001 x25002002 x25002003 x25002004 x25002005 x25002006 x25002007 x25002008 x25002009)) else (tinderref09_Method.l0 k x1 x2 (wrap64 (x8 - 1)) x25002000 x25002001 x25002002 x25002003 x25002004 x25002005 x25002006 x25002007 x25002008 x25002009)) else (none)) else (none)) else (some (0, false))
end
def tinderref09_Method.f (k : Nat) (l0_0 : List Int) (l0_1 : List Int) (l0_2 : List (S51)) (l0_3 : List Int) (a0_4 : Int) (l0_5 : List (S91)) (a0_6 : Int) (l0_7 : List (S82)) (a0_8 : Int) (a0_9 : ByteArray) (a1 : Int) (a2 : ByteArray) : Option (Int × Bool) := tinderref09_Method.l0 k a1 a2 (wrap64 ((l0_2.length : Int) - 1)) l0_0 l0_1 l0_2 l0_3 a0_4 l0_5 a0_6 l0_7 a0_8 a0_9
set_option maxHeartbeats 8000000 in
set_option maxRecDepth 100000 in
theorem tinderref09_Method.calls (k : Nat) (A0_0 : Option Addr) (c0_0 : Nat) (l0_0 : List Int) (A0_1 : Option Addr) (c0_1 : Nat) (l0_1 : List Int) (A0_2 : Option Addr) (c0_2 : Nat) (l0_2 : List (S51)) (A0_3 : Option Addr) (c0_3 : Nat) (l0_3 : List Int) (a0_4 : Int) (A0_5 : Option Addr) (c0_5 : Nat) (l0_5 : List (S91)) (a0_6 : Int) (A0_7 : Option Addr) (c0_7 : Nat) (l0_7 : List (S82)) (a0_8 : Int) (a0_9 : ByteArray) (a1 : Int) (a2 : ByteArray) (r1 : Int) (r2 : Bool) (w : World) (hr0_0 : Kd.C (Kd.int .u32) w A0_0 l0_0.length l0_0) (hc0_0 : l0_0.length ≤ c0_0) (hr0_1 : Kd.C (Kd.int .u8) w A0_1 l0_1.length l0_1) (hc0_1 : l0_1.length ≤ c0_1) (hr0_2 : Kd.C k51 w A0_2 l0_2.length l0_2) (hc0_2 : l0_2.length ≤ c0_2) (hr0_3 : Kd.C (Kd.int .i64) w A0_3 l0_3.length l0_3) (hc0_3 : l0_3.length ≤ c0_3) (hr0_5 : Kd.C k91 w A0_5 l0_5.length l0_5) (hc0_5 : l0_5.length ≤ c0_5) (hr0_7 : Kd.C k82 w A0_7 l0_7.length l0_7) (hc0_7 : l0_7.length ≤ c0_7) (h : tinderref09_Method.f k l0_0 l0_1 l0_2 l0_3 a0_4 l0_5 a0_6 l0_7 a0_8 a0_9 a1 a2 = some (r1, r2)) :
    Calls Try.prog 24 #[.agg #[.slice A0_0 l0_0.length c0_0, .slice A0_1 l0_1.length c0_1, .slice A0_2 l0_2.length c0_2, .slice A0_3 l0_3.length c0_3, .int .u32 a0_4, .slice A0_5 l0_5.length c0_5, .int .i64 a0_6, .slice A0_7 l0_7.length c0_7, .int .i64 a0_8, .string a0_9], .int .i64 a1, .string a2] w fun e w' => e = .returned (.tuple #[.int .i64 r1, .bool r2]) ∧ Below w.heap.size w w' := by
  have hu32 := Try.underlying32
  have HR0_0 := Aside0.mk hr0_0
  have HC0_0 := Aside0.mk hc0_0
  clear hr0_0 hc0_0
  have HR0_1 := Aside0.mk hr0_1
  have HC0_1 := Aside0.mk hc0_1
  clear hr0_1 hc0_1
  have HR0_2 := Aside0.mk hr0_2
  have HC0_2 := Aside0.mk hc0_2
  clear hr0_2 hc0_2
  have HR0_3 := Aside0.mk hr0_3
  have HC0_3 := Aside0.mk hc0_3
  clear hr0_3 hc0_3
  have HR0_5 := Aside0.mk hr0_5
  have HC0_5 := Aside0.mk hc0_5
  clear hr0_5 hc0_5
  have HR0_7 := Aside0.mk hr0_7
  have HC0_7 := Aside0.mk hc0_7
  clear hr0_7 hc0_7
  have HB := Aside0.mk (Below.refl w.heap.size w)
  have H : (tinderref09_Method.l0 k a1 a2 (wrap64 ((l0_2.length : Int) - 1)) l0_0 l0_1 l0_2 l0_3 a0_4 l0_5 a0_6 l0_7 a0_8 a0_9) = some (r1, r2) := h
  clear h
  have H' := Aside0.mk H
  clear H
  go_enter Try.func24, Try.ntmps24
  go_wp2_with (first | ((with_reducible refine gate_dst (N := 3) rfl ?_); refine box_event ?hg (N := 3) ?hd (cs := #[.slice A0_0 l0_0.length c0_0, .slice A0_1 l0_1.length c0_1, .slice A0_2 l0_2.length c0_2, .slice A0_3 l0_3.length c0_3, .int .u32 a0_4, .slice A0_5 l0_5.length c0_5, .int .i64 a0_6, .slice A0_7 l0_7.length c0_7, .int .i64 a0_8, .string a0_9]) (t := 32) ?hr ?_; (case hd => rfl); (case hg => rfl); (case hr => first | (go_simp; done) | (go_simp; rfl)); intro gb25001 hg w4 hbox hb; have n0_ := Aside0.mk (below_step (by repeat (first | (with_reducible first | exact HB.out | apply below_alloc | apply pw_below_drewN | apply below_drew1) | exact HB.out)) hb); have n1_ := Aside0.mk (hbox); have n2_ := Aside0.mk ((by rw [hg]; exact (below_size (by repeat (first | (with_reducible first | exact HB.out | apply below_alloc | apply pw_below_drewN | apply below_drew1) | exact HB.out))) : w.heap.size ≤ gb25001)); have n3_ := Aside0.mk ((by rw [hg]; exact (below_size (by repeat (first | (with_reducible first | exact HB.out | apply below_alloc | apply pw_below_drewN | apply below_drew1) | exact HB.out))) : w.heap.size ≤ gb25001)); clear HB; have HB := n0_; have BK25001 := n1_; have GW25001 := n2_; have GE25001 := n3_; clear n0_ n1_ n2_ n3_; clear hb hbox hg; have hcz5_0 : w4.cell? ⟨gb25001, 0, none⟩ = some (.slice A0_0 l0_0.length c0_0) := (blk_cell BK25001.out 0).trans rfl; have hcz5_1 : w4.cell? ⟨gb25001, 1, none⟩ = some (.slice A0_1 l0_1.length c0_1) := (blk_cell BK25001.out 1).trans rfl; have hcz5_2 : w4.cell? ⟨gb25001, 2, none⟩ = some (.slice A0_2 l0_2.length c0_2) := (blk_cell BK25001.out 2).trans rfl; have hcz5_3 : w4.cell? ⟨gb25001, 3, none⟩ = some (.slice A0_3 l0_3.length c0_3) := (blk_cell BK25001.out 3).trans rfl; have hcz5_4 : w4.cell? ⟨gb25001, 4, none⟩ = some (.int .u32 a0_4) := (blk_cell BK25001.out 4).trans rfl; have hcz5_5 : w4.cell? ⟨gb25001, 5, none⟩ = some (.slice A0_5 l0_5.length c0_5) := (blk_cell BK25001.out 5).trans rfl; have hcz5_6 : w4.cell? ⟨gb25001, 6, none⟩ = some (.int .i64 a0_6) := (blk_cell BK25001.out 6).trans rfl; have hcz5_7 : w4.cell? ⟨gb25001, 7, none⟩ = some (.slice A0_7 l0_7.length c0_7) := (blk_cell BK25001.out 7).trans rfl; have hcz5_8 : w4.cell? ⟨gb25001, 8, none⟩ = some (.int .i64 a0_8) := (blk_cell BK25001.out 8).trans rfl; have hcz5_9 : w4.cell? ⟨gb25001, 9, none⟩ = some (.string a0_9) := (blk_cell BK25001.out 9).trans rfl; have hfz5_0 := blk_frozen BK25001.out 0; have hfz5_1 := blk_frozen BK25001.out 1; have hfz5_2 := blk_frozen BK25001.out 2; have hfz5_3 := blk_frozen BK25001.out 3; have hfz5_4 := blk_frozen BK25001.out 4; have hfz5_5 := blk_frozen BK25001.out 5; have hfz5_6 := blk_frozen BK25001.out 6; have hfz5_7 := blk_frozen BK25001.out 7; have hfz5_8 := blk_frozen BK25001.out 8; have hfz5_9 := blk_frozen BK25001.out 9))
  go_loopg [8] k (fun kq v8 w' => ∃ (x8_1 : Int), v8 = .int .i64 x8_1 ∧ Aside0 (tinderref09_Method.l0 kq a1 a2 x8_1 l0_0 l0_1 l0_2 l0_3 a0_4 l0_5 a0_6 l0_7 a0_8 a0_9 = some (r1, r2)) ∧ Aside0 (kq ≤ k) ∧ Aside0 (w'.heap[gb25001]? = some (.cells #[(.slice A0_0 l0_0.length c0_0), (.slice A0_1 l0_1.length c0_1), (.slice A0_2 l0_2.length c0_2), (.slice A0_3 l0_3.length c0_3), .int .u32 a0_4, (.slice A0_5 l0_5.length c0_5), .int .i64 a0_6, (.slice A0_7 l0_7.length c0_7), .int .i64 a0_8, .string a0_9] 32 (0, 0))) ∧ Aside0 (Below w.heap.size w w'))
  case atStart => exact ⟨(wrap64 ((l0_2.length : Int) - 1)), (by first | rfl | (simp; done) | (simp [*]; done)), H', ⟨Nat.le_refl _⟩, ⟨by (with_reducible repeat (first | refine blk_drewN ?_ _ | refine blk_drew ?_ | refine blk_alloc ?_ _)); exact BK25001.out⟩, ⟨by repeat (first | (with_reducible first | exact HB.out | apply below_alloc | apply pw_below_drewN | apply below_drew1 | refine below_set ?_ GE25001.out) | exact HB.out)⟩⟩
  case round =>
    clear H'
    try clear c2
    try clear p2
    try clear hcz5_0
    try clear hcz5_1
    try clear hcz5_2
    try clear hcz5_3
    try clear hcz5_4
    try clear hcz5_5
    try clear hcz5_6
    try clear hcz5_7
    try clear hcz5_8
    try clear hcz5_9
    try clear hfz5_0
    try clear hfz5_1
    try clear hfz5_2
    try clear hfz5_3
    try clear hfz5_4
    try clear hfz5_5
    try clear hfz5_6
    try clear hfz5_7
    try clear hfz5_8
    try clear hfz5_9
    obtain ⟨x8_1, rfl, HA, HK1, BK25001, HB⟩ := hrel
    cases gk with
    | zero => exact absurd HA.out (by simp [tinderref09_Method.l0])
    | succ k1 =>
      have H := HA.out
      clear HA
      simp only [tinderref09_Method.l0] at H
      have HC6 := Aside0.mk H
      clear H
      go_upto_region 2 with (fail)
      go_cut [22] (fun v22 wc => ∃ (kq : Nat) (x22_5 : Bool), v22 = .bool x22_5 ∧ Aside0 (tinderref09_Method.j1 kq a1 a2 x8_1 x22_5 l0_0 l0_1 l0_2 l0_3 a0_4 l0_5 a0_6 l0_7 a0_8 a0_9 = some (r1, r2)) ∧ Aside0 (kq ≤ k1) ∧ Aside0 (wc.heap[gb25001]? = some (.cells #[(.slice A0_0 l0_0.length c0_0), (.slice A0_1 l0_1.length c0_1), (.slice A0_2 l0_2.length c0_2), (.slice A0_3 l0_3.length c0_3), .int .u32 a0_4, (.slice A0_5 l0_5.length c0_5), .int .i64 a0_6, (.slice A0_7 l0_7.length c0_7), .int .i64 a0_8, .string a0_9] 32 (0, 0))) ∧ Aside0 (Below w.heap.size w wc))
      case first =>
        have H := HC6.out
        clear HC6
        by_cases c7 : x8_1 ≥ 0
        · rw [if_pos c7] at H
          have c7b0 : decide (0 ≤ x8_1) = true := decide_eq_true c7
          clear c7
          (first | rw [c7b0] | (simp only [i64_w, i32_w]; rw [c7b0]) | skip)
          by_cases c8 : a2.toList = ([] : List UInt8)
          · rw [if_pos c8] at H
            have c8b0 : (a2.toList == ([] : List UInt8)) = true := beq_iff_eq.mpr c8
            have c8b1 : (a2.toList != ([] : List UInt8)) = false := bne_eq_false_iff_eq.mpr c8
            clear c8
            have H' := Aside0.mk H
            clear H
            go_wp2
            go_meet
            case rel => exact ⟨_, (false), (by first | rfl | (simp; done) | (simp [*]; done)), H', ⟨by have := HK1.out; first | omega | exact Nat.le_refl _⟩, ⟨by (with_reducible repeat (first | refine blk_drewN ?_ _ | refine blk_drew ?_ | refine blk_alloc ?_ _)); exact BK25001.out⟩, ⟨by repeat (first | (with_reducible first | exact HB.out | apply below_alloc | apply pw_below_drewN | apply below_drew1 | refine below_set ?_ GE25001.out) | exact HB.out)⟩⟩
          · rw [if_neg c8] at H
            have c8b0 : (a2.toList == ([] : List UInt8)) = false := beq_eq_false_iff_ne.mpr c8
            have c8b1 : (a2.toList != ([] : List UInt8)) = true := bne_iff_ne.mpr c8
            have H' := Aside0.mk H
            clear H
            go_wp2
            go_meet
            case rel => exact ⟨_, (decide (a1 ≥ 0)), (by first | rfl | (simp; done) | (simp [*]; done)), H', ⟨by have := HK1.out; first | omega | exact Nat.le_refl _⟩, ⟨by (with_reducible repeat (first | refine blk_drewN ?_ _ | refine blk_drew ?_ | refine blk_alloc ?_ _)); exact BK25001.out⟩, ⟨by repeat (first | (with_reducible first | exact HB.out | apply below_alloc | apply pw_below_drewN | apply below_drew1 | refine below_set ?_ GE25001.out) | exact HB.out)⟩⟩
        · rw [if_neg c7] at H
          have c7b0 : decide (0 ≤ x8_1) = false := decide_eq_false c7
          clear c7
          (first | rw [c7b0] | (simp only [i64_w, i32_w]; rw [c7b0]) | skip)
          have H' := Aside0.mk H
          clear H
          go_wp2
          go_meet
          case rel => exact ⟨_, (false), (by first | rfl | (simp; done) | (simp [*]; done)), H', ⟨by have := HK1.out; first | omega | exact Nat.le_refl _⟩, ⟨by (with_reducible repeat (first | refine blk_drewN ?_ _ | refine blk_drew ?_ | refine blk_alloc ?_ _)); exact BK25001.out⟩, ⟨by repeat (first | (with_reducible first | exact HB.out | apply below_alloc | apply pw_below_drewN | apply below_drew1 | refine below_set ?_ GE25001.out) | exact HB.out)⟩⟩
      case rest =>
        clear HC6
        try clear c2
        try clear p2
        try clear p6
        try clear c7
        try clear c7b0
        try clear c8
        try clear c8b0
        try clear c8b1
        try clear hcz5_0
        try clear hcz5_1
        try clear hcz5_2
        try clear hcz5_3
        try clear hcz5_4
        try clear hcz5_5
        try clear hcz5_6
        try clear hcz5_7
        try clear hcz5_8
        try clear hcz5_9
        try clear hfz5_0
        try clear hfz5_1
        try clear hfz5_2
        try clear hfz5_3
        try clear hfz5_4
        try clear hfz5_5
        try clear hfz5_6
        try clear hfz5_7
        try clear hfz5_8
        try clear hfz5_9
        try clear p2
        obtain ⟨kq, x22_5, rfl, HA, HJ5, BK25001, HB⟩ := hcut
        cases kq with
        | zero => exact absurd HA.out (by simp [tinderref09_Method.j1])
        | succ kj5 =>
          have H := HA.out
          clear HA
          simp only [tinderref09_Method.j1] at H
          by_cases c9 : x22_5 = true
          · subst c9
            have H1 : (if 0 ≤ x8_1 then (if x8_1 < (l0_2.length : Int) then (if ((rd_T51 l0_2 x8_1).f0).toList = a2.toList then (if ((rd_T51 l0_2 x8_1).f1) = a1 then (some (x8_1, true)) else (tinderref09_Method.l0 kj5 a1 a2 (wrap64 (x8_1 - 1)) l0_0 l0_1 l0_2 l0_3 a0_4 l0_5 a0_6 l0_7 a0_8 a0_9)) else (tinderref09_Method.l0 kj5 a1 a2 (wrap64 (x8_1 - 1)) l0_0 l0_1 l0_2 l0_3 a0_4 l0_5 a0_6 l0_7 a0_8 a0_9)) else (none)) else (none)) = some (r1, r2) := by rw [if_pos rfl] at H; exact H
            clear H
            have H := H1
            clear H1
            by_cases c10 : 0 ≤ x8_1
            · rw [if_pos c10] at H
              have c10b0 : decide (0 ≤ x8_1) = true := decide_eq_true c10
              clear c10
              by_cases c11 : x8_1 < (l0_2.length : Int)
              · rw [if_pos c11] at H
                have c11b0 : decide (x8_1 < (l0_2.length : Int)) = true := decide_eq_true c11
                clear c11
                by_cases c12 : ((rd_T51 l0_2 x8_1).f0).toList = a2.toList
                · rw [if_pos c12] at H
                  have c12b0 : (((rd_T51 l0_2 x8_1).f0).toList == a2.toList) = true := beq_iff_eq.mpr c12
                  have c12b1 : (((rd_T51 l0_2 x8_1).f0).toList != a2.toList) = false := bne_eq_false_iff_eq.mpr c12
                  clear c12
                  by_cases c13 : ((rd_T51 l0_2 x8_1).f1) = a1
                  · rw [if_pos c13] at H
                    have c13b0 : (((rd_T51 l0_2 x8_1).f1) == a1) = true := beq_iff_eq.mpr c13
                    have c13b1 : (((rd_T51 l0_2 x8_1).f1) != a1) = false := bne_eq_false_iff_eq.mpr c13
                    clear c13
                    simp only [Option.some.injEq, Prod.mk.injEq] at H
                    obtain ⟨rfl, rfl⟩ := H
                    have hcz14_0 : wc.cell? ⟨gb25001, 0, none⟩ = some (.slice A0_0 l0_0.length c0_0) := (blk_cell BK25001.out 0).trans rfl
                    have hcz14_1 : wc.cell? ⟨gb25001, 1, none⟩ = some (.slice A0_1 l0_1.length c0_1) := (blk_cell BK25001.out 1).trans rfl
                    have hcz14_2 : wc.cell? ⟨gb25001, 2, none⟩ = some (.slice A0_2 l0_2.length c0_2) := (blk_cell BK25001.out 2).trans rfl
                    have hcz14_3 : wc.cell? ⟨gb25001, 3, none⟩ = some (.slice A0_3 l0_3.length c0_3) := (blk_cell BK25001.out 3).trans rfl
                    have hcz14_4 : wc.cell? ⟨gb25001, 4, none⟩ = some (.int .u32 a0_4) := (blk_cell BK25001.out 4).trans rfl
                    have hcz14_5 : wc.cell? ⟨gb25001, 5, none⟩ = some (.slice A0_5 l0_5.length c0_5) := (blk_cell BK25001.out 5).trans rfl
                    have hcz14_6 : wc.cell? ⟨gb25001, 6, none⟩ = some (.int .i64 a0_6) := (blk_cell BK25001.out 6).trans rfl
                    have hcz14_7 : wc.cell? ⟨gb25001, 7, none⟩ = some (.slice A0_7 l0_7.length c0_7) := (blk_cell BK25001.out 7).trans rfl
                    have hcz14_8 : wc.cell? ⟨gb25001, 8, none⟩ = some (.int .i64 a0_8) := (blk_cell BK25001.out 8).trans rfl
                    have hcz14_9 : wc.cell? ⟨gb25001, 9, none⟩ = some (.string a0_9) := (blk_cell BK25001.out 9).trans rfl
                    have hfz14_0 := blk_frozen BK25001.out 0
                    have hfz14_1 := blk_frozen BK25001.out 1
                    have hfz14_2 := blk_frozen BK25001.out 2
                    have hfz14_3 := blk_frozen BK25001.out 3
                    have hfz14_4 := blk_frozen BK25001.out 4
                    have hfz14_5 := blk_frozen BK25001.out 5
                    have hfz14_6 := blk_frozen BK25001.out 6
                    have hfz14_7 := blk_frozen BK25001.out 7
                    have hfz14_8 := blk_frozen BK25001.out 8
                    have hfz14_9 := blk_frozen BK25001.out 9
                    have p25002 : 0 ≤ (x8_1 : Int) := of_decide_eq_true (by first | (with_reducible assumption) | assumption)
                    have q25002 : x8_1 < (l0_2.length : Int) := of_decide_eq_true (by first | (with_reducible assumption) | assumption)
                    obtain ⟨ad25002, A25002_4, c25002_4, e25002, hx25002_0, hx25002_1, hx25002_2, hx25002_3, hx25002_4, hl25002_4, hi25002_4⟩ := at_T51 HR0_2.out x8_1 p25002 q25002
                    cases e25002
                    replace hx25002_0 := (HB.out.cell (World.block_lt_of_cell? w _ hx25002_0)).trans hx25002_0
                    replace hx25002_1 := (HB.out.cell (World.block_lt_of_cell? w _ hx25002_1)).trans hx25002_1
                    replace hx25002_2 := (HB.out.cell (World.block_lt_of_cell? w _ hx25002_2)).trans hx25002_2
                    replace hx25002_3 := (HB.out.cell (World.block_lt_of_cell? w _ hx25002_3)).trans hx25002_3
                    replace hx25002_4 := (HB.out.cell (World.block_lt_of_cell? w _ hx25002_4)).trans hx25002_4
                    have HR25002_4 := Aside0.mk hi25002_4
                    have HC25002_4 := Aside0.mk hl25002_4
                    clear hi25002_4 hl25002_4
                    replace p25002 := eq_true p25002
                    replace q25002 := eq_true q25002
                    have p25003 : 0 ≤ (x8_1 : Int) := of_decide_eq_true (by first | (with_reducible assumption) | assumption)
                    have q25003 : x8_1 < (l0_2.length : Int) := of_decide_eq_true (by first | (with_reducible assumption) | assumption)
                    obtain ⟨ad25003, A25003_4, c25003_4, e25003, hx25003_0, hx25003_1, hx25003_2, hx25003_3, hx25003_4, hl25003_4, hi25003_4⟩ := at_T51 HR0_2.out x8_1 p25003 q25003
                    obtain rfl : ad25002 = ad25003 := (by injection e25003)
                    replace hx25003_0 := (HB.out.cell (World.block_lt_of_cell? w _ hx25003_0)).trans hx25003_0
                    replace hx25003_1 := (HB.out.cell (World.block_lt_of_cell? w _ hx25003_1)).trans hx25003_1
                    replace hx25003_2 := (HB.out.cell (World.block_lt_of_cell? w _ hx25003_2)).trans hx25003_2
                    replace hx25003_3 := (HB.out.cell (World.block_lt_of_cell? w _ hx25003_3)).trans hx25003_3
                    replace hx25003_4 := (HB.out.cell (World.block_lt_of_cell? w _ hx25003_4)).trans hx25003_4
                    have HR25003_4 := Aside0.mk hi25003_4
                    have HC25003_4 := Aside0.mk hl25003_4
                    clear hi25003_4 hl25003_4
                    replace p25003 := eq_true p25003
                    replace q25003 := eq_true q25003
                    have ea_ := Option.some.inj (hx25002_4.symm.trans hx25003_4)
                    injection ea_ with ea_ en_ ec_
                    subst ea_
                    subst ec_
                    clear en_
                    go_wp2
                    go_ret2
                    exact ⟨by first | rfl | (simp [errW_none, errW_some] <;> rfl) | (simp [*, errW_none, errW_some] <;> rfl), by repeat (first | (with_reducible first | exact HB.out | apply below_alloc | apply pw_below_drewN | apply below_drew1 | refine below_set ?_ GE25001.out) | exact HB.out)⟩
                  · rw [if_neg c13] at H
                    have c13b0 : (((rd_T51 l0_2 x8_1).f1) == a1) = false := beq_eq_false_iff_ne.mpr c13
                    have c13b1 : (((rd_T51 l0_2 x8_1).f1) != a1) = true := bne_iff_ne.mpr c13
                    have H' := Aside0.mk H
                    clear H
                    have hcz15_0 : wc.cell? ⟨gb25001, 0, none⟩ = some (.slice A0_0 l0_0.length c0_0) := (blk_cell BK25001.out 0).trans rfl
                    have hcz15_1 : wc.cell? ⟨gb25001, 1, none⟩ = some (.slice A0_1 l0_1.length c0_1) := (blk_cell BK25001.out 1).trans rfl
                    have hcz15_2 : wc.cell? ⟨gb25001, 2, none⟩ = some (.slice A0_2 l0_2.length c0_2) := (blk_cell BK25001.out 2).trans rfl
                    have hcz15_3 : wc.cell? ⟨gb25001, 3, none⟩ = some (.slice A0_3 l0_3.length c0_3) := (blk_cell BK25001.out 3).trans rfl
                    have hcz15_4 : wc.cell? ⟨gb25001, 4, none⟩ = some (.int .u32 a0_4) := (blk_cell BK25001.out 4).trans rfl
                    have hcz15_5 : wc.cell? ⟨gb25001, 5, none⟩ = some (.slice A0_5 l0_5.length c0_5) := (blk_cell BK25001.out 5).trans rfl
                    have hcz15_6 : wc.cell? ⟨gb25001, 6, none⟩ = some (.int .i64 a0_6) := (blk_cell BK25001.out 6).trans rfl
                    have hcz15_7 : wc.cell? ⟨gb25001, 7, none⟩ = some (.slice A0_7 l0_7.length c0_7) := (blk_cell BK25001.out 7).trans rfl
                    have hcz15_8 : wc.cell? ⟨gb25001, 8, none⟩ = some (.int .i64 a0_8) := (blk_cell BK25001.out 8).trans rfl
                    have hcz15_9 : wc.cell? ⟨gb25001, 9, none⟩ = some (.string a0_9) := (blk_cell BK25001.out 9).trans rfl
                    have hfz15_0 := blk_frozen BK25001.out 0
                    have hfz15_1 := blk_frozen BK25001.out 1
                    have hfz15_2 := blk_frozen BK25001.out 2
                    have hfz15_3 := blk_frozen BK25001.out 3
                    have hfz15_4 := blk_frozen BK25001.out 4
                    have hfz15_5 := blk_frozen BK25001.out 5
                    have hfz15_6 := blk_frozen BK25001.out 6
                    have hfz15_7 := blk_frozen BK25001.out 7
                    have hfz15_8 := blk_frozen BK25001.out 8
                    have hfz15_9 := blk_frozen BK25001.out 9
                    have p25002 : 0 ≤ (x8_1 : Int) := of_decide_eq_true (by first | (with_reducible assumption) | assumption)
                    have q25002 : x8_1 < (l0_2.length : Int) := of_decide_eq_true (by first | (with_reducible assumption) | assumption)
                    obtain ⟨ad25002, A25002_4, c25002_4, e25002, hx25002_0, hx25002_1, hx25002_2, hx25002_3, hx25002_4, hl25002_4, hi25002_4⟩ := at_T51 HR0_2.out x8_1 p25002 q25002
                    cases e25002
                    replace hx25002_0 := (HB.out.cell (World.block_lt_of_cell? w _ hx25002_0)).trans hx25002_0
                    replace hx25002_1 := (HB.out.cell (World.block_lt_of_cell? w _ hx25002_1)).trans hx25002_1
                    replace hx25002_2 := (HB.out.cell (World.block_lt_of_cell? w _ hx25002_2)).trans hx25002_2
                    replace hx25002_3 := (HB.out.cell (World.block_lt_of_cell? w _ hx25002_3)).trans hx25002_3
                    replace hx25002_4 := (HB.out.cell (World.block_lt_of_cell? w _ hx25002_4)).trans hx25002_4
                    have HR25002_4 := Aside0.mk hi25002_4
                    have HC25002_4 := Aside0.mk hl25002_4
                    clear hi25002_4 hl25002_4
                    replace p25002 := eq_true p25002
                    replace q25002 := eq_true q25002
                    have p25003 : 0 ≤ (x8_1 : Int) := of_decide_eq_true (by first | (with_reducible assumption) | assumption)
                    have q25003 : x8_1 < (l0_2.length : Int) := of_decide_eq_true (by first | (with_reducible assumption) | assumption)
                    obtain ⟨ad25003, A25003_4, c25003_4, e25003, hx25003_0, hx25003_1, hx25003_2, hx25003_3, hx25003_4, hl25003_4, hi25003_4⟩ := at_T51 HR0_2.out x8_1 p25003 q25003
                    obtain rfl : ad25002 = ad25003 := (by injection e25003)
                    replace hx25003_0 := (HB.out.cell (World.block_lt_of_cell? w _ hx25003_0)).trans hx25003_0
                    replace hx25003_1 := (HB.out.cell (World.block_lt_of_cell? w _ hx25003_1)).trans hx25003_1
                    replace hx25003_2 := (HB.out.cell (World.block_lt_of_cell? w _ hx25003_2)).trans hx25003_2
                    replace hx25003_3 := (HB.out.cell (World.block_lt_of_cell? w _ hx25003_3)).trans hx25003_3
                    replace hx25003_4 := (HB.out.cell (World.block_lt_of_cell? w _ hx25003_4)).trans hx25003_4
                    have HR25003_4 := Aside0.mk hi25003_4
                    have HC25003_4 := Aside0.mk hl25003_4
                    clear hi25003_4 hl25003_4
                    replace p25003 := eq_true p25003
                    replace q25003 := eq_true q25003
                    have ea_ := Option.some.inj (hx25002_4.symm.trans hx25003_4)
                    injection ea_ with ea_ en_ ec_
                    subst ea_
                    subst ec_
                    clear en_
                    go_wp2
                    go_roundg kj5
                    case measure => have := HK1.out; have := HJ5.out; omega
                    case rel => exact ⟨(wrap64 (x8_1 - 1)), (by first | rfl | (simp; done) | (simp [*]; done)), H', ⟨by have := HK1.out; have := HJ5.out; omega⟩, ⟨by (with_reducible repeat (first | refine blk_drewN ?_ _ | refine blk_drew ?_ | refine blk_alloc ?_ _)); exact BK25001.out⟩, ⟨by repeat (first | (with_reducible first | exact HB.out | apply below_alloc | apply pw_below_drewN | apply below_drew1 | refine below_set ?_ GE25001.out) | exact HB.out)⟩⟩
                · rw [if_neg c12] at H
                  have c12b0 : (((rd_T51 l0_2 x8_1).f0).toList == a2.toList) = false := beq_eq_false_iff_ne.mpr c12
                  have c12b1 : (((rd_T51 l0_2 x8_1).f0).toList != a2.toList) = true := bne_iff_ne.mpr c12
                  have H' := Aside0.mk H
                  clear H
                  have hcz16_0 : wc.cell? ⟨gb25001, 0, none⟩ = some (.slice A0_0 l0_0.length c0_0) := (blk_cell BK25001.out 0).trans rfl
                  have hcz16_1 : wc.cell? ⟨gb25001, 1, none⟩ = some (.slice A0_1 l0_1.length c0_1) := (blk_cell BK25001.out 1).trans rfl
                  have hcz16_2 : wc.cell? ⟨gb25001, 2, none⟩ = some (.slice A0_2 l0_2.length c0_2) := (blk_cell BK25001.out 2).trans rfl
                  have hcz16_3 : wc.cell? ⟨gb25001, 3, none⟩ = some (.slice A0_3 l0_3.length c0_3) := (blk_cell BK25001.out 3).trans rfl
                  have hcz16_4 : wc.cell? ⟨gb25001, 4, none⟩ = some (.int .u32 a0_4) := (blk_cell BK25001.out 4).trans rfl
                  have hcz16_5 : wc.cell? ⟨gb25001, 5, none⟩ = some (.slice A0_5 l0_5.length c0_5) := (blk_cell BK25001.out 5).trans rfl
                  have hcz16_6 : wc.cell? ⟨gb25001, 6, none⟩ = some (.int .i64 a0_6) := (blk_cell BK25001.out 6).trans rfl
                  have hcz16_7 : wc.cell? ⟨gb25001, 7, none⟩ = some (.slice A0_7 l0_7.length c0_7) := (blk_cell BK25001.out 7).trans rfl
                  have hcz16_8 : wc.cell? ⟨gb25001, 8, none⟩ = some (.int .i64 a0_8) := (blk_cell BK25001.out 8).trans rfl
                  have hcz16_9 : wc.cell? ⟨gb25001, 9, none⟩ = some (.string a0_9) := (blk_cell BK25001.out 9).trans rfl
                  have hfz16_0 := blk_frozen BK25001.out 0
                  have hfz16_1 := blk_frozen BK25001.out 1
                  have hfz16_2 := blk_frozen BK25001.out 2
                  have hfz16_3 := blk_frozen BK25001.out 3
                  have hfz16_4 := blk_frozen BK25001.out 4
                  have hfz16_5 := blk_frozen BK25001.out 5
                  have hfz16_6 := blk_frozen BK25001.out 6
                  have hfz16_7 := blk_frozen BK25001.out 7
                  have hfz16_8 := blk_frozen BK25001.out 8
                  have hfz16_9 := blk_frozen BK25001.out 9
                  have p25002 : 0 ≤ (x8_1 : Int) := of_decide_eq_true (by first | (with_reducible assumption) | assumption)
                  have q25002 : x8_1 < (l0_2.length : Int) := of_decide_eq_true (by first | (with_reducible assumption) | assumption)
                  obtain ⟨ad25002, A25002_4, c25002_4, e25002, hx25002_0, hx25002_1, hx25002_2, hx25002_3, hx25002_4, hl25002_4, hi25002_4⟩ := at_T51 HR0_2.out x8_1 p25002 q25002
                  cases e25002
                  replace hx25002_0 := (HB.out.cell (World.block_lt_of_cell? w _ hx25002_0)).trans hx25002_0
                  replace hx25002_1 := (HB.out.cell (World.block_lt_of_cell? w _ hx25002_1)).trans hx25002_1
                  replace hx25002_2 := (HB.out.cell (World.block_lt_of_cell? w _ hx25002_2)).trans hx25002_2
                  replace hx25002_3 := (HB.out.cell (World.block_lt_of_cell? w _ hx25002_3)).trans hx25002_3
                  replace hx25002_4 := (HB.out.cell (World.block_lt_of_cell? w _ hx25002_4)).trans hx25002_4
                  have HR25002_4 := Aside0.mk hi25002_4
                  have HC25002_4 := Aside0.mk hl25002_4
                  clear hi25002_4 hl25002_4
                  replace p25002 := eq_true p25002
                  replace q25002 := eq_true q25002
                  go_wp2
                  go_roundg kj5
                  case measure => have := HK1.out; have := HJ5.out; omega
                  case rel => exact ⟨(wrap64 (x8_1 - 1)), (by first | rfl | (simp; done) | (simp [*]; done)), H', ⟨by have := HK1.out; have := HJ5.out; omega⟩, ⟨by (with_reducible repeat (first | refine blk_drewN ?_ _ | refine blk_drew ?_ | refine blk_alloc ?_ _)); exact BK25001.out⟩, ⟨by repeat (first | (with_reducible first | exact HB.out | apply below_alloc | apply pw_below_drewN | apply below_drew1 | refine below_set ?_ GE25001.out) | exact HB.out)⟩⟩
              · rw [if_neg c11] at H
                exact absurd H (by simp)
            · rw [if_neg c10] at H
              exact absurd H (by simp)
          · replace c9 := Bool.eq_false_iff.mpr c9
            subst c9
            have H1 : (some (0, false)) = some (r1, r2) := by rw [if_neg (show ¬ (false = true) by decide)] at H; exact H
            clear H
            have H := H1
            clear H1
            simp only [Option.some.injEq, Prod.mk.injEq] at H
            obtain ⟨rfl, rfl⟩ := H
            go_wp2
            go_ret2
            exact ⟨by first | rfl | (simp [errW_none, errW_some] <;> rfl) | (simp [*, errW_none, errW_some] <;> rfl), by repeat (first | (with_reducible first | exact HB.out | apply below_alloc | apply pw_below_drewN | apply below_drew1 | refine below_set ?_ GE25001.out) | exact HB.out)⟩

end Go.Proofs.Ytfpkakedlapmkaa.Q
end
section
namespace Go.Proofs.Ytfpkakedlapmkaa.Q
open Go.RowKit Go.Shelf
/-- How a round may be left. -/
def RoundPost (Kp : World → World → Prop) (I : Nat → World → Prop) (Ix : Code → Nat → World → Prop) (k : Nat) (W : World) : Exit → Act → World → Prop
  | .normal, _, W' => KeepsOthers W W' ∧ Kp W W' ∧ I k W'
  | .ret, _, W' => KeepsOthers W W' ∧ Ix .ret k W'
  | .exit id, _, W' => KeepsOthers W W' ∧ Ix (.exit id) k W'
  | _, _, _ => False
/-- The iterator hands on the list L, one by one; between two rounds it goes by Ab; a round that goes on keeps Kp. -/
def SeqL (n : Nat) (P : Program) (gf : Nat) (lb : Array Value) (Ab Kp : World → World → Prop) (L : List (Array Value)) (w : World) : Prop :=
  ∀ (l : Nat) (J Jx : Nat → World → Prop) (W : World), Below w.heap.size w W → W.heap.size = w.heap.size + 2 → (∀ k A B, J k A → Ab A B → J k B) → (∀ k A B, Jx k A → Ab A B → Jx k B) →
    (∀ (k : Nat) (hk : k < L.length) (A : World), J k A → YieldAt Fence.wide (n - 1) P l L[k] A fun e B => (e = .returned (.bool true) ∧ J (k + 1) B ∧ Kp A B) ∨ (e = .returned (.bool false) ∧ Jx (k + 1) B)) →
    J 0 W → CallsIn Fence.wide n P gf (#[.func (.yield l) #[] #[]] ++ lb) W fun e B => (∃ v, e = .returned v) ∧ (J L.length B ∨ ∃ k, k ≤ L.length ∧ Jx k B)
section
variable {n : Nat} {P : Program}
theorem wp_rangeL {g : Operand} {ps : Array Tmp} {assign body : Code} {Q : Exit → Act → World → Prop} {a : Act} {w : World} (h1 : 1 ≤ n) {gf : Nat} {lb : Array Value} (hg : a.eval g = .func (.func gf) #[] lb) (eg : ∀ args w, (callFunc gf args).run P w = .ok (.enter gf args) w)
    {Ab Kp : World → World → Prop} {L : List (Array Value)} (hseq : SeqL (n - 1) P gf lb Ab Kp L w) (hAb : ∀ {A B : World} {i : Nat} {o : Obj}, Ab A B → A.heap[i]? = some o → o.isCells = false → B.heap[i]? = some o)
    (hKt : ∀ {A B C : World}, Kp A B → Kp B C → Kp A C) (hKb : ∀ (W : World) (l : Nat) (o o' : Obj), w.heap.size ≤ l → W.heap[l]? = some o → o.isCells = false → o.isWalk = false → Kp W (W.putObj l o')) (hps : ∀ x ∈ L, x.size = ps.size)
    (I : Nat → World → Prop) (Ix : Code → Nat → World → Prop) (hI : OwnFrom w.heap.size I) (hIx : ∀ c, OwnFrom w.heap.size (Ix c)) (hIA : ∀ k A B, I k A → Ab A B → I k B) (hXA : ∀ c k A B, Ix c k A → Ab A B → Ix c k B) (h0 : I 0 w) (Ax : Nat → Act → World → Prop) (hAx : ∀ (k : Nat) (a' : Act) (W : World) (l : Nat) (o o' : Obj), w.heap.size ≤ l → W.heap[l]? = some o → o.isCells = false → Ax k a' W → Ax k a' (W.putObj l o'))
    (hassign : ∀ (l k : Nat) (hk : k < L.length) (W : World) (K : Act → World → Prop), I k W → (∀ a' W', Ax k a' W' → KeepsOthers W W' → Kp W W' → I k W' → K a' W') →
      assign.wpIn (Fence.wide.inRound l) (n - 1 - 1) P (Exit.then K (fun _ _ _ => False)) { tmps := (ps.zip L[k]).foldl (fun t (p, v) => t.setIfInBounds p v) a.tmps, defers := [] } W)
    (hbody : ∀ (l k : Nat) (a' : Act) (W : World), k < L.length → Ax k a' W → I k W → body.wpIn (Fence.wide.inRound l) (n - 1 - 1) P (RoundPost Kp I Ix (k + 1) W) a' W)
    (hdone : ∀ (D : Nat) (W : World), w.heap.size ≤ D → I L.length W → W.heap[D]? = some (.deferred (some [])) → Q .normal { a with defers := { target := .collected D, args := #[] } :: a.defers } W)
    (hstop : ∀ (D : Nat) (c : Code) (k : Nat) (W : World), w.heap.size ≤ D → k ≤ L.length → Ix c k W → W.heap[D]? = some (.deferred (some [])) → c.wpIn Fence.wide n P Q { a with defers := { target := .collected D, args := #[] } :: a.defers } W) :
    (Code.rangeFunc g ps assign body).wpIn Fence.wide n P Q a w := by
  refine wpIn_rangeFunc ?_
  intro fn hfn
  obtain ⟨R, hR⟩ : ∃ R : LoopState → Option Code → Loop, R = fun st pe => { state := st, pending := pe, fn, tmps := a.tmps, params := ps, assign, body, defers := w.heap.size } := ⟨_, rfl⟩
  obtain ⟨V, hV⟩ : ∃ V, V = (w.alloc (.deferred (some []))).alloc (.loop (R .ready none)) := ⟨_, rfl⟩
  have sL : V.heap[w.heap.size + 1]? = some (.loop (R .ready none)) := by
    have := World.alloc_heap_new (w.alloc (.deferred (some []))) (.loop (R .ready none))
    rw [World.size_alloc] at this
    rw [hV]; exact this
  have sD : V.heap[w.heap.size]? = some (.deferred (some [])) := by rw [hV]; exact (Below.heap_alloc _ _ _ (by simp)).trans (World.alloc_heap_new w _)
  have sI : I 0 V := by rw [hV]; exact hI.alloc _ (hI.alloc _ h0)
  have sB : Below w.heap.size w V := by rw [hV]; exact ((Below.refl _ w).alloc (Nat.le_refl _) _).alloc (by simp) _
  refine ⟨w.heap.size + 1, [{ target := .collected w.heap.size, args := #[] }], V, { target := .fn (.func gf) lb, args := #[.func (.yield (w.heap.size + 1)) #[] #[]] }, V, gf, #[.func (.yield (w.heap.size + 1)) #[] #[]] ++ lb, V, ?_, ?_, ?_, ?_, fun _ => h1, ?_⟩
  · rw [hV, hR]; exact run_enterLoop_outer _ _ _ _ _
  · simp only [resolve, hg]
    simp [go_sem]
  · intro f' hf'; simp [Target.leads] at hf'; subst hf'; trivial
  · simp [invoke, go_sem, eg]
  · refine (hseq (w.heap.size + 1) (fun k W => I k W ∧ W.heap[w.heap.size + 1]? = some (.loop (R .ready none)) ∧ W.heap[w.heap.size]? = some (.deferred (some [])))
      (fun k W => ∃ c, Ix c k W ∧ W.heap[w.heap.size + 1]? = some (.loop (R .done (some c))) ∧ W.heap[w.heap.size]? = some (.deferred (some []))) V sB (by rw [hV, World.size_alloc, World.size_alloc])
      (fun k A B h hab => ⟨hIA k A B h.1 hab, hAb hab h.2.1 rfl, hAb hab h.2.2 rfl⟩) (fun k A B h hab => by obtain ⟨c, h1, h2, h3⟩ := h; exact ⟨c, hXA c k A B h1 hab, hAb hab h2 rfl, hAb hab h3 rfl⟩) ?_ ⟨sI, sL, sD⟩).mono ?_
    · rintro k hk W ⟨hi, hl, hd⟩
      have hlt : w.heap.size + 1 < W.heap.size := (Array.getElem?_eq_some_iff.1 hl).1
      have hy := run_yield (P := P) (args := L[k]) hl (by rw [hR]; exact hps _ (List.getElem_mem hk))
      rw [hR] at hy
      refine ⟨fn, _, assign, body, hy, roundIn_of_wpIn hfn (hassign _ k hk W _ hi (fun a' W' hax hko hkp hi' => ?_))⟩
      have hl' := hko.same _ _ hl rfl
      have hd' := hko.same _ _ hd rfl
      have hlt : w.heap.size + 1 < W'.heap.size := (Array.getElem?_eq_some_iff.1 hl').1
      refine ⟨_, run_beginRound hl' (by rw [hR]), ?_⟩
      obtain ⟨U, hU⟩ : ∃ U, U = W'.putObj (w.heap.size + 1) (.loop { R .ready none with state := .busy }) := ⟨_, rfl⟩
      have uL : U.heap[w.heap.size + 1]? = some (.loop { R .ready none with state := .busy }) := by rw [hU]; exact World.putObj_heap_same hlt
      have uD : U.heap[w.heap.size]? = some (.deferred (some [])) := by rw [hU]; exact (World.putObj_heap_other (by omega)).trans hd'
      have uK : Kp W U := hKt hkp (by rw [hU]; exact hKb _ _ _ _ (by omega) hl' rfl rfl)
      have uI : I k U := by rw [hU]; exact hI.putObj _ hi' (by omega) hl' rfl
      have uX : Ax k a' U := by rw [hU]; exact hAx _ _ _ _ _ _ (by omega) hl' rfl hax
      rw [← hU]
      refine wpIn_mono (hbody _ k a' U hk uX uI) ?_
      have last : ∀ (jump : Option Code) (X : World), KeepsOthers U X → X.heap[w.heap.size + 1]? = some (.loop { R .ready none with state := .busy }) ∧ ∃ Y, Y = X.putObj (w.heap.size + 1) (.loop (R (if jump.isNone then .ready else .done) jump)) ∧ (Instr.endRound (w.heap.size + 1) jump).run P X = .ok (.bool jump.isNone) Y ∧
          Y.heap[w.heap.size + 1]? = some (.loop (R (if jump.isNone then .ready else .done) jump)) ∧ Y.heap[w.heap.size]? = some (.deferred (some [])) := fun jump X hx => by
        have xL := hx.same _ _ uL rfl
        have hr := run_endRound (P := P) jump xL
        refine ⟨xL, _, rfl, ?_, World.putObj_heap_same (Array.getElem?_eq_some_iff.1 xL).1, (World.putObj_heap_other (by omega)).trans (hx.same _ _ uD rfl)⟩
        rw [hR] at hr ⊢
        exact hr
      rintro e a3 X hp
      cases e with
      | normal =>
        obtain ⟨x1, x2, x3⟩ := hp
        obtain ⟨xL, Y, hY, hr, yL, yD⟩ := last none X x1
        exact ⟨_, _, hr, .inl ⟨rfl, ⟨by rw [hY]; exact hI.putObj _ x3 (by omega) xL rfl, yL, yD⟩, hKt (hKt uK x2) (by rw [hY]; exact hKb _ _ _ _ (by omega) xL rfl rfl)⟩⟩
      | ret =>
        obtain ⟨x1, x3⟩ := hp
        obtain ⟨xL, Y, hY, hr, yL, yD⟩ := last (some .ret) X x1
        exact ⟨_, _, hr, .inr ⟨rfl, .ret, by rw [hY]; exact (hIx _).putObj _ x3 (by omega) xL rfl, yL, yD⟩⟩
      | exit id =>
        obtain ⟨x1, x3⟩ := hp
        obtain ⟨xL, Y, hY, hr, yL, yD⟩ := last (some (.exit id)) X x1
        exact ⟨_, _, hr, .inr ⟨rfl, .exit id, by rw [hY]; exact (hIx _).putObj _ x3 (by omega) xL rfl, yL, yD⟩⟩
      | goto t => exact hp.elim
      | panic ch => exact hp.elim
      | outgrown => exact hp.elim
    · rintro e X ⟨⟨v, rfl⟩, (⟨hi, hl, hd⟩ | ⟨k, hk, c, hi, hl, hd⟩)⟩
      · have hr := run_endLoop (P := P) hl (by rw [hR]; simp)
        rw [hR] at hr
        exact ⟨none, _, hr, hdone _ _ (Nat.le_refl _) (hI.putObj _ hi (by omega) hl rfl) ((World.putObj_heap_other (by omega)).trans hd)⟩
      · have hr := run_endLoop (P := P) hl (by rw [hR]; simp)
        rw [hR] at hr
        exact ⟨some c, _, hr, hstop _ c k _ (Nat.le_refl _) hk ((hIx c).putObj _ hi (by omega) hl rfl) ((World.putObj_heap_other (by omega)).trans hd)⟩
end
end Go.Proofs.Ytfpkakedlapmkaa.Q
end
section
namespace Go.Proofs.Ytfpkakedlapmkaa.Q
open Go.RowKit Go.Proofs.YtfpkakedlapmkaaW.PrintWords Go.Proofs.YtfpkakedlapmkaaW.PrintLast Go.Proofs.YtfpkakedlapmkaaW.PrintMore
theorem Addr_add_zero (a : Addr) : a.add 0 = a := by
  cases a with | mk b o s => unfold Addr.add; split <;> simp_all
/-- Where a cut from 'lo' on begins. -/
def cutAt (A : Option Addr) (cap lo sz : Nat) : Option Addr := if cap = lo then A else A.map (·.add (lo * sz))
theorem sliced_eq (A : Option Addr) (lo hi cap s : Nat) : sliced A lo hi cap s = .slice (cutAt A cap lo s) (hi - lo) (cap - lo) := by
  simp [sliced, cutAt]
section
variable {P : Program} {t e : TypeId} {sz : Nat}
theorem run_size (hi : (P.info? e).map (·.size) = some sz) (W : World) : (sizeOf e).run P W = .ok sz W := by
  obtain ⟨i, h1, h2⟩ := Option.map_eq_some_iff.1 hi
  subst h2
  rw [run_sizeOf W h1]; simp [Program.cellsOf, h1]
theorem run_cut_hi (ht : P.underlying t = some (.slice e)) (hi : (P.info? e).map (·.size) = some sz) (A : Option Addr) (n c : Nat) (j : Int) (h0 : 0 ≤ j) (hm : j ≤ c) (W : World) :
    (Instr.slice t (.slice A n c) none (some (.int .i64 j)) none).run P W = .ok (.slice A j.toNat c) W := by
  have hel : P.elem t = e := by simp [Program.elem, ht]
  rw [run_slice_h W t A n c (by rw [hel]; exact ht) .i64 j h0 hm, hel, run_size hi]
  simp [Result.andThen, sliced_eq, cutAt]
  intro _
  cases A <;> simp [Addr_add_zero]
end
/-! copy -/
section
variable {P : Program} {ops : Array Oper} {rest : List Oper} {o : Oper} {a : Act} {Q : Exit → Act → World → Prop}
end
/-! rows whose elements lead nowhere -/
section
variable {α : Type} {d : Kd α} {e base : Nat} {ok : Nat → Prop} {W w1 : World} {v : Value} {xs : List α}
end
end Go.Proofs.Ytfpkakedlapmkaa.Q
end
section
set_option linter.unusedSimpArgs false
set_option linter.unusedVariables false
namespace Go.Proofs.Ytfpkakedlapmkaa.Q
open Go.RowKit Go.Shelf Go.Proofs.YtfpkakedlapmkaaW.PrintWords Go.Proofs.YtfpkakedlapmkaaW.PrintLast
attribute [local go_sem] Oper.semAt_some
def flat37 (l : List S37) : List Value := l.flatMap fun p => [.string p.f0, .int .i64 p.f1]
theorem flat37_get : ∀ (l : List S37) (i : Nat), i < l.length → (flat37 l)[i * 2]? = some (.string (l.getD i z37).f0) ∧ (flat37 l)[i * 2 + 1]? = some (.int .i64 (l.getD i z37).f1)
  | [], i, h => absurd h (by simp)
  | x :: l, 0, _ => ⟨rfl, rfl⟩
  | x :: l, i + 1, h => by
    have h2 := flat37_get l i (by simpa using h)
    have e1 : (i + 1) * 2 = i * 2 + 1 + 1 := by omega
    have e : flat37 (x :: l) = .string x.f0 :: .int .i64 x.f1 :: flat37 l := rfl
    rw [e, e1]
    simpa using h2
/-- Between two rounds: what lay lies. -/
def AbA (A B : World) : Prop := Below A.heap.size A B
/-- A round keeps one block of words. -/
def KpB (b : Nat) (A B : World) : Prop := ∀ cells, A.heap[b]? = some (.cells cells 37 (0, 0)) → B.heap[b]? = some (.cells cells 37 (0, 0))
def pV (l : List S37) (k : Nat) : Array Value := #[.int .i64 k, .agg #[.string (l.getD k z37).f0, .int .i64 (l.getD k z37).f1]]
def primsV (l : List S37) : List (Array Value) := (List.range l.length).map (pV l)
set_option maxHeartbeats 2000000 in
set_option maxRecDepth 100000 in
theorem prims_seq1 (pl : List S37) (hlen : pl.length = 111) (HP : ∀ X, Calls Try.prog 14 #[] X fun e w' => e = .returned (.slice (some ⟨X.heap.size, 0, none⟩) 111 111) ∧ w' = X.alloc (.cells (flat37 pl).toArray 37 (0, 0))) (n : Nat) (hn : 2 ≤ n) (w : World) :
    SeqL n Try.prog 36 #[] AbA (KpB (w.heap.size + 2)) (primsV pl) w := by
  intro l J Jx W hW hsz hJ hJx hY h0
  have hu37 := Try.underlying37
  have hu34 := Try.underlying34
  have HP := Aside0.mk HP
  have hg := Aside0.mk (flat37_get pl)
  have hk0 : (primsV pl).length = 111 := by simp [primsV, hlen]
  have hJ0 := hJ 0 W (W.alloc (.cells (flat37 pl).toArray 37 (0, 0))) h0 (below_alloc (Below.refl _ _) _)
  have hb0 := blk_new W (.cells (flat37 pl).toArray 37 (0, 0))
  rw [← hsz] at hY
  clear hW h0 hsz
  refine callsIn_of_wp Try.func36 rfl trivial ?_ rfl
  simp only [Try.ntmps36, List.size_toArray, List.length_cons, List.length_nil, Nat.reduceAdd, Nat.reduceSub, Array.replicate_succ, Array.replicate_zero, List.push_toArray, List.append_toArray, List.nil_append, List.cons_append]
  have h1n : 1 ≤ n := by omega
  gi_wp2_with (refine ⟨trivial, ?_⟩; gi_at_call 14; refine (callsIn_wide.2 (HP.out _)).mono ?_; rintro e w1 ⟨rfl, rfl⟩)
  gi_loopw [6] (fun v wr => ∃ i : Nat, v = .int .i64 i ∧ i ≤ 111 ∧ J i wr ∧ wr.heap[W.heap.size]? = some (.cells (flat37 pl).toArray 37 (0, 0))) (fun v _ => 111 - (intOf v).toNat)
  case atStart => exact ⟨0, rfl, by omega, hJ0, hb0⟩
  case round =>
    obtain ⟨i, rfl, hi, hJi, hb⟩ := hrel
    clear hJ0 hb0
    by_cases h : i = 111
    · subst h
      gi_wp2
      go_end0
      exact ⟨⟨_, rfl⟩, .inl (hk0.symm ▸ hJi)⟩
    · have hlt : i < 111 := by omega
      have d1 : decide ((i : Int) < 111) = true := decide_eq_true (by omega)
      obtain ⟨g0, g1⟩ := hg.out i (by omega)
      have c0 := (blk_cell hb (i * 2)).trans ((by simpa using g0 : (flat37 pl).toArray[i * 2]? = _))
      have c1 := (blk_cell hb (i * 2 + 1)).trans ((by simpa using g1 : (flat37 pl).toArray[i * 2 + 1]? = _))
      have q1 : (0 ≤ (i : Int)) = True := eq_true (by omega)
      have q2 : ((i : Int) < 111) = True := eq_true (by omega)
      have q3 : ((i : Int)).toNat = i := by omega
      have hil : i < pl.length := by omega
      obtain ⟨x, hx⟩ : ∃ x, x = pl[i] := ⟨_, rfl⟩
      have hgx : (pl[i]?.getD z37) = x := by rw [hx]; simp [hil]
      have hki : i < (primsV pl).length := by omega
      have hL : (primsV pl)[i] = #[.int .i64 i, .agg #[.string x.f0, .int .i64 x.f1]] := by simp [primsV, pV, hgx, hil, hx]
      rw [hgx] at c0 c1
      obtain ⟨fn, tmps, assign, body, hy, hR⟩ := hY i hki (wr.alloc (.cells #[.string x.f0, .int .i64 x.f1] 37)) (hJ _ _ _ hJi (below_alloc (Below.refl _ _) _))
      rw [hL] at hy
      have hb2 := blk_alloc hb (.cells #[.string x.f0, .int .i64 x.f1] 37 (0, 0))
      have HI := Aside0.mk hki
      clear hx hgx hL g0 g1
      gi_wp2
      refine hR.mono ?_
      rintro e W3 (⟨rfl, hJ3, hk3⟩ | ⟨rfl, hJx3⟩)
      · have hb3 := hk3 _ hb2
        gi_wp2
        go_roundw
        case rel => exact ⟨i + 1, by first | rfl | simp, by omega, hJ3, hb3⟩
        case measure => simp [intOf]; omega
      · gi_wp2
        refine bodyPost_ret (results_none rfl _ _ _) rfl ?_
        exact ⟨⟨_, rfl⟩, .inr ⟨i + 1, HI.out, hJx3⟩⟩
end Go.Proofs.Ytfpkakedlapmkaa.Q
end
section
set_option linter.unusedSimpArgs false
set_option linter.unusedVariables false
namespace Go.Proofs.Ytfpkakedlapmkaa.Q
open Go.RowKit Go.Shelf Go.Proofs.YtfpkakedlapmkaaW.PrintWords Go.Proofs.YtfpkakedlapmkaaW.PrintLast
attribute [local go_sem] Oper.semAt_some
theorem kpB_t {b : Nat} {A B C : World} (h : KpB b A B) (k : KpB b B C) : KpB b A C := fun c e => k c (h c e)
theorem kpB_put {b l : Nat} {W : World} {o o' : Obj} (ho : W.heap[l]? = some o) (hc : o.isCells = false) : KpB b W (W.putObj l o') := fun c e => by
  have hne : l ≠ b := by
    intro h2
    subst h2
    rw [ho] at e
    cases e
    cases hc
  exact (World.putObj_heap_other (fun h2 => hne h2.symm)).trans e
theorem kpB_below {b : Nat} {A B : World} (h : Below A.heap.size A B) : KpB b A B := fun c e => (h.block b (Array.getElem?_eq_some_iff.1 e).1).trans e
theorem abA_keeps {A B : World} {i : Nat} {o : Obj} (h : AbA A B) (ho : A.heap[i]? = some o) (_ : o.isCells = false) : B.heap[i]? = some o := (h.block i (Array.getElem?_eq_some_iff.1 ho).1).trans ho
theorem boxed_below {A B : World} {b : Nat} {t : TypeId} {v : Value} (h : Boxed A b t v) (hab : Below A.heap.size A B) : Boxed B b t v := (hab.block b (Array.getElem?_eq_some_iff.1 h).1).trans h
theorem below_ab {w A B : World} (h : Below w.heap.size w A) (hab : Below A.heap.size A B) : Below w.heap.size w B := below_step h hab
def CodeI (pl : List S37) (c : Int) (w : World) (k : Nat) (W : World) : Prop :=
  ((∀ j, j < k → (pl.getD j z37).f1 ≠ c) ∧ Boxed W (w.heap.size + 1) 3 (.int .i64 c) ∧ Boxed W (w.heap.size + 1 + 1) 3 (.int .i64 0) ∧ Boxed W (w.heap.size + 1 + 1 + 1) 4 (.bool false)) ∧ Below w.heap.size w W
def CodeX (pl : List S37) (c : Int) (w : World) (cc : Code) (k : Nat) (W : World) : Prop :=
  ((cc = .ret ∧ ∃ i : Nat, i < 111 ∧ (pl.getD i z37).f1 = c ∧ (∀ j, j < i → (pl.getD j z37).f1 ≠ c) ∧ Boxed W (w.heap.size + 1 + 1) 3 (.int .i64 i)) ∧ Boxed W (w.heap.size + 1 + 1 + 1) 4 (.bool true)) ∧ Below w.heap.size w W
theorem codeI_own (pl : List S37) (c : Int) (w : World) (B : Nat) (hB : w.heap.size ≤ B) : OwnFrom B (CodeI pl c w) :=
  OwnFrom.and (OwnFrom.and (fun _ _ _ _ h _ _ => h) (OwnFrom.and (Own.from (boxed_own _ _ _) _) (OwnFrom.and (Own.from (boxed_own _ _ _) _) (Own.from (boxed_own _ _ _) _)))) (ownFrom_below (Nat.le_refl _) hB)
theorem codeX_own (pl : List S37) (c : Int) (w : World) (cc : Code) (B : Nat) (hB : w.heap.size ≤ B) : OwnFrom B (CodeX pl c w cc) :=
  OwnFrom.and (OwnFrom.and (fun s X Y row h hg hr => ⟨h.1, by obtain ⟨i, h1, h2, h3, h4⟩ := h.2; exact ⟨i, h1, h2, h3, (Own.from (boxed_own (β := Nat) _ _ (fun _ => .int .i64 i)) B) s X Y row h4 hg hr⟩⟩) (Own.from (boxed_own _ _ _) _)) (ownFrom_below (Nat.le_refl _) hB)
theorem codeI_abs (pl : List S37) (c : Int) (w : World) (k : Nat) (A B : World) (h : CodeI pl c w k A) (hab : AbA A B) : CodeI pl c w k B :=
  ⟨⟨h.1.1, boxed_below h.1.2.1 hab, boxed_below h.1.2.2.1 hab, boxed_below h.1.2.2.2 hab⟩, below_ab h.2 hab⟩
theorem codeX_abs (pl : List S37) (c : Int) (w : World) (cc : Code) (k : Nat) (A B : World) (h : CodeX pl c w cc k A) (hab : AbA A B) : CodeX pl c w cc k B := by
  obtain ⟨⟨⟨h0, i, h1, h2, h3, h4⟩, h5⟩, h6⟩ := h
  exact ⟨⟨⟨h0, i, h1, h2, h3, boxed_below h4 hab⟩, boxed_below h5 hab⟩, below_ab h6 hab⟩
/-- The loop's variables in a round: its number, its word in a box. -/
def AxP (pl : List S37) (n0 : Nat) (tm : Nat → Nat → S37 → Array Value) (k : Nat) (a' : Act) (W : World) : Prop :=
  ∃ b, n0 ≤ b ∧ W.heap[b]? = some (.cells #[.string (pl.getD k z37).f0, .int .i64 (pl.getD k z37).f1] 37 (0, 0)) ∧ a' = { tmps := tm k b (pl.getD k z37), defers := [] }
theorem axP_put (pl : List S37) (n0 : Nat) (tm : Nat → Nat → S37 → Array Value) (k : Nat) (a' : Act) (W : World) (l : Nat) (o o' : Obj) (ho : W.heap[l]? = some o) (hc : o.isCells = false) (h : AxP pl n0 tm k a' W) : AxP pl n0 tm k a' (W.putObj l o') := by
  obtain ⟨b, hb0, hb, rfl⟩ := h
  exact ⟨b, hb0, kpB_put ho hc _ hb, rfl⟩
def primIdx (pl : List S37) (c : Int) : Int × Bool := match pl.findIdx? (fun p => p.f1 == c) with
  | some i => ((i : Int), true)
  | none => (0, false)
theorem primIdx_none (pl : List S37) (c : Int) (h : ∀ j, j < pl.length → (pl.getD j z37).f1 ≠ c) : primIdx pl c = (0, false) := by
  have : pl.findIdx? (fun p => p.f1 == c) = none := by
    rw [List.findIdx?_eq_none_iff]
    intro x hx
    obtain ⟨j, hj, rfl⟩ := List.mem_iff_getElem.1 hx
    have := h j hj
    rw [List.getD_eq_getElem?_getD, List.getElem?_eq_getElem hj] at this
    simpa using this
  rw [primIdx, this]
theorem primIdx_some (pl : List S37) (c : Int) (i : Nat) (hi : i < pl.length) (h0 : (pl.getD i z37).f1 = c) (h : ∀ j, j < i → (pl.getD j z37).f1 ≠ c) : primIdx pl c = ((i : Int), true) := by
  have : pl.findIdx? (fun p => p.f1 == c) = some i := by
    rw [List.findIdx?_eq_some_iff_getElem]
    refine ⟨hi, ?_, ?_⟩
    · rw [List.getD_eq_getElem?_getD, List.getElem?_eq_getElem hi] at h0
      simpa using h0
    · intro j hj
      have := h j hj
      rw [List.getD_eq_getElem?_getD, List.getElem?_eq_getElem (by omega)] at this
      simpa using this
  rw [primIdx, this]
def codeF (codes : List Int) (c : Int) : Int × Bool := if c < 2048 then primIdx [] c else if c - 2048 < codes.length ∧ rd codes (c - 2048) ≠ -1 then (rd codes (c - 2048), true) else (0, false)
set_option maxRecDepth 100000 in
theorem cells_end (f : Nat) (F : Func) (hres : F.results = #[.cell 4 3, .cell 5 4]) (w X : World) (B2 B3 D : Nat) (hD : D ≠ B2 ∧ D ≠ B3 ∧ w.heap.size ≤ D) (tmps : Array Value) (i : Int) (bb : Bool) (ht2 : tmps.getD 4 undef = .pointer (some ⟨B2, 0, none⟩)) (ht3 : tmps.getD 5 undef = .pointer (some ⟨B3, 0, none⟩))
    (hK : X.heap[D]? = some (.deferred (some []))) (g1 : Boxed X B2 3 (.int .i64 i)) (g2 : Boxed X B3 4 (.bool bb)) (hB : Below w.heap.size w X) :
    bodyPostM Fence.wide 5 Try.prog F (fun e W' => e = .returned (.tuple #[.int .i64 i, .bool bb]) ∧ Below w.heap.size w W') Exit.ret { tmps := tmps, defers := [{ target := .collected D, args := #[] }] } X := by
  refine ⟨by simp, .inl ⟨_, _, rfl, run_takeDeferred hK, ?_⟩⟩
  have k1 : Boxed (X.putObj D (.deferred none)) B2 3 (.int .i64 i) := (World.putObj_heap_other (by omega)).trans g1
  have k2 : Boxed (X.putObj D (.deferred none)) B3 4 (.bool bb) := (World.putObj_heap_other (by omega)).trans g2
  have c1 := k1.cell
  have c2 := k2.cell
  refine ⟨_, ?_, rfl, hB.trans (belowK_b (w := w) (Nat.le_refl _) X D _ _ (by omega) hK rfl rfl)⟩
  rw [Array.getD_eq_getD_getElem?] at ht2 ht3
  simp [results, hres, go_sem, ht2, ht3, c1, c2]
set_option maxHeartbeats 4000000 in
set_option maxRecDepth 100000 in
theorem code_low (pl : List S37) (hlen : pl.length = 111) (HP : ∀ X, Calls Try.prog 14 #[] X fun e w' => e = .returned (.slice (some ⟨X.heap.size, 0, none⟩) 111 111) ∧ w' = X.alloc (.cells (flat37 pl).toArray 37 (0, 0)))
    (v0 v1 v2 v3 : Value) (a4 : Int) (v5 : Value) (a6 : Int) (v7 : Value) (a8 : Int) (a9 : ByteArray) (c : Int) (hc : c < 2048) (w : World) :
    Calls Try.prog 17 #[.agg #[v0, v1, v2, v3, .int .u32 a4, v5, .int .i64 a6, v7, .int .i64 a8, .string a9], .int .i64 c] w fun e w' => e = .returned (.tuple #[.int .i64 (primIdx pl c).1, .bool (primIdx pl c).2]) ∧ Below w.heap.size w w' := by
  refine (callsIn_wide (n := 5)).1 ?_
  have HSq := Aside0.mk (fun W0 : World => prims_seq1 pl hlen HP 4 (by decide) W0)
  obtain ⟨R, hR⟩ : ∃ R, R = primIdx pl c := ⟨_, rfl⟩
  rw [← hR]
  obtain ⟨r1, r2⟩ := R
  have HR := Aside0.mk hR
  clear HP hR
  refine callsIn_of_wp_marks Try.func17 rfl trivial ?_ rfl
  simp only [Try.ntmps17, List.size_toArray, List.length_cons, List.length_nil, Nat.reduceAdd, Nat.reduceSub, Array.replicate_succ, Array.replicate_zero, List.push_toArray, List.append_toArray, List.nil_append, List.cons_append]
  have d1 : decide (c < 2048) = true := decide_eq_true hc
  gi_wp2
  obtain ⟨W0, hW0⟩ : ∃ W0, W0 = (((w.alloc (.cells #[v0, v1, v2, v3, .int .u32 a4, v5, .int .i64 a6, v7, .int .i64 a8, .string a9] 32)).alloc (.cells #[.int .i64 c] 3)).alloc (.cells #[.int .i64 0] 3)).alloc (.cells #[.bool false] 4) := ⟨_, rfl⟩
  have b1 : Boxed W0 (w.heap.size + 1) 3 (.int .i64 c) := by
    rw [hW0]
    have h := (((Boxed.new (w.alloc (.cells #[v0, v1, v2, v3, .int .u32 a4, v5, .int .i64 a6, v7, .int .i64 a8, .string a9] 32)) 3 (.int .i64 c)).alloc (.cells #[.int .i64 0] 3)).alloc (.cells #[.bool false] 4))
    rw [World.size_alloc] at h
    exact h
  have b2 : Boxed W0 (w.heap.size + 1 + 1) 3 (.int .i64 0) := by
    rw [hW0]
    have h := (Boxed.new ((w.alloc (.cells #[v0, v1, v2, v3, .int .u32 a4, v5, .int .i64 a6, v7, .int .i64 a8, .string a9] 32)).alloc (.cells #[.int .i64 c] 3)) 3 (.int .i64 0)).alloc (.cells #[.bool false] 4)
    rw [World.size_alloc, World.size_alloc] at h
    exact h
  have b3 : Boxed W0 (w.heap.size + 1 + 1 + 1) 4 (.bool false) := by
    rw [hW0]
    have h := Boxed.new (((w.alloc (.cells #[v0, v1, v2, v3, .int .u32 a4, v5, .int .i64 a6, v7, .int .i64 a8, .string a9] 32)).alloc (.cells #[.int .i64 c] 3)).alloc (.cells #[.int .i64 0] 3)) 4 (.bool false)
    rw [World.size_alloc, World.size_alloc, World.size_alloc] at h
    exact h
  have hB0 : Below w.heap.size w W0 := by rw [hW0]; exact below_alloc (below_alloc (below_alloc (below_alloc (Below.refl _ _) _) _) _) _
  have hs0 : W0.heap.size = w.heap.size + 4 := by rw [hW0]; simp
  rw [← hW0]
  clear hW0
  have hLl : (primsV pl).length = 111 := by simp [primsV, hlen]
  refine wp_rangeL (by omega) (gf := 36) (lb := #[]) rfl (enters_of Try.func36 (by kernel_rfl) rfl)
    (HSq.out W0) abA_keeps kpB_t (fun W l o o' hl ho hoc _ => kpB_put ho hoc) ?hps
    (CodeI pl c w) (CodeX pl c w) (codeI_own pl c w _ (by omega)) (fun cc => codeX_own pl c w cc _ (by omega)) (codeI_abs pl c w) (codeX_abs pl c w)
    ⟨⟨fun j hj => absurd hj (by omega), b1, b2, b3⟩, hB0⟩
    (AxP pl w.heap.size (fun k b x => #[.agg #[v0, v1, v2, v3, .int .u32 a4, v5, .int .i64 a6, v7, .int .i64 a8, .string a9], .int .i64 c, .pointer (some ⟨w.heap.size, 0, none⟩), .pointer (some ⟨w.heap.size + 1, 0, none⟩), .pointer (some ⟨w.heap.size + 1 + 1, 0, none⟩), .pointer (some ⟨w.heap.size + 1 + 1 + 1, 0, none⟩), .int .i64 (k : Int), .pointer (some ⟨b, 0, none⟩), .int .i64 c, .bool true, .int .i64 (k : Int), .agg #[.string x.f0, .int .i64 x.f1], undef, undef, undef, undef, undef, undef, undef, undef, undef, undef, undef, undef, undef, undef, undef, undef, undef, undef, undef, undef, undef, undef, undef, undef, undef])) (fun k a' W l o o' hl ho hc h => axP_put _ _ _ k a' W l o o' ho hc h) ?assign ?body ?done ?stop
  case hps =>
    intro x hx
    obtain ⟨p, _, rfl⟩ := List.mem_map.1 hx
    rfl
  case assign =>
    intro l' k hk W K hI hK
    obtain ⟨x, hx⟩ : ∃ x, x = pl.getD k z37 := ⟨_, rfl⟩
    have e : (primsV pl)[k] = #[.int .i64 k, .agg #[.string x.f0, .int .i64 x.f1]] := by rw [hx]; simp [primsV, pV]
    rw [e]
    have hab : AbA W (W.alloc (.cells #[.string x.f0, .int .i64 x.f1] 37 (0, 0))) := below_alloc (Below.refl _ _) _
    have hK2 := hK _ (W.alloc (.cells #[.string x.f0, .int .i64 x.f1] 37 (0, 0))) ⟨W.heap.size, hI.2.size, by rw [← hx]; exact blk_new W _, rfl⟩ (KeepsOthers.alloc _ _) (kpB_below hab) (codeI_abs pl c w k _ _ hI hab)
    rw [← hx] at hK2
    clear e hx hK hI
    gi_wp2
    exact hK2
  case body =>
    rintro l' k a' W hk0 ⟨b, hb0, hbx, rfl⟩ ⟨⟨hne, h1, h2, h3⟩, hB⟩
    have hk : k < 111 := by omega
    obtain ⟨x, hx⟩ : ∃ x, x = pl.getD k z37 := ⟨_, rfl⟩
    rw [← hx] at hbx
    simp only [← hx]
    have cx := (blk_cell hbx 1).trans rfl
    have hc1 := h1.cell
    have hc2 := h2.cell
    have hf2 := h2.frozen
    have hc3 := h3.cell
    have hf3 := h3.frozen
    by_cases he : x.f1 = c
    · have d2 : (x.f1 == c) = true := by simp [he]
      have HX := Aside0.mk hx
      have HE := Aside0.mk he
      clear hx he hk0 hbx
      gi_wp2
      have hx := HX.out
      exact ⟨(KeepsOthers.setCell _ _ _).trans (KeepsOthers.setCell _ _ _), ⟨⟨⟨rfl, k, hk, by rw [← hx]; exact HE.out, hne, (h2.set _).other (by omega) _⟩, (h3.other (by omega) _).set _⟩, below_set (below_set hB (by omega)) (by omega)⟩⟩
    · have d2 : (x.f1 == c) = false := beq_false_of_ne he
      have HX := Aside0.mk hx
      have HE := Aside0.mk he
      clear hx he hk0 hbx
      gi_wp2
      have hx := HX.out
      exact ⟨KeepsOthers.refl _, fun _ h => h, ⟨fun j hj => by
        rcases Nat.lt_or_eq_of_le (Nat.le_of_lt_succ hj) with h | h
        · exact hne j h
        · rw [h, ← hx]; exact HE.out, h1, h2, h3⟩, hB⟩
  case done =>
    rintro D W hD ⟨⟨hne, h1, h2, h3⟩, hB⟩ hK
    have hpr := primIdx_none pl c (by rw [hlen, ← hLl]; exact hne)
    obtain ⟨rfl, rfl⟩ := Prod.mk.injEq .. ▸ (HR.out.trans hpr)
    have hc2 := h2.cell
    have hf2 := h2.frozen
    have hc3 := h3.cell
    have hf3 := h3.frozen
    clear hpr
    gi_wp2
    exact cells_end 17 _ Try.results17 w _ _ _ D ⟨by omega, by omega, by omega⟩ _ _ _ rfl rfl (((KeepsOthers.setCell _ _ _).trans (KeepsOthers.setCell _ _ _)).same D _ hK rfl) ((h2.set _).other (by omega) _) ((h3.other (by omega) _).set _) (below_set (below_set hB (by omega)) (by omega))
  case stop =>
    rintro D cc k W hD hkk ⟨⟨⟨rfl, i, hi, hx, hne, h2⟩, h3⟩, hB⟩ hK
    obtain ⟨rfl, rfl⟩ := Prod.mk.injEq .. ▸ (HR.out.trans (primIdx_some pl c i (by omega) hx hne))
    clear hx
    gi_wp2
    exact cells_end 17 _ Try.results17 w _ _ _ D ⟨by omega, by omega, by omega⟩ _ _ _ rfl rfl hK h2 h3 hB
end Go.Proofs.Ytfpkakedlapmkaa.Q
end
section
namespace Go.Proofs.Ytfpkakedlapmkaa.Q
open Go.RowKit Go.Proofs.YtfpkakedlapmkaaW.PrintWords Go.Proofs.YtfpkakedlapmkaaW.PrintLast
section
variable {P : Program} {ops : Array Oper} {Q : Exit → Act → World → Prop} {md : Region.Mode} {n lr : Nat}
theorem rowsIn_wide {row : String} {args : Array Value} {w : World} {R : Value → World → Prop} (h : Rows P row args w R) : RowsIn (Fence.wide.inRound lr) n P row args w R :=
  fun c cs _ => let ⟨v, w', r, s⟩ := h c cs; ⟨v, w', r, stepsIn_wide.2 s⟩
theorem oper_in {o : Oper} {a : Act} {w : World} {K : Act → World → Prop} (hnd : ∀ c, o.op ≠ .defer c) (h : o.wp P a w K Q) : o.wpIn (Fence.wide.inRound lr) n P a w K Q := by
  refine ⟨fun _ _ => trivial, ?_⟩
  rw [Oper.semAt_plain _ _ _ hnd]
  unfold Oper.wp at h
  generalize (execOp a.eval o).run P w = r at h ⊢
  cases r with
  | ok x w' =>
    cases x with
    | value v => exact h
    | skip => exact h
    | defer d => exact h
    | enter f args => exact ⟨(fun hd => by cases hd), CallsIn.inRound lr (callsIn_wide.2 h)⟩
    | row row args => exact ⟨(fun hd => by cases hd), rowsIn_wide h⟩
    | _ => exact h.elim
  | halt x w' =>
    cases x with
    | panic v => exact h
    | _ => exact h.elim
theorem op_in {i : Nat} {a : Act} {w : World} {K : Act → World → Prop} (hnd : ∀ (i : Nat) (o : Oper), ops[i]? = some o → ∀ c, o.op ≠ .defer c) (hlo : ¬ LetsOut Q) (h : wpOp P ops Q i K a w) : wpOpIn (Fence.wide.inRound lr) n P ops Q i K a w := by
  unfold wpOp at h
  unfold wpOpIn
  cases ho : ops[i]? with
  | none => rw [ho] at h; exact h
  | some o =>
    rw [ho] at h
    dsimp only at h ⊢
    split
    · rename_i hw
      rw [if_pos hw] at h
      rcases h with h | ⟨_, h⟩
      · exact oper_in (hnd i o ho) h
      · exact absurd h hlo
    · rename_i hw
      rw [if_neg hw] at h
      exact ⟨fun _ _ => trivial, h⟩
theorem any_in (hnd : ∀ (i : Nat) (o : Oper), ops[i]? = some o → ∀ c, o.op ≠ .defer c) (hlo : ¬ LetsOut Q) : ∀ (fuel : Nat) (listed : Array Bool) (a : Act) (w : World), wpAny P md ops Q fuel listed a w → wpAnyIn (Fence.wide.inRound lr) n P md ops Q fuel listed a w
  | 0, _, _, _, h => h
  | fuel + 1, _, _, _, h => ⟨h.1, fun i hi => wpOpIn_mono (fun a w h => any_in hnd hlo fuel _ a w h) (op_in hnd hlo (h.2 i hi))⟩
def noDefer (o : Oper) : Bool := match o.op with | .defer _ => false | _ => true
theorem noDefer_spec (h : ops.all noDefer = true) : ∀ (i : Nat) (o : Oper), ops[i]? = some o → ∀ c, o.op ≠ .defer c := fun i o ho c hc => by
  have := Array.all_eq_true_iff_forall_mem.1 h o (Array.mem_of_getElem? ho)
  unfold noDefer at this
  rw [hc] at this
  cases this
theorem start_in {S : World → Prop} {ds : List Nat} {id m : Nat} {a : Act} {w : World} (l : Array Bool) (hm : P.follows .mixedOrders = true) (hn : ops.size = m) (hl : Array.replicate m false = l) (hS : S w.drew) (hnd : ops.all noDefer = true) (hlo : ¬ LetsOut Q)
    (h : S w.drew → wpAnyLast P .any ops Q S ds m l a w.drew) : (Code.region id ops true).wpIn (Fence.wide.inRound lr) n P Q a w := by
  subst hn
  subst hl
  exact wpIn_region_any hm (any_in (noDefer_spec hnd) hlo _ _ _ _ (wpAny_of_last _ _ _ _ (h hS)))
end
end Go.Proofs.Ytfpkakedlapmkaa.Q
end
section
namespace Go.Proofs.Ytfpkakedlapmkaa.Q
open Go.RowKit Go.Proofs.YtfpkakedlapmkaaW.PrintWords Go.Proofs.YtfpkakedlapmkaaW.PrintLast Go.Proofs.YtfpkakedlapmkaaW.PrintMore
set_option linter.unusedVariables false
set_option linter.unusedSimpArgs false

attribute [local go_sem] max2_int min2_int max_two min_two max_three min_three max_four min_four
/-! ### tree_New: function 35 -/
def tree_New.f  : Option ((List (S91))) := some (([(⟨(⟨#[]⟩ : ByteArray), ([] : List Int), (-1), ([] : List (S106)), ([] : List Int)⟩ : S91)] : List (S91)))
set_option maxHeartbeats 8000000 in
set_option maxRecDepth 100000 in
theorem tree_New.calls  (r : List (S91)) (w : World) (h : tree_New.f  = some r) :
    Calls Try.prog 35 #[] w fun e w' => ∃ v0_ : Value, e = .returned (v0_) ∧ Kd.R k91 91 w' w.heap.size (fun _ => True) v0_ r ∧ Below w.heap.size w w' := by
  have hu91 := Try.underlying91
  have HB := Aside0.mk (Below.refl w.heap.size w)
  have H : (some (([(⟨(⟨#[]⟩ : ByteArray), ([] : List Int), (-1), ([] : List (S106)), ([] : List Int)⟩ : S91)] : List (S91)))) = some r := h
  clear h
  obtain ⟨y36001, hy36001⟩ : ∃ y_ : List (S91), y_ = (([(⟨(⟨#[]⟩ : ByteArray), ([] : List Int), (-1), ([] : List (S106)), ([] : List Int)⟩ : S91)] : List (S91))) := ⟨_, rfl⟩
  replace H : (some y36001) = some r := by first | (rw [hy36001]; with_reducible exact H) | (have H2_ := (Option.bind_some _ _).symm.trans H; rw [hy36001]; with_reducible exact H2_) | (have H2_ := (Option.bind_some _ _).symm.trans H; with_reducible exact H2_) | with_reducible exact H | (rw [hy36001]; exact H) | exact H
  have Ny36001 := Aside0.mk hy36001
  clear hy36001
  obtain rfl := Option.some.inj H
  go_enter Try.func35, Try.ntmps35
  go_wp2_with (first | ((with_reducible refine gate_dst (N := 2) rfl ?_); refine Kd.R_lit k91 _ 91 ?hg (N := 2) ?hd (xs := ([(⟨(⟨#[]⟩ : ByteArray), ([] : List Int), (-1), ([] : List (S106)), ([] : List Int)⟩ : S91)] : List (S91))) (inner := [.string (⟨#[]⟩ : ByteArray), .slice none 0 0, .int .i64 (-1), .slice none 0 0, .slice none 0 0]) (ok := fun _ => True) (okp := fun _ => True) ?hr ?hp (fun _ hk => hk) trivial (Below.refl _ _) (Nat.le_refl _) (by simp) ?_; (case hd => rfl); (case hg => rfl); (case hr => first | (go_simp; done) | (go_simp; rfl)); (case hp => exact (Reps.c5 (show Kd.M k91 _ _ _ (⟨(⟨#[]⟩ : ByteArray), ([] : List Int), (-1), ([] : List (S106)), ([] : List Int)⟩ : S91) [.string (⟨#[]⟩ : ByteArray), .slice none 0 0, .int .i64 (-1), .slice none 0 0, .slice none 0 0] from (k91_mkM _ _ _ (⟨(⟨#[]⟩ : ByteArray), ([] : List Int), (-1), ([] : List (S106)), ([] : List Int)⟩ : S91) (Kd.R_nil _ _ _ _ _) (Kd.R_nil _ _ _ _ _) (Kd.R_nil _ _ _ _ _))) (Reps.none _ _))); intro v36002 w1 ho2 hb hg_ hnew_; clear hg_ hnew_; (first | rw [← Ny36001.out] at ho2 | (simp only [Int.reduceToNat] at ho2; rw [← Ny36001.out] at ho2)); have n0_ := Aside0.mk (Kd.R_lower ho2 (below_size (by repeat (first | (with_reducible first | exact HB.out | apply below_alloc | apply pw_below_drewN | apply below_drew1) | exact HB.out)))); have n1_ := Aside0.mk (below_step (by repeat (first | (with_reducible first | exact HB.out | apply below_alloc | apply pw_below_drewN | apply below_drew1) | exact HB.out)) hb); clear HB; have HO36003 := n0_; have HB := n1_; clear n0_ n1_; clear hb ho2))
  go_ret
  exact ⟨_, by first | rfl | (simp [errW_none, errW_some] <;> rfl) | (simp [*, errW_none, errW_some] <;> rfl), by (with_reducible repeat (first | apply Kd.R_alloc | apply Kd.R_drewN | apply Kd.R_drew)); exact HO36003.out, by repeat (first | (with_reducible first | exact HB.out | apply below_alloc | apply pw_below_drewN | apply below_drew1) | exact HB.out)⟩

end Go.Proofs.Ytfpkakedlapmkaa.Q
end
