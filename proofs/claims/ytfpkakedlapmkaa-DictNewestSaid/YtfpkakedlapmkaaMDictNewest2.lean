/- Contracts of Go functions and plain facts, of several texts, one behind the other; no condition. -/
import Derived.Test.YtfpkakedlapmkaaProg
import Derived.Below
import Derived.Deep.Draws
import Derived.Deep.AppendLies
import Derived.Maps.AppendAt
import Derived.OwnWalk
import Derived.Laws.BytesArg
import Derived.Laws.MakeOwn
import Derived.Laws.OwnMore
import Derived.Deep.OwnRows
import Derived.Tactics
import Derived.Lib.ConvBytes
import Derived.Laws.Slices
import Derived.WalkKit
import Derived.KernelRfl
import Derived.RowKit3
import Derived.Deep.LoopGhost
import Derived.Deep.QuietTactic
import Derived.BigQuiet
import Derived.WideLaws
import Derived.Deep.DeepCutAuto
import Derived.Deep.CutBlock
import Derived.Deep.RegionHeld3
import Derived.Laws.Rows
import Derived.Lib.AppendStr
import Derived.ArgAppend
import Derived.Laws.IdiomCopy
import Derived.OrdersHeld
import Derived.Laws.BitsLemmas
import Derived.RowKit
import Derived.Test.YtfpkakedlapmkaaMDictNewest1
import Derived.WalkSpells
import Derived.Laws.CopyOwn
import Derived.Laws.RangeString
import Derived.Laws.RangeAny
import Derived.RangeFuncNested
import Derived.RangeFuncBound
import Derived.RangeFuncCalls
import Derived.RangeFuncLeaves
import Derived.OwnWalkIn
import Derived.OrdersIn
import Derived.Shelf.Abstract
import Derived.TacticsInMore
import Derived.LoopNIn
import Derived.LoopIn
import Derived.Sort.QuietIn
import Derived.RangeFuncWrites
import Derived.RangeFuncBox
section
namespace Go.Proofs.Ytfpkakedlapmkaa.Q
open Go.RowKit Go.Proofs.YtfpkakedlapmkaaW.PrintWords Go.Proofs.YtfpkakedlapmkaaW.PrintLast Go.Proofs.YtfpkakedlapmkaaW.PrintMore
set_option linter.unusedVariables false
set_option linter.unusedSimpArgs false

def errW : Option Int → Value
  | none => .nilIface
  | some c => .iface 0 (.int .i64 c)
theorem errW_none : errW none = .nilIface := rfl
theorem errW_some (c : Int) : errW (some c) = .iface 0 (.int .i64 c) := rfl

theorem info3 : (Try.prog.info? 3).map (fun i => (i.zero, i.size, i.bytes)) = some (some (.int .i64 0), 1, 8) := by kernel_rfl
theorem info5 : (Try.prog.info? 5).map (fun i => (i.zero, i.size, i.bytes)) = some (some (.int .u8 0), 1, 1) := by kernel_rfl
theorem info28 : (Try.prog.info? 28).map (fun i => (i.zero, i.size, i.bytes)) = some (some (.int .u32 0), 1, 4) := by kernel_rfl
theorem info51 : (Try.prog.info? 51).map (fun i => (i.zero, i.size, i.bytes)) = some (some (.agg #[(.string ⟨#[]⟩), (.int .i64 0), (.int .i64 0), (.int .u32 0), (.slice none 0 0)]), 5, 64) := by kernel_rfl
theorem info69 : (Try.prog.info? 69).map (fun i => (i.zero, i.size, i.bytes)) = some (some (.agg #[(.int .i64 0), (.int .u32 0)]), 2, 16) := by kernel_rfl
theorem info82 : (Try.prog.info? 82).map (fun i => (i.zero, i.size, i.bytes)) = some (some (.agg #[(.int .i64 0), (.int .i64 0), (.string ⟨#[]⟩), (.slice none 0 0)]), 4, 56) := by kernel_rfl
theorem info91 : (Try.prog.info? 91).map (fun i => (i.zero, i.size, i.bytes)) = some (some (.agg #[(.string ⟨#[]⟩), (.slice none 0 0), (.int .i64 0), (.slice none 0 0), (.slice none 0 0)]), 5, 96) := by kernel_rfl
theorem info106 : (Try.prog.info? 106).map (fun i => (i.zero, i.size, i.bytes)) = some (some (.agg #[(.string ⟨#[]⟩), (.slice none 0 0)]), 2, 40) := by kernel_rfl
-- the values' own types
/-! #### struct type 7 -/
structure S7 where
  f0 : Int
  f1 : Int
  f2 : Bool
  f3 : Int
def z7 : S7 := ⟨(0 : Int), (0 : Int), false, (0 : Int)⟩
def k7 : Kd S7 := Kd.iso (Kd.pair (Kd.int .i64) (Kd.pair (Kd.int .i64) (Kd.pair Kd.bool (Kd.int .u8)))) (fun x : S7 => (x.f0, x.f1, x.f2, x.f3))
def rd_T7 (xs : List S7) (i : Int) : S7 := xs.getD i.toNat z7

/-! #### struct type 8 -/
structure S8 where
  f0 : Int
  f1 : Int
  f2 : Bool
  f3 : Int
def z8 : S8 := ⟨(0 : Int), (0 : Int), false, (0 : Int)⟩
def k8 : Kd S8 := Kd.iso (Kd.pair (Kd.int .i64) (Kd.pair (Kd.int .i64) (Kd.pair Kd.bool (Kd.int .u8)))) (fun x : S8 => (x.f0, x.f1, x.f2, x.f3))
def rd_T8 (xs : List S8) (i : Int) : S8 := xs.getD i.toNat z8

/-! #### struct type 13 -/
structure S13 where
  f0 : ByteArray
  f1 : Int
def z13 : S13 := ⟨(⟨#[]⟩ : ByteArray), (0 : Int)⟩
def k13 : Kd S13 := Kd.iso (Kd.pair Kd.string (Kd.int .u64)) (fun x : S13 => (x.f0, x.f1))
def rd_T13 (xs : List S13) (i : Int) : S13 := xs.getD i.toNat z13

/-! #### struct type 14 -/
structure S14 where
  f0 : ByteArray
  f1 : Int
def z14 : S14 := ⟨(⟨#[]⟩ : ByteArray), (0 : Int)⟩
def k14 : Kd S14 := Kd.iso (Kd.pair Kd.string (Kd.int .u64)) (fun x : S14 => (x.f0, x.f1))
def rd_T14 (xs : List S14) (i : Int) : S14 := xs.getD i.toNat z14

def rd_L11 (xs : List (List Int)) (i : Int) : (List Int) := xs.getD i.toNat ([] : List Int)

def rd_L12 (xs : List (List Int)) (i : Int) : (List Int) := xs.getD i.toNat ([] : List Int)

/-! #### struct type 69 -/
structure S69 where
  f0 : Int
  f1 : Int
def z69 : S69 := ⟨(0 : Int), (0 : Int)⟩
def k69 : Kd S69 := Kd.iso (Kd.pair (Kd.int .i64) (Kd.int .u32)) (fun x : S69 => (x.f0, x.f1))
theorem k69_open {w : World} {x : S69} {cs : List Value} (h : k69.K w x cs) : cs = [.int .i64 x.f0, .int .u32 x.f1] := by
  obtain ⟨_, _, rfl, rfl, rfl⟩ := h
  exact rfl
def rd_T69 (xs : List S69) (i : Int) : S69 := xs.getD i.toNat z69
theorem at_T69 {w : World} {A : Option Addr} {n : Nat} {xs : List S69} (h : Kd.C k69 w A n xs) (i : Int) (h0 : 0 ≤ i) (h1 : i < n) : ∃ ad , A = some ad ∧ w.cell? (ad.add (i.toNat * 2)) = some (.int .i64 (rd_T69 xs i).f0) ∧ w.cell? ⟨(ad.add (i.toNat * 2)).block, (ad.add (i.toNat * 2)).off + 1, none⟩ = some (.int .u32 (rd_T69 xs i).f1) := by
  obtain ⟨ad, c, e, _, hK, hc0⟩ := Kd.C_get h z69 i h0 h1
  have hc : ∀ j u, c[j]? = some u → w.cell? (ad.add (i.toNat * 2 + j)) = some u := hc0
  obtain rfl := k69_open hK
  exact ⟨ad, e, hc 0 _ rfl, by rw [← add_field _ _ 1 (by omega)]; exact hc 1 _ rfl⟩

def rd_L14 (xs : List (List S69)) (i : Int) : (List S69) := xs.getD i.toNat ([] : List S69)

/-! #### struct type 51 -/
structure S51 where
  f0 : ByteArray
  f1 : Int
  f2 : Int
  f3 : Int
  f4 : (List S69)
def z51 : S51 := ⟨(⟨#[]⟩ : ByteArray), (0 : Int), (0 : Int), (0 : Int), ([] : List S69)⟩
def k51 : Kd S51 := Kd.iso (Kd.pair Kd.string (Kd.pair (Kd.int .i64) (Kd.pair (Kd.int .i64) (Kd.pair (Kd.int .u32) (Kd.slice 69 k69))))) (fun x : S51 => (x.f0, x.f1, x.f2, x.f3, x.f4))
theorem k51_open {w : World} {x : S51} {cs : List Value} (h : k51.K w x cs) : ∃ A4 c4, cs = [.string x.f0, .int .i64 x.f1, .int .i64 x.f2, .int .u32 x.f3, .slice A4 x.f4.length c4] ∧ x.f4.length ≤ c4 ∧ k69.C w A4 x.f4.length x.f4 := by
  obtain ⟨_, _, rfl, rfl, ⟨_, _, rfl, rfl, ⟨_, _, rfl, rfl, ⟨_, _, rfl, rfl, ⟨A4, c4, rfl, l4, g4⟩⟩⟩⟩⟩ := h
  exact ⟨A4, c4, rfl, l4, g4⟩
theorem k51_mkM (w : World) (base : Nat) (ok : Nat → Prop) (x : S51) {v4 : Value} (g4 : k69.R 69 w base ok v4 x.f4) : k51.M w base ok x [.string x.f0, .int .i64 x.f1, .int .i64 x.f2, .int .u32 x.f3, v4] := ⟨[.string x.f0], [.int .i64 x.f1, .int .i64 x.f2, .int .u32 x.f3, v4], rfl, rfl, ⟨[.int .i64 x.f1], [.int .i64 x.f2, .int .u32 x.f3, v4], rfl, rfl, ⟨[.int .i64 x.f2], [.int .u32 x.f3, v4], rfl, rfl, ⟨[.int .u32 x.f3], [v4], rfl, rfl, ⟨v4, rfl, g4⟩⟩⟩⟩⟩
def rd_T51 (xs : List S51) (i : Int) : S51 := xs.getD i.toNat z51
theorem at_T51 {w : World} {A : Option Addr} {n : Nat} {xs : List S51} (h : Kd.C k51 w A n xs) (i : Int) (h0 : 0 ≤ i) (h1 : i < n) : ∃ ad A4 c4, A = some ad ∧ w.cell? (ad.add (i.toNat * 5)) = some (.string (rd_T51 xs i).f0) ∧ w.cell? ⟨(ad.add (i.toNat * 5)).block, (ad.add (i.toNat * 5)).off + 1, none⟩ = some (.int .i64 (rd_T51 xs i).f1) ∧ w.cell? ⟨(ad.add (i.toNat * 5)).block, (ad.add (i.toNat * 5)).off + 2, none⟩ = some (.int .i64 (rd_T51 xs i).f2) ∧ w.cell? ⟨(ad.add (i.toNat * 5)).block, (ad.add (i.toNat * 5)).off + 3, none⟩ = some (.int .u32 (rd_T51 xs i).f3) ∧ w.cell? ⟨(ad.add (i.toNat * 5)).block, (ad.add (i.toNat * 5)).off + 4, none⟩ = some (.slice A4 (rd_T51 xs i).f4.length c4) ∧ (rd_T51 xs i).f4.length ≤ c4 ∧ k69.C w A4 (rd_T51 xs i).f4.length (rd_T51 xs i).f4 := by
  obtain ⟨ad, c, e, _, hK, hc0⟩ := Kd.C_get h z51 i h0 h1
  have hc : ∀ j u, c[j]? = some u → w.cell? (ad.add (i.toNat * 5 + j)) = some u := hc0
  obtain ⟨A4, c4, rfl, l4, g4⟩ := k51_open hK
  exact ⟨ad, A4, c4, e, hc 0 _ rfl, by rw [← add_field _ _ 1 (by omega)]; exact hc 1 _ rfl, by rw [← add_field _ _ 2 (by omega)]; exact hc 2 _ rfl, by rw [← add_field _ _ 3 (by omega)]; exact hc 3 _ rfl, by rw [← add_field _ _ 4 (by omega)]; exact hc 4 _ rfl, l4, g4⟩

def rd_L16 (xs : List (List S51)) (i : Int) : (List S51) := xs.getD i.toNat ([] : List S51)

def rd_L17 (xs : List (List Int)) (i : Int) : (List Int) := xs.getD i.toNat ([] : List Int)

/-! #### struct type 106 -/
structure S106 where
  f0 : ByteArray
  f1 : (List Int)
def z106 : S106 := ⟨(⟨#[]⟩ : ByteArray), ([] : List Int)⟩
def k106 : Kd S106 := Kd.iso (Kd.pair Kd.string (Kd.slice 5 (Kd.int .u8))) (fun x : S106 => (x.f0, x.f1))
theorem k106_open {w : World} {x : S106} {cs : List Value} (h : k106.K w x cs) : ∃ A1 c1, cs = [.string x.f0, .slice A1 x.f1.length c1] ∧ x.f1.length ≤ c1 ∧ (Kd.int .u8).C w A1 x.f1.length x.f1 := by
  obtain ⟨_, _, rfl, rfl, ⟨A1, c1, rfl, l1, g1⟩⟩ := h
  exact ⟨A1, c1, rfl, l1, g1⟩
theorem k106_mkM (w : World) (base : Nat) (ok : Nat → Prop) (x : S106) {v1 : Value} (g1 : (Kd.int .u8).R 5 w base ok v1 x.f1) : k106.M w base ok x [.string x.f0, v1] := ⟨[.string x.f0], [v1], rfl, rfl, ⟨v1, rfl, g1⟩⟩
def rd_T106 (xs : List S106) (i : Int) : S106 := xs.getD i.toNat z106
theorem at_T106 {w : World} {A : Option Addr} {n : Nat} {xs : List S106} (h : Kd.C k106 w A n xs) (i : Int) (h0 : 0 ≤ i) (h1 : i < n) : ∃ ad A1 c1, A = some ad ∧ w.cell? (ad.add (i.toNat * 2)) = some (.string (rd_T106 xs i).f0) ∧ w.cell? ⟨(ad.add (i.toNat * 2)).block, (ad.add (i.toNat * 2)).off + 1, none⟩ = some (.slice A1 (rd_T106 xs i).f1.length c1) ∧ (rd_T106 xs i).f1.length ≤ c1 ∧ (Kd.int .u8).C w A1 (rd_T106 xs i).f1.length (rd_T106 xs i).f1 := by
  obtain ⟨ad, c, e, _, hK, hc0⟩ := Kd.C_get h z106 i h0 h1
  have hc : ∀ j u, c[j]? = some u → w.cell? (ad.add (i.toNat * 2 + j)) = some u := hc0
  obtain ⟨A1, c1, rfl, l1, g1⟩ := k106_open hK
  exact ⟨ad, A1, c1, e, hc 0 _ rfl, by rw [← add_field _ _ 1 (by omega)]; exact hc 1 _ rfl, l1, g1⟩

def rd_L19 (xs : List (List S106)) (i : Int) : (List S106) := xs.getD i.toNat ([] : List S106)

/-! #### struct type 91 -/
structure S91 where
  f0 : ByteArray
  f1 : (List Int)
  f2 : Int
  f3 : (List S106)
  f4 : (List Int)
def z91 : S91 := ⟨(⟨#[]⟩ : ByteArray), ([] : List Int), (0 : Int), ([] : List S106), ([] : List Int)⟩
def k91 : Kd S91 := Kd.iso (Kd.pair Kd.string (Kd.pair (Kd.slice 28 (Kd.int .u32)) (Kd.pair (Kd.int .i64) (Kd.pair (Kd.slice 106 k106) (Kd.slice 28 (Kd.int .u32)))))) (fun x : S91 => (x.f0, x.f1, x.f2, x.f3, x.f4))
theorem k91_open {w : World} {x : S91} {cs : List Value} (h : k91.K w x cs) : ∃ A1 c1 A3 c3 A4 c4, cs = [.string x.f0, .slice A1 x.f1.length c1, .int .i64 x.f2, .slice A3 x.f3.length c3, .slice A4 x.f4.length c4] ∧ x.f1.length ≤ c1 ∧ (Kd.int .u32).C w A1 x.f1.length x.f1 ∧ x.f3.length ≤ c3 ∧ k106.C w A3 x.f3.length x.f3 ∧ x.f4.length ≤ c4 ∧ (Kd.int .u32).C w A4 x.f4.length x.f4 := by
  obtain ⟨_, _, rfl, rfl, ⟨_, _, rfl, ⟨A1, c1, rfl, l1, g1⟩, ⟨_, _, rfl, rfl, ⟨_, _, rfl, ⟨A3, c3, rfl, l3, g3⟩, ⟨A4, c4, rfl, l4, g4⟩⟩⟩⟩⟩ := h
  exact ⟨A1, c1, A3, c3, A4, c4, rfl, l1, g1, l3, g3, l4, g4⟩
theorem k91_mkM (w : World) (base : Nat) (ok : Nat → Prop) (x : S91) {v1 : Value} (g1 : (Kd.int .u32).R 28 w base ok v1 x.f1) {v3 : Value} (g3 : k106.R 106 w base ok v3 x.f3) {v4 : Value} (g4 : (Kd.int .u32).R 28 w base ok v4 x.f4) : k91.M w base ok x [.string x.f0, v1, .int .i64 x.f2, v3, v4] := ⟨[.string x.f0], [v1, .int .i64 x.f2, v3, v4], rfl, rfl, ⟨[v1], [.int .i64 x.f2, v3, v4], rfl, ⟨v1, rfl, g1⟩, ⟨[.int .i64 x.f2], [v3, v4], rfl, rfl, ⟨[v3], [v4], rfl, ⟨v3, rfl, g3⟩, ⟨v4, rfl, g4⟩⟩⟩⟩⟩
def rd_T91 (xs : List S91) (i : Int) : S91 := xs.getD i.toNat z91
theorem at_T91 {w : World} {A : Option Addr} {n : Nat} {xs : List S91} (h : Kd.C k91 w A n xs) (i : Int) (h0 : 0 ≤ i) (h1 : i < n) : ∃ ad A1 c1 A3 c3 A4 c4, A = some ad ∧ w.cell? (ad.add (i.toNat * 5)) = some (.string (rd_T91 xs i).f0) ∧ w.cell? ⟨(ad.add (i.toNat * 5)).block, (ad.add (i.toNat * 5)).off + 1, none⟩ = some (.slice A1 (rd_T91 xs i).f1.length c1) ∧ w.cell? ⟨(ad.add (i.toNat * 5)).block, (ad.add (i.toNat * 5)).off + 2, none⟩ = some (.int .i64 (rd_T91 xs i).f2) ∧ w.cell? ⟨(ad.add (i.toNat * 5)).block, (ad.add (i.toNat * 5)).off + 3, none⟩ = some (.slice A3 (rd_T91 xs i).f3.length c3) ∧ w.cell? ⟨(ad.add (i.toNat * 5)).block, (ad.add (i.toNat * 5)).off + 4, none⟩ = some (.slice A4 (rd_T91 xs i).f4.length c4) ∧ (rd_T91 xs i).f1.length ≤ c1 ∧ (Kd.int .u32).C w A1 (rd_T91 xs i).f1.length (rd_T91 xs i).f1 ∧ (rd_T91 xs i).f3.length ≤ c3 ∧ k106.C w A3 (rd_T91 xs i).f3.length (rd_T91 xs i).f3 ∧ (rd_T91 xs i).f4.length ≤ c4 ∧ (Kd.int .u32).C w A4 (rd_T91 xs i).f4.length (rd_T91 xs i).f4 := by
  obtain ⟨ad, c, e, _, hK, hc0⟩ := Kd.C_get h z91 i h0 h1
  have hc : ∀ j u, c[j]? = some u → w.cell? (ad.add (i.toNat * 5 + j)) = some u := hc0
  obtain ⟨A1, c1, A3, c3, A4, c4, rfl, l1, g1, l3, g3, l4, g4⟩ := k91_open hK
  exact ⟨ad, A1, c1, A3, c3, A4, c4, e, hc 0 _ rfl, by rw [← add_field _ _ 1 (by omega)]; exact hc 1 _ rfl, by rw [← add_field _ _ 2 (by omega)]; exact hc 2 _ rfl, by rw [← add_field _ _ 3 (by omega)]; exact hc 3 _ rfl, by rw [← add_field _ _ 4 (by omega)]; exact hc 4 _ rfl, l1, g1, l3, g3, l4, g4⟩

def rd_L21 (xs : List (List S91)) (i : Int) : (List S91) := xs.getD i.toNat ([] : List S91)

/-! #### struct type 82 -/
structure S82 where
  f0 : Int
  f1 : Int
  f2 : ByteArray
  f3 : (List Int)
def z82 : S82 := ⟨(0 : Int), (0 : Int), (⟨#[]⟩ : ByteArray), ([] : List Int)⟩
def k82 : Kd S82 := Kd.iso (Kd.pair (Kd.int .i64) (Kd.pair (Kd.int .i64) (Kd.pair Kd.string (Kd.slice 28 (Kd.int .u32))))) (fun x : S82 => (x.f0, x.f1, x.f2, x.f3))
theorem k82_open {w : World} {x : S82} {cs : List Value} (h : k82.K w x cs) : ∃ A3 c3, cs = [.int .i64 x.f0, .int .i64 x.f1, .string x.f2, .slice A3 x.f3.length c3] ∧ x.f3.length ≤ c3 ∧ (Kd.int .u32).C w A3 x.f3.length x.f3 := by
  obtain ⟨_, _, rfl, rfl, ⟨_, _, rfl, rfl, ⟨_, _, rfl, rfl, ⟨A3, c3, rfl, l3, g3⟩⟩⟩⟩ := h
  exact ⟨A3, c3, rfl, l3, g3⟩
theorem k82_mkM (w : World) (base : Nat) (ok : Nat → Prop) (x : S82) {v3 : Value} (g3 : (Kd.int .u32).R 28 w base ok v3 x.f3) : k82.M w base ok x [.int .i64 x.f0, .int .i64 x.f1, .string x.f2, v3] := ⟨[.int .i64 x.f0], [.int .i64 x.f1, .string x.f2, v3], rfl, rfl, ⟨[.int .i64 x.f1], [.string x.f2, v3], rfl, rfl, ⟨[.string x.f2], [v3], rfl, rfl, ⟨v3, rfl, g3⟩⟩⟩⟩
def rd_T82 (xs : List S82) (i : Int) : S82 := xs.getD i.toNat z82
theorem at_T82 {w : World} {A : Option Addr} {n : Nat} {xs : List S82} (h : Kd.C k82 w A n xs) (i : Int) (h0 : 0 ≤ i) (h1 : i < n) : ∃ ad A3 c3, A = some ad ∧ w.cell? (ad.add (i.toNat * 4)) = some (.int .i64 (rd_T82 xs i).f0) ∧ w.cell? ⟨(ad.add (i.toNat * 4)).block, (ad.add (i.toNat * 4)).off + 1, none⟩ = some (.int .i64 (rd_T82 xs i).f1) ∧ w.cell? ⟨(ad.add (i.toNat * 4)).block, (ad.add (i.toNat * 4)).off + 2, none⟩ = some (.string (rd_T82 xs i).f2) ∧ w.cell? ⟨(ad.add (i.toNat * 4)).block, (ad.add (i.toNat * 4)).off + 3, none⟩ = some (.slice A3 (rd_T82 xs i).f3.length c3) ∧ (rd_T82 xs i).f3.length ≤ c3 ∧ (Kd.int .u32).C w A3 (rd_T82 xs i).f3.length (rd_T82 xs i).f3 := by
  obtain ⟨ad, c, e, _, hK, hc0⟩ := Kd.C_get h z82 i h0 h1
  have hc : ∀ j u, c[j]? = some u → w.cell? (ad.add (i.toNat * 4 + j)) = some u := hc0
  obtain ⟨A3, c3, rfl, l3, g3⟩ := k82_open hK
  exact ⟨ad, A3, c3, e, hc 0 _ rfl, by rw [← add_field _ _ 1 (by omega)]; exact hc 1 _ rfl, by rw [← add_field _ _ 2 (by omega)]; exact hc 2 _ rfl, by rw [← add_field _ _ 3 (by omega)]; exact hc 3 _ rfl, l3, g3⟩

def rd_L23 (xs : List (List S82)) (i : Int) : (List S82) := xs.getD i.toNat ([] : List S82)

/-! #### struct type 31 -/
structure S31 where
  f0 : (List Int)
  f1 : (List Int)
  f2 : (List S51)
  f3 : (List Int)
  f4 : Int
  f5 : (List S91)
  f6 : Int
  f7 : (List S82)
  f8 : Int
  f9 : ByteArray
def z31 : S31 := ⟨([] : List Int), ([] : List Int), ([] : List S51), ([] : List Int), (0 : Int), ([] : List S91), (0 : Int), ([] : List S82), (0 : Int), (⟨#[]⟩ : ByteArray)⟩
def k31 : Kd S31 := Kd.iso (Kd.pair (Kd.slice 28 (Kd.int .u32)) (Kd.pair (Kd.slice 5 (Kd.int .u8)) (Kd.pair (Kd.slice 51 k51) (Kd.pair (Kd.slice 3 (Kd.int .i64)) (Kd.pair (Kd.int .u32) (Kd.pair (Kd.slice 91 k91) (Kd.pair (Kd.int .i64) (Kd.pair (Kd.slice 82 k82) (Kd.pair (Kd.int .i64) Kd.string))))))))) (fun x : S31 => (x.f0, x.f1, x.f2, x.f3, x.f4, x.f5, x.f6, x.f7, x.f8, x.f9))
def rd_T31 (xs : List S31) (i : Int) : S31 := xs.getD i.toNat z31

/-! #### struct type 32 -/
structure S32 where
  f0 : (List Int)
  f1 : (List Int)
  f2 : (List S51)
  f3 : (List Int)
  f4 : Int
  f5 : (List S91)
  f6 : Int
  f7 : (List S82)
  f8 : Int
  f9 : ByteArray
def z32 : S32 := ⟨([] : List Int), ([] : List Int), ([] : List S51), ([] : List Int), (0 : Int), ([] : List S91), (0 : Int), ([] : List S82), (0 : Int), (⟨#[]⟩ : ByteArray)⟩
def k32 : Kd S32 := Kd.iso (Kd.pair (Kd.slice 28 (Kd.int .u32)) (Kd.pair (Kd.slice 5 (Kd.int .u8)) (Kd.pair (Kd.slice 51 k51) (Kd.pair (Kd.slice 3 (Kd.int .i64)) (Kd.pair (Kd.int .u32) (Kd.pair (Kd.slice 91 k91) (Kd.pair (Kd.int .i64) (Kd.pair (Kd.slice 82 k82) (Kd.pair (Kd.int .i64) Kd.string))))))))) (fun x : S32 => (x.f0, x.f1, x.f2, x.f3, x.f4, x.f5, x.f6, x.f7, x.f8, x.f9))
theorem k32_open {w : World} {x : S32} {cs : List Value} (h : k32.K w x cs) : ∃ A0 c0 A1 c1 A2 c2 A3 c3 A5 c5 A7 c7, cs = [.slice A0 x.f0.length c0, .slice A1 x.f1.length c1, .slice A2 x.f2.length c2, .slice A3 x.f3.length c3, .int .u32 x.f4, .slice A5 x.f5.length c5, .int .i64 x.f6, .slice A7 x.f7.length c7, .int .i64 x.f8, .string x.f9] ∧ x.f0.length ≤ c0 ∧ (Kd.int .u32).C w A0 x.f0.length x.f0 ∧ x.f1.length ≤ c1 ∧ (Kd.int .u8).C w A1 x.f1.length x.f1 ∧ x.f2.length ≤ c2 ∧ k51.C w A2 x.f2.length x.f2 ∧ x.f3.length ≤ c3 ∧ (Kd.int .i64).C w A3 x.f3.length x.f3 ∧ x.f5.length ≤ c5 ∧ k91.C w A5 x.f5.length x.f5 ∧ x.f7.length ≤ c7 ∧ k82.C w A7 x.f7.length x.f7 := by
  obtain ⟨_, _, rfl, ⟨A0, c0, rfl, l0, g0⟩, ⟨_, _, rfl, ⟨A1, c1, rfl, l1, g1⟩, ⟨_, _, rfl, ⟨A2, c2, rfl, l2, g2⟩, ⟨_, _, rfl, ⟨A3, c3, rfl, l3, g3⟩, ⟨_, _, rfl, rfl, ⟨_, _, rfl, ⟨A5, c5, rfl, l5, g5⟩, ⟨_, _, rfl, rfl, ⟨_, _, rfl, ⟨A7, c7, rfl, l7, g7⟩, ⟨_, _, rfl, rfl, rfl⟩⟩⟩⟩⟩⟩⟩⟩⟩ := h
  exact ⟨A0, c0, A1, c1, A2, c2, A3, c3, A5, c5, A7, c7, rfl, l0, g0, l1, g1, l2, g2, l3, g3, l5, g5, l7, g7⟩
def rd_T32 (xs : List S32) (i : Int) : S32 := xs.getD i.toNat z32

/-! #### struct type 37 -/
structure S37 where
  f0 : ByteArray
  f1 : Int
def z37 : S37 := ⟨(⟨#[]⟩ : ByteArray), (0 : Int)⟩
def k37 : Kd S37 := Kd.iso (Kd.pair Kd.string (Kd.int .i64)) (fun x : S37 => (x.f0, x.f1))
def rd_T37 (xs : List S37) (i : Int) : S37 := xs.getD i.toNat z37

def rd_L27 (xs : List (List S37)) (i : Int) : (List S37) := xs.getD i.toNat ([] : List S37)

/-! #### struct type 36 -/
structure S36 where
  f0 : ByteArray
  f1 : Int
def z36 : S36 := ⟨(⟨#[]⟩ : ByteArray), (0 : Int)⟩
def k36 : Kd S36 := Kd.iso (Kd.pair Kd.string (Kd.int .i64)) (fun x : S36 => (x.f0, x.f1))
def rd_T36 (xs : List S36) (i : Int) : S36 := xs.getD i.toNat z36

/-! #### struct type 50 -/
structure S50 where
  f0 : ByteArray
  f1 : Int
  f2 : Int
  f3 : Int
  f4 : (List S69)
def z50 : S50 := ⟨(⟨#[]⟩ : ByteArray), (0 : Int), (0 : Int), (0 : Int), ([] : List S69)⟩
def k50 : Kd S50 := Kd.iso (Kd.pair Kd.string (Kd.pair (Kd.int .i64) (Kd.pair (Kd.int .i64) (Kd.pair (Kd.int .u32) (Kd.slice 69 k69))))) (fun x : S50 => (x.f0, x.f1, x.f2, x.f3, x.f4))
def rd_T50 (xs : List S50) (i : Int) : S50 := xs.getD i.toNat z50

/-! #### struct type 56 -/
structure S56 where
  f0 : Int
  f1 : Int
def z56 : S56 := ⟨(0 : Int), (0 : Int)⟩
def k56 : Kd S56 := Kd.iso (Kd.pair (Kd.int .i64) (Kd.int .i64)) (fun x : S56 => (x.f0, x.f1))
def rd_T56 (xs : List S56) (i : Int) : S56 := xs.getD i.toNat z56

/-! #### struct type 68 -/
structure S68 where
  f0 : Int
  f1 : Int
def z68 : S68 := ⟨(0 : Int), (0 : Int)⟩
def k68 : Kd S68 := Kd.iso (Kd.pair (Kd.int .i64) (Kd.int .u32)) (fun x : S68 => (x.f0, x.f1))
def rd_T68 (xs : List S68) (i : Int) : S68 := xs.getD i.toNat z68

/-! #### struct type 81 -/
structure S81 where
  f0 : Int
  f1 : Int
  f2 : ByteArray
  f3 : (List Int)
def z81 : S81 := ⟨(0 : Int), (0 : Int), (⟨#[]⟩ : ByteArray), ([] : List Int)⟩
def k81 : Kd S81 := Kd.iso (Kd.pair (Kd.int .i64) (Kd.pair (Kd.int .i64) (Kd.pair Kd.string (Kd.slice 28 (Kd.int .u32))))) (fun x : S81 => (x.f0, x.f1, x.f2, x.f3))
def rd_T81 (xs : List S81) (i : Int) : S81 := xs.getD i.toNat z81

/-! #### struct type 90 -/
structure S90 where
  f0 : ByteArray
  f1 : (List Int)
  f2 : Int
  f3 : (List S106)
  f4 : (List Int)
def z90 : S90 := ⟨(⟨#[]⟩ : ByteArray), ([] : List Int), (0 : Int), ([] : List S106), ([] : List Int)⟩
def k90 : Kd S90 := Kd.iso (Kd.pair Kd.string (Kd.pair (Kd.slice 28 (Kd.int .u32)) (Kd.pair (Kd.int .i64) (Kd.pair (Kd.slice 106 k106) (Kd.slice 28 (Kd.int .u32)))))) (fun x : S90 => (x.f0, x.f1, x.f2, x.f3, x.f4))
def rd_T90 (xs : List S90) (i : Int) : S90 := xs.getD i.toNat z90

/-! #### struct type 105 -/
structure S105 where
  f0 : ByteArray
  f1 : (List Int)
def z105 : S105 := ⟨(⟨#[]⟩ : ByteArray), ([] : List Int)⟩
def k105 : Kd S105 := Kd.iso (Kd.pair Kd.string (Kd.slice 5 (Kd.int .u8))) (fun x : S105 => (x.f0, x.f1))
def rd_T105 (xs : List S105) (i : Int) : S105 := xs.getD i.toNat z105

end Go.Proofs.Ytfpkakedlapmkaa.Q
end
section
namespace Go.Proofs.Ytfpkakedlapmkaa.Q
open Go.RowKit Go.Proofs.YtfpkakedlapmkaaW.PrintWords Go.Proofs.YtfpkakedlapmkaaW.PrintLast Go.Proofs.YtfpkakedlapmkaaW.PrintMore
set_option linter.unusedVariables false
set_option linter.unusedSimpArgs false

attribute [local go_sem] max2_int min2_int max_two min_two max_three min_three max_four min_four
/-! ### dict_Sound: function 19 -/
mutual
def dict_Sound.l0 : Nat → List (S69) → Int → List (S69) → Int → Int → Option (Bool)
  | 0, _, _, _, _, _ => none
  | k + 1, x0, x1, x12, x13, x14 => if x14 < x13 then (if 0 ≤ x14 then (if x14 < (x12.length : Int) then (if ((rd_T69 x12 x14).f0) = 1 then (dict_Sound.l0 k x0 x1 x12 x13 (wrap64 (x14 + 1))) else (if ((rd_T69 x12 x14).f0) = 2 then (dict_Sound.j1 k x0 x1 false (wrap64 ((rd_T69 x12 x14).f1)) x12 x13 x14 ((rd_T69 x12 x14).f0) (((rd_T69 x12 x14).f0) == 2)) else (dict_Sound.j1 k x0 x1 false (wrap64 ((rd_T69 x12 x14).f1)) x12 x13 x14 ((rd_T69 x12 x14).f0) (((rd_T69 x12 x14).f0) == 13)))) else (none)) else (none)) else (some true)
def dict_Sound.j1 : Nat → List (S69) → Int → Bool → Int → List (S69) → Int → Int → Int → Bool → Option (Bool)
  | 0, _, _, _, _, _, _, _, _, _ => none
  | k + 1, x0, x1, x7, x8, x12, x13, x14, x22, x25 => if x25 = true then (if x8 < x1 then (dict_Sound.l0 k x0 x1 x12 x13 (wrap64 (x14 + 1))) else (some false)) else (if x22 = 11 then (dict_Sound.j2 k x0 x1 x7 x8 x12 x13 x14 x22 (x22 == 11)) else (dict_Sound.j2 k x0 x1 x7 x8 x12 x13 x14 x22 (x22 == 12)))
def dict_Sound.j2 : Nat → List (S69) → Int → Bool → Int → List (S69) → Int → Int → Int → Bool → Option (Bool)
  | 0, _, _, _, _, _, _, _, _, _ => none
  | k + 1, x0, x1, x7, x8, x12, x13, x14, x22, x31 => if x31 = true then (if x8 = 0 then (dict_Sound.l0 k x0 x1 x12 x13 (wrap64 (x14 + 1))) else (some false)) else (if x22 = 3 then (dict_Sound.j3 k x0 x1 x7 x8 x12 x13 x14 (x22 == 3)) else (if x22 = 4 then (dict_Sound.j3 k x0 x1 x7 x8 x12 x13 x14 (x22 == 4)) else (if x22 = 5 then (dict_Sound.j3 k x0 x1 x7 x8 x12 x13 x14 (x22 == 5)) else (if x22 = 6 then (dict_Sound.j3 k x0 x1 x7 x8 x12 x13 x14 (x22 == 6)) else (if x22 = 7 then (dict_Sound.j3 k x0 x1 x7 x8 x12 x13 x14 (x22 == 7)) else (if x22 = 8 then (dict_Sound.j3 k x0 x1 x7 x8 x12 x13 x14 (x22 == 8)) else (if x22 = 9 then (dict_Sound.j3 k x0 x1 x7 x8 x12 x13 x14 (x22 == 9)) else (dict_Sound.j3 k x0 x1 x7 x8 x12 x13 x14 (x22 == 10)))))))))
def dict_Sound.j3 : Nat → List (S69) → Int → Bool → Int → List (S69) → Int → Int → Bool → Option (Bool)
  | 0, _, _, _, _, _, _, _, _ => none
  | k + 1, x0, x1, x7, x8, x12, x13, x14, x36 => if x36 = true then (if (x8 ≤ (x0.length : Int)) then (dict_Sound.l0 k x0 x1 x12 x13 (wrap64 (x14 + 1))) else (some false)) else (if x7 = true then (dict_Sound.l0 k x0 x1 x12 x13 (wrap64 (x14 + 1))) else (some false))
end
def dict_Sound.f (k : Nat) (l0 : List (S69)) (a1 : Int) : Option (Bool) := if (l0.length : Int) > 256 then (some false) else (dict_Sound.l0 k l0 a1 l0 (l0.length : Int) 0)
set_option maxHeartbeats 8000000 in
set_option maxRecDepth 100000 in
theorem dict_Sound.calls (k : Nat) (A0 : Option Addr) (c0 : Nat) (l0 : List (S69)) (a1 : Int) (r : Bool) (w : World) (hr0 : Kd.C k69 w A0 l0.length l0) (hc0 : l0.length ≤ c0) (h : dict_Sound.f k l0 a1 = some r) :
    Calls Try.prog 19 #[.slice A0 l0.length c0, .int .i64 a1] w fun e w' => e = .returned (.bool r) ∧ Below w.heap.size w w' := by
  have hu69 := Try.underlying69
  have HR0 := Aside0.mk hr0
  have HC0 := Aside0.mk hc0
  clear hr0 hc0
  have HB := Aside0.mk (Below.refl w.heap.size w)
  have H : (if (l0.length : Int) > 256 then (some false) else (dict_Sound.l0 k l0 a1 l0 (l0.length : Int) 0)) = some r := h
  clear h
  by_cases c3 : (l0.length : Int) > 256
  · rw [if_pos c3] at H
    have c3b0 : decide (256 < (l0.length : Int)) = true := decide_eq_true c3
    have c3b1 : decide (256 < l0.length) = true := decide_eq_true (by omega)
    clear c3
    obtain rfl := Option.some.inj H
    go_enter Try.func19, Try.ntmps19
    go_wp2
    go_ret
    exact ⟨by first | rfl | (simp [errW_none, errW_some] <;> rfl) | (simp [*, errW_none, errW_some] <;> rfl), by repeat (first | (with_reducible first | exact HB.out | apply below_alloc | apply pw_below_drewN | apply below_drew1) | exact HB.out)⟩
  · rw [if_neg c3] at H
    have c3b0 : decide (256 < (l0.length : Int)) = false := decide_eq_false c3
    have c3b1 : decide (256 < l0.length) = false := decide_eq_false (by omega)
    clear c3
    have H' := Aside0.mk H
    clear H
    go_enter Try.func19, Try.ntmps19
    go_wp2
    go_loopg [14] k (fun kq v14 w' => ∃ (x14_1 : Int), v14 = .int .i64 x14_1 ∧ Aside0 (dict_Sound.l0 kq l0 a1 l0 (l0.length : Int) x14_1 = some r) ∧ Aside0 (kq ≤ k) ∧ Aside0 (Below w.heap.size w w'))
    case atStart => exact ⟨(0), (by first | rfl | (simp; done) | (simp [*]; done)), H', ⟨Nat.le_refl _⟩, ⟨by repeat (first | (with_reducible first | exact HB.out | apply below_alloc | apply pw_below_drewN | apply below_drew1) | exact HB.out)⟩⟩
    case round =>
      clear H'
      try clear c1
      try clear p2
      try clear c3
      try clear c3b0
      try clear c3b1
      obtain ⟨x14_1, rfl, HA, HK1, HB⟩ := hrel
      cases gk with
      | zero => exact absurd HA.out (by simp [dict_Sound.l0])
      | succ k1 =>
        have H := HA.out
        clear HA
        simp only [dict_Sound.l0] at H
        by_cases c4 : x14_1 < (l0.length : Int)
        · rw [if_pos c4] at H
          have c4b0 : decide (x14_1 < (l0.length : Int)) = true := decide_eq_true c4
          clear c4
          by_cases c5 : 0 ≤ x14_1
          · rw [if_pos c5] at H
            have c5b0 : decide (0 ≤ x14_1) = true := decide_eq_true c5
            clear c5
            by_cases c6 : x14_1 < (l0.length : Int)
            · rw [if_pos c6] at H
              have c6b0 : decide (x14_1 < (l0.length : Int)) = true := decide_eq_true c6
              clear c6
              by_cases c7 : ((rd_T69 l0 x14_1).f0) = 1
              · rw [if_pos c7] at H
                have c7b0 : (((rd_T69 l0 x14_1).f0) == 1) = true := beq_iff_eq.mpr c7
                have c7b1 : (((rd_T69 l0 x14_1).f0) != 1) = false := bne_eq_false_iff_eq.mpr c7
                clear c7
                have H' := Aside0.mk H
                clear H
                have p20001 : 0 ≤ (x14_1 : Int) := of_decide_eq_true (by first | (with_reducible assumption) | assumption)
                have q20001 : x14_1 < (l0.length : Int) := of_decide_eq_true (by first | (with_reducible assumption) | assumption)
                obtain ⟨ad20001, e20001, hx20001_0, hx20001_1⟩ := at_T69 HR0.out x14_1 p20001 q20001
                cases e20001
                replace hx20001_0 := (HB.out.cell (World.block_lt_of_cell? w _ hx20001_0)).trans hx20001_0
                replace hx20001_1 := (HB.out.cell (World.block_lt_of_cell? w _ hx20001_1)).trans hx20001_1
                replace p20001 := eq_true p20001
                replace q20001 := eq_true q20001
                go_wp2_with (first | ((with_reducible refine gate_dst (N := 6) rfl ?_); refine box_event ?hg (N := 6) ?hd (cs := #[.int .i64 0, .int .u32 0]) (t := 69) ?hr ?_; (case hd => rfl); (case hg => rfl); (case hr => first | (go_simp; done) | (go_simp; rfl)); intro gb20002 hg w8 hbox hb; have n0_ := Aside0.mk (below_step (by repeat (first | (with_reducible first | exact HB.out | apply below_alloc | apply pw_below_drewN | apply below_drew1) | exact HB.out)) hb); have n1_ := Aside0.mk (hbox); have n2_ := Aside0.mk ((by rw [hg]; exact (below_size (by repeat (first | (with_reducible first | exact HB.out | apply below_alloc | apply pw_below_drewN | apply below_drew1) | exact HB.out))) : w.heap.size ≤ gb20002)); have n3_ := Aside0.mk ((by rw [hg]; exact (below_size (by repeat (first | (with_reducible first | exact HB.out | apply below_alloc | apply pw_below_drewN | apply below_drew1) | exact HB.out))) : w.heap.size ≤ gb20002)); clear HB; have HB := n0_; have BK20002 := n1_; have GW20002 := n2_; have GE20002 := n3_; clear n0_ n1_ n2_ n3_; clear hb hbox hg; have hcz9_0 : w8.cell? ⟨gb20002, 0, none⟩ = some (.int .i64 0) := (blk_cell BK20002.out 0).trans rfl; have hcz9_1 : w8.cell? ⟨gb20002, 1, none⟩ = some (.int .u32 0) := (blk_cell BK20002.out 1).trans rfl; have hfz9_0 := blk_frozen BK20002.out 0; have hfz9_1 := blk_frozen BK20002.out 1))
                go_roundg k1
                case measure => have := HK1.out; omega
                case rel => exact ⟨(wrap64 (x14_1 + 1)), (by first | rfl | (simp; done) | (simp [*]; done)), H', ⟨by have := HK1.out; omega⟩, ⟨by repeat (first | (with_reducible first | exact HB.out | apply below_alloc | apply pw_below_drewN | apply below_drew1 | refine below_set ?_ GE20002.out) | exact HB.out)⟩⟩
              · rw [if_neg c7] at H
                have c7b0 : (((rd_T69 l0 x14_1).f0) == 1) = false := beq_eq_false_iff_ne.mpr c7
                have c7b1 : (((rd_T69 l0 x14_1).f0) != 1) = true := bne_iff_ne.mpr c7
                have HC10 := Aside0.mk H
                clear H
                have p20001 : 0 ≤ (x14_1 : Int) := of_decide_eq_true (by first | (with_reducible assumption) | assumption)
                have q20001 : x14_1 < (l0.length : Int) := of_decide_eq_true (by first | (with_reducible assumption) | assumption)
                obtain ⟨ad20001, e20001, hx20001_0, hx20001_1⟩ := at_T69 HR0.out x14_1 p20001 q20001
                cases e20001
                replace hx20001_0 := (HB.out.cell (World.block_lt_of_cell? w _ hx20001_0)).trans hx20001_0
                replace hx20001_1 := (HB.out.cell (World.block_lt_of_cell? w _ hx20001_1)).trans hx20001_1
                replace p20001 := eq_true p20001
                replace q20001 := eq_true q20001
                go_upto_if 25 with (first | ((with_reducible refine gate_dst (N := 6) rfl ?_); refine box_event ?hg (N := 6) ?hd (cs := #[.int .i64 0, .int .u32 0]) (t := 69) ?hr ?_; (case hd => rfl); (case hg => rfl); (case hr => first | (go_simp; done) | (go_simp; rfl)); intro gb20002 hg w11 hbox hb; have n0_ := Aside0.mk (below_step (by repeat (first | (with_reducible first | exact HB.out | apply below_alloc | apply pw_below_drewN | apply below_drew1) | exact HB.out)) hb); have n1_ := Aside0.mk (hbox); have n2_ := Aside0.mk ((by rw [hg]; exact (below_size (by repeat (first | (with_reducible first | exact HB.out | apply below_alloc | apply pw_below_drewN | apply below_drew1) | exact HB.out))) : w.heap.size ≤ gb20002)); have n3_ := Aside0.mk ((by rw [hg]; exact (below_size (by repeat (first | (with_reducible first | exact HB.out | apply below_alloc | apply pw_below_drewN | apply below_drew1) | exact HB.out))) : w.heap.size ≤ gb20002)); clear HB; have HB := n0_; have BK20002 := n1_; have GW20002 := n2_; have GE20002 := n3_; clear n0_ n1_ n2_ n3_; clear hb hbox hg; have hcz12_0 : w11.cell? ⟨gb20002, 0, none⟩ = some (.int .i64 0) := (blk_cell BK20002.out 0).trans rfl; have hcz12_1 : w11.cell? ⟨gb20002, 1, none⟩ = some (.int .u32 0) := (blk_cell BK20002.out 1).trans rfl; have hfz12_0 := blk_frozen BK20002.out 0; have hfz12_1 := blk_frozen BK20002.out 1))
                (try simp only [Act.put, List.setIfInBounds_toArray, List.set_cons_zero, List.set_cons_succ])
                go_cut [25] (fun v25 wc => ∃ (kq : Nat) (x25_9 : Bool), v25 = .bool x25_9 ∧ Aside0 (dict_Sound.j1 kq l0 a1 false (wrap64 ((rd_T69 l0 x14_1).f1)) l0 (l0.length : Int) x14_1 ((rd_T69 l0 x14_1).f0) x25_9 = some r) ∧ Aside0 (kq ≤ k1) ∧ Aside0 (wc.heap[gb20002]? = some (.cells #[.int .i64 ((rd_T69 l0 x14_1).f0), .int .u32 ((rd_T69 l0 x14_1).f1)] 69 (0, 0))) ∧ Aside0 (Below w.heap.size w wc))
                case first =>
                  have H := HC10.out
                  clear HC10
                  by_cases c13 : ((rd_T69 l0 x14_1).f0) = 2
                  · rw [if_pos c13] at H
                    have c13b0 : (((rd_T69 l0 x14_1).f0) == 2) = true := beq_iff_eq.mpr c13
                    have c13b1 : (((rd_T69 l0 x14_1).f0) != 2) = false := bne_eq_false_iff_eq.mpr c13
                    clear c13
                    (first | rw [c13b0] | (simp only [i64_w, i32_w]; rw [c13b0]) | skip)
                    have H' := Aside0.mk H
                    clear H
                    go_wp2
                    go_meet
                    case rel => exact ⟨_, ((((rd_T69 l0 x14_1).f0) == 2)), (by first | rfl | (simp; done) | (simp [*]; done)), H', ⟨by have := HK1.out; first | omega | exact Nat.le_refl _⟩, ⟨by (with_reducible repeat (first | refine blk_drewN ?_ _ | refine blk_drew ?_ | refine blk_alloc ?_ _)); refine blk_put (cs := #[.int .i64 ((rd_T69 l0 x14_1).f0), .int .u32 0]) ?_ 1 _ rfl; (with_reducible repeat (first | refine blk_drewN ?_ _ | refine blk_drew ?_ | refine blk_alloc ?_ _)); refine blk_put (cs := #[.int .i64 0, .int .u32 0]) ?_ 0 _ rfl; (with_reducible repeat (first | refine blk_drewN ?_ _ | refine blk_drew ?_ | refine blk_alloc ?_ _)); exact BK20002.out⟩, ⟨by repeat (first | (with_reducible first | exact HB.out | apply below_alloc | apply pw_below_drewN | apply below_drew1 | refine below_set ?_ GE20002.out) | exact HB.out)⟩⟩
                  · rw [if_neg c13] at H
                    have c13b0 : (((rd_T69 l0 x14_1).f0) == 2) = false := beq_eq_false_iff_ne.mpr c13
                    have c13b1 : (((rd_T69 l0 x14_1).f0) != 2) = true := bne_iff_ne.mpr c13
                    (first | rw [c13b0] | (simp only [i64_w, i32_w]; rw [c13b0]) | skip)
                    have H' := Aside0.mk H
                    clear H
                    go_wp2
                    go_meet
                    case rel => exact ⟨_, ((((rd_T69 l0 x14_1).f0) == 13)), (by first | rfl | (simp; done) | (simp [*]; done)), H', ⟨by have := HK1.out; first | omega | exact Nat.le_refl _⟩, ⟨by (with_reducible repeat (first | refine blk_drewN ?_ _ | refine blk_drew ?_ | refine blk_alloc ?_ _)); refine blk_put (cs := #[.int .i64 ((rd_T69 l0 x14_1).f0), .int .u32 0]) ?_ 1 _ rfl; (with_reducible repeat (first | refine blk_drewN ?_ _ | refine blk_drew ?_ | refine blk_alloc ?_ _)); refine blk_put (cs := #[.int .i64 0, .int .u32 0]) ?_ 0 _ rfl; (with_reducible repeat (first | refine blk_drewN ?_ _ | refine blk_drew ?_ | refine blk_alloc ?_ _)); exact BK20002.out⟩, ⟨by repeat (first | (with_reducible first | exact HB.out | apply below_alloc | apply pw_below_drewN | apply below_drew1 | refine below_set ?_ GE20002.out) | exact HB.out)⟩⟩
                case rest =>
                  clear HC10
                  try clear c1
                  try clear p2
                  try clear q2
                  try clear hx2
                  try clear c3
                  try clear c3b0
                  try clear c3b1
                  try clear c4
                  try clear c4b0
                  try clear c5
                  try clear c5b0
                  try clear c6
                  try clear c6b0
                  try clear p6
                  try clear c7
                  try clear c7b0
                  try clear c7b1
                  try clear c13
                  try clear c13b0
                  try clear c13b1
                  try clear hcz12_0
                  try clear hcz12_1
                  try clear hcz9_0
                  try clear hcz9_1
                  try clear hfz12_0
                  try clear hfz12_1
                  try clear hfz9_0
                  try clear hfz9_1
                  try clear hx20001_0
                  try clear hx20001_1
                  try clear p2
                  try clear p20001
                  try clear q20001
                  obtain ⟨kq, x25_9, rfl, HA, HJ9, BK20002, HB⟩ := hcut
                  cases kq with
                  | zero => exact absurd HA.out (by simp [dict_Sound.j1])
                  | succ kj9 =>
                    have H := HA.out
                    clear HA
                    simp only [dict_Sound.j1] at H
                    by_cases c14 : x25_9 = true
                    · subst c14
                      have H1 : (if (wrap64 ((rd_T69 l0 x14_1).f1)) < a1 then (dict_Sound.l0 kj9 l0 a1 l0 (l0.length : Int) (wrap64 (x14_1 + 1))) else (some false)) = some r := by rw [if_pos rfl] at H; exact H
                      clear H
                      have H := H1
                      clear H1
                      by_cases c15 : (wrap64 ((rd_T69 l0 x14_1).f1)) < a1
                      · rw [if_pos c15] at H
                        have c15b0 : decide ((wrap64 ((rd_T69 l0 x14_1).f1)) < a1) = true := decide_eq_true c15
                        clear c15
                        have H' := Aside0.mk H
                        clear H
                        go_wp2
                        go_roundg kj9
                        case measure => have := HK1.out; have := HJ9.out; omega
                        case rel => exact ⟨(wrap64 (x14_1 + 1)), (by first | rfl | (simp; done) | (simp [*]; done)), H', ⟨by have := HK1.out; have := HJ9.out; omega⟩, ⟨by repeat (first | (with_reducible first | exact HB.out | apply below_alloc | apply pw_below_drewN | apply below_drew1 | refine below_set ?_ GE20002.out) | exact HB.out)⟩⟩
                      · rw [if_neg c15] at H
                        have c15b0 : decide ((wrap64 ((rd_T69 l0 x14_1).f1)) < a1) = false := decide_eq_false c15
                        clear c15
                        obtain rfl := Option.some.inj H
                        go_wp2
                        go_ret
                        exact ⟨by first | rfl | (simp [errW_none, errW_some] <;> rfl) | (simp [*, errW_none, errW_some] <;> rfl), by repeat (first | (with_reducible first | exact HB.out | apply below_alloc | apply pw_below_drewN | apply below_drew1 | refine below_set ?_ GE20002.out) | exact HB.out)⟩
                    · replace c14 := Bool.eq_false_iff.mpr c14
                      subst c14
                      have H1 : (if ((rd_T69 l0 x14_1).f0) = 11 then (dict_Sound.j2 kj9 l0 a1 false (wrap64 ((rd_T69 l0 x14_1).f1)) l0 (l0.length : Int) x14_1 ((rd_T69 l0 x14_1).f0) (((rd_T69 l0 x14_1).f0) == 11)) else (dict_Sound.j2 kj9 l0 a1 false (wrap64 ((rd_T69 l0 x14_1).f1)) l0 (l0.length : Int) x14_1 ((rd_T69 l0 x14_1).f0) (((rd_T69 l0 x14_1).f0) == 12))) = some r := by rw [if_neg (show ¬ (false = true) by decide)] at H; exact H
                      clear H
                      have H := H1
                      clear H1
                      have HC16 := Aside0.mk H
                      clear H
                      go_upto_if 31 with (fail)
                      go_cut [31] (fun v31 wc => ∃ (kq : Nat) (x31_15 : Bool), v31 = .bool x31_15 ∧ Aside0 (dict_Sound.j2 kq l0 a1 false (wrap64 ((rd_T69 l0 x14_1).f1)) l0 (l0.length : Int) x14_1 ((rd_T69 l0 x14_1).f0) x31_15 = some r) ∧ Aside0 (kq ≤ kj9) ∧ Aside0 (wc.heap[gb20002]? = some (.cells #[.int .i64 ((rd_T69 l0 x14_1).f0), .int .u32 ((rd_T69 l0 x14_1).f1)] 69 (0, 0))) ∧ Aside0 (Below w.heap.size w wc))
                      case first =>
                        have H := HC16.out
                        clear HC16
                        by_cases c17 : ((rd_T69 l0 x14_1).f0) = 11
                        · rw [if_pos c17] at H
                          have c17b0 : (((rd_T69 l0 x14_1).f0) == 11) = true := beq_iff_eq.mpr c17
                          have c17b1 : (((rd_T69 l0 x14_1).f0) != 11) = false := bne_eq_false_iff_eq.mpr c17
                          clear c17
                          (first | rw [c17b0] | (simp only [i64_w, i32_w]; rw [c17b0]) | skip)
                          have H' := Aside0.mk H
                          clear H
                          go_wp2
                          go_meet
                          case rel => exact ⟨_, ((((rd_T69 l0 x14_1).f0) == 11)), (by first | rfl | (simp; done) | (simp [*]; done)), H', ⟨by have := HK1.out; have := HJ9.out; first | omega | exact Nat.le_refl _⟩, ⟨by (with_reducible repeat (first | refine blk_drewN ?_ _ | refine blk_drew ?_ | refine blk_alloc ?_ _)); exact BK20002.out⟩, ⟨by repeat (first | (with_reducible first | exact HB.out | apply below_alloc | apply pw_below_drewN | apply below_drew1 | refine below_set ?_ GE20002.out) | exact HB.out)⟩⟩
                        · rw [if_neg c17] at H
                          have c17b0 : (((rd_T69 l0 x14_1).f0) == 11) = false := beq_eq_false_iff_ne.mpr c17
                          have c17b1 : (((rd_T69 l0 x14_1).f0) != 11) = true := bne_iff_ne.mpr c17
                          (first | rw [c17b0] | (simp only [i64_w, i32_w]; rw [c17b0]) | skip)
                          have H' := Aside0.mk H
                          clear H
                          go_wp2
                          go_meet
                          case rel => exact ⟨_, ((((rd_T69 l0 x14_1).f0) == 12)), (by first | rfl | (simp; done) | (simp [*]; done)), H', ⟨by have := HK1.out; have := HJ9.out; first | omega | exact Nat.le_refl _⟩, ⟨by (with_reducible repeat (first | refine blk_drewN ?_ _ | refine blk_drew ?_ | refine blk_alloc ?_ _)); exact BK20002.out⟩, ⟨by repeat (first | (with_reducible first | exact HB.out | apply below_alloc | apply pw_below_drewN | apply below_drew1 | refine below_set ?_ GE20002.out) | exact HB.out)⟩⟩
                      case rest =>
                        clear HC16
                        try clear c1
                        try clear p2
                        try clear q2
                        try clear hx2
                        try clear c3
                        try clear c3b0
                        try clear c3b1
                        try clear c4
                        try clear c4b0
                        try clear c5
                        try clear c5b0
                        try clear c6
                        try clear c6b0
                        try clear p6
                        try clear c7
                        try clear c7b0
                        try clear c7b1
                        try clear c13
                        try clear c13b0
                        try clear c13b1
                        try clear c14
                        try clear c15
                        try clear c15b0
                        try clear c17
                        try clear c17b0
                        try clear c17b1
                        try clear hcz12_0
                        try clear hcz12_1
                        try clear hcz9_0
                        try clear hcz9_1
                        try clear hfz12_0
                        try clear hfz12_1
                        try clear hfz9_0
                        try clear hfz9_1
                        try clear hx20001_0
                        try clear hx20001_1
                        try clear p2
                        try clear p20001
                        try clear p6
                        try clear q2
                        try clear q20001
                        obtain ⟨kq, x31_15, rfl, HA, HJ15, BK20002, HB⟩ := hcut
                        cases kq with
                        | zero => exact absurd HA.out (by simp [dict_Sound.j2])
                        | succ kj15 =>
                          have H := HA.out
                          clear HA
                          simp only [dict_Sound.j2] at H
                          by_cases c18 : x31_15 = true
                          · subst c18
                            have H1 : (if (wrap64 ((rd_T69 l0 x14_1).f1)) = 0 then (dict_Sound.l0 kj15 l0 a1 l0 (l0.length : Int) (wrap64 (x14_1 + 1))) else (some false)) = some r := by rw [if_pos rfl] at H; exact H
                            clear H
                            have H := H1
                            clear H1
                            by_cases c19 : (wrap64 ((rd_T69 l0 x14_1).f1)) = 0
                            · rw [if_pos c19] at H
                              have c19b0 : ((wrap64 ((rd_T69 l0 x14_1).f1)) == 0) = true := beq_iff_eq.mpr c19
                              have c19b1 : ((wrap64 ((rd_T69 l0 x14_1).f1)) != 0) = false := bne_eq_false_iff_eq.mpr c19
                              clear c19
                              have H' := Aside0.mk H
                              clear H
                              go_wp2
                              go_roundg kj15
                              case measure => have := HK1.out; have := HJ9.out; have := HJ15.out; omega
                              case rel => exact ⟨(wrap64 (x14_1 + 1)), (by first | rfl | (simp; done) | (simp [*]; done)), H', ⟨by have := HK1.out; have := HJ9.out; have := HJ15.out; omega⟩, ⟨by repeat (first | (with_reducible first | exact HB.out | apply below_alloc | apply pw_below_drewN | apply below_drew1 | refine below_set ?_ GE20002.out) | exact HB.out)⟩⟩
                            · rw [if_neg c19] at H
                              have c19b0 : ((wrap64 ((rd_T69 l0 x14_1).f1)) == 0) = false := beq_eq_false_iff_ne.mpr c19
                              have c19b1 : ((wrap64 ((rd_T69 l0 x14_1).f1)) != 0) = true := bne_iff_ne.mpr c19
                              obtain rfl := Option.some.inj H
                              go_wp2
                              go_ret
                              exact ⟨by first | rfl | (simp [errW_none, errW_some] <;> rfl) | (simp [*, errW_none, errW_some] <;> rfl), by repeat (first | (with_reducible first | exact HB.out | apply below_alloc | apply pw_below_drewN | apply below_drew1 | refine below_set ?_ GE20002.out) | exact HB.out)⟩
                          · replace c18 := Bool.eq_false_iff.mpr c18
                            subst c18
                            have H1 : (if ((rd_T69 l0 x14_1).f0) = 3 then (dict_Sound.j3 kj15 l0 a1 false (wrap64 ((rd_T69 l0 x14_1).f1)) l0 (l0.length : Int) x14_1 (((rd_T69 l0 x14_1).f0) == 3)) else (if ((rd_T69 l0 x14_1).f0) = 4 then (dict_Sound.j3 kj15 l0 a1 false (wrap64 ((rd_T69 l0 x14_1).f1)) l0 (l0.length : Int) x14_1 (((rd_T69 l0 x14_1).f0) == 4)) else (if ((rd_T69 l0 x14_1).f0) = 5 then (dict_Sound.j3 kj15 l0 a1 false (wrap64 ((rd_T69 l0 x14_1).f1)) l0 (l0.length : Int) x14_1 (((rd_T69 l0 x14_1).f0) == 5)) else (if ((rd_T69 l0 x14_1).f0) = 6 then (dict_Sound.j3 kj15 l0 a1 false (wrap64 ((rd_T69 l0 x14_1).f1)) l0 (l0.length : Int) x14_1 (((rd_T69 l0 x14_1).f0) == 6)) else (if ((rd_T69 l0 x14_1).f0) = 7 then (dict_Sound.j3 kj15 l0 a1 false (wrap64 ((rd_T69 l0 x14_1).f1)) l0 (l0.length : Int) x14_1 (((rd_T69 l0 x14_1).f0) == 7)) else (if ((rd_T69 l0 x14_1).f0) = 8 then (dict_Sound.j3 kj15 l0 a1 false (wrap64 ((rd_T69 l0 x14_1).f1)) l0 (l0.length : Int) x14_1 (((rd_T69 l0 x14_1).f0) == 8)) else (if ((rd_T69 l0 x14_1).f0) = 9 then (dict_Sound.j3 kj15 l0 a1 false (wrap64 ((rd_T69 l0 x14_1).f1)) l0 (l0.length : Int) x14_1 (((rd_T69 l0 x14_1).f0) == 9)) else (dict_Sound.j3 kj15 l0 a1 false (wrap64 ((rd_T69 l0 x14_1).f1)) l0 (l0.length : Int) x14_1 (((rd_T69 l0 x14_1).f0) == 10))))))))) = some r := by rw [if_neg (show ¬ (false = true) by decide)] at H; exact H
                            clear H
                            have H := H1
                            clear H1
                            have HC20 := Aside0.mk H
                            clear H
                            go_upto_if 36 with (fail)
                            go_cut [36] (fun v36 wc => ∃ (kq : Nat) (x36_19 : Bool), v36 = .bool x36_19 ∧ Aside0 (dict_Sound.j3 kq l0 a1 false (wrap64 ((rd_T69 l0 x14_1).f1)) l0 (l0.length : Int) x14_1 x36_19 = some r) ∧ Aside0 (kq ≤ kj15) ∧ Aside0 (wc.heap[gb20002]? = some (.cells #[.int .i64 ((rd_T69 l0 x14_1).f0), .int .u32 ((rd_T69 l0 x14_1).f1)] 69 (0, 0))) ∧ Aside0 (Below w.heap.size w wc))
                            case first =>
                              have H := HC20.out
                              clear HC20
                              by_cases c21 : ((rd_T69 l0 x14_1).f0) = 3
                              · rw [if_pos c21] at H
                                have c21b0 : (((rd_T69 l0 x14_1).f0) == 3) = true := beq_iff_eq.mpr c21
                                have c21b1 : (((rd_T69 l0 x14_1).f0) != 3) = false := bne_eq_false_iff_eq.mpr c21
                                clear c21
                                (first | rw [c21b0] | (simp only [i64_w, i32_w]; rw [c21b0]) | skip)
                                have H' := Aside0.mk H
                                clear H
                                go_wp2
                                go_meet
                                case rel => exact ⟨_, ((((rd_T69 l0 x14_1).f0) == 3)), (by first | rfl | (simp; done) | (simp [*]; done)), H', ⟨by have := HK1.out; have := HJ9.out; have := HJ15.out; first | omega | exact Nat.le_refl _⟩, ⟨by (with_reducible repeat (first | refine blk_drewN ?_ _ | refine blk_drew ?_ | refine blk_alloc ?_ _)); exact BK20002.out⟩, ⟨by repeat (first | (with_reducible first | exact HB.out | apply below_alloc | apply pw_below_drewN | apply below_drew1 | refine below_set ?_ GE20002.out) | exact HB.out)⟩⟩
                              · rw [if_neg c21] at H
                                have c21b0 : (((rd_T69 l0 x14_1).f0) == 3) = false := beq_eq_false_iff_ne.mpr c21
                                have c21b1 : (((rd_T69 l0 x14_1).f0) != 3) = true := bne_iff_ne.mpr c21
                                (first | rw [c21b0] | (simp only [i64_w, i32_w]; rw [c21b0]) | skip)
                                by_cases c22 : ((rd_T69 l0 x14_1).f0) = 4
                                · rw [if_pos c22] at H
                                  have c22b0 : (((rd_T69 l0 x14_1).f0) == 4) = true := beq_iff_eq.mpr c22
                                  have c22b1 : (((rd_T69 l0 x14_1).f0) != 4) = false := bne_eq_false_iff_eq.mpr c22
                                  clear c22
                                  have H' := Aside0.mk H
                                  clear H
                                  go_wp2
                                  go_meet
                                  case rel => exact ⟨_, ((((rd_T69 l0 x14_1).f0) == 4)), (by first | rfl | (simp; done) | (simp [*]; done)), H', ⟨by have := HK1.out; have := HJ9.out; have := HJ15.out; first | omega | exact Nat.le_refl _⟩, ⟨by (with_reducible repeat (first | refine blk_drewN ?_ _ | refine blk_drew ?_ | refine blk_alloc ?_ _)); exact BK20002.out⟩, ⟨by repeat (first | (with_reducible first | exact HB.out | apply below_alloc | apply pw_below_drewN | apply below_drew1 | refine below_set ?_ GE20002.out) | exact HB.out)⟩⟩
                                · rw [if_neg c22] at H
                                  have c22b0 : (((rd_T69 l0 x14_1).f0) == 4) = false := beq_eq_false_iff_ne.mpr c22
                                  have c22b1 : (((rd_T69 l0 x14_1).f0) != 4) = true := bne_iff_ne.mpr c22
                                  by_cases c23 : ((rd_T69 l0 x14_1).f0) = 5
                                  · rw [if_pos c23] at H
                                    have c23b0 : (((rd_T69 l0 x14_1).f0) == 5) = true := beq_iff_eq.mpr c23
                                    have c23b1 : (((rd_T69 l0 x14_1).f0) != 5) = false := bne_eq_false_iff_eq.mpr c23
                                    clear c23
                                    have H' := Aside0.mk H
                                    clear H
                                    go_wp2
                                    go_meet
                                    case rel => exact ⟨_, ((((rd_T69 l0 x14_1).f0) == 5)), (by first | rfl | (simp; done) | (simp [*]; done)), H', ⟨by have := HK1.out; have := HJ9.out; have := HJ15.out; first | omega | exact Nat.le_refl _⟩, ⟨by (with_reducible repeat (first | refine blk_drewN ?_ _ | refine blk_drew ?_ | refine blk_alloc ?_ _)); exact BK20002.out⟩, ⟨by repeat (first | (with_reducible first | exact HB.out | apply below_alloc | apply pw_below_drewN | apply below_drew1 | refine below_set ?_ GE20002.out) | exact HB.out)⟩⟩
                                  · rw [if_neg c23] at H
                                    have c23b0 : (((rd_T69 l0 x14_1).f0) == 5) = false := beq_eq_false_iff_ne.mpr c23
                                    have c23b1 : (((rd_T69 l0 x14_1).f0) != 5) = true := bne_iff_ne.mpr c23
                                    by_cases c24 : ((rd_T69 l0 x14_1).f0) = 6
                                    · rw [if_pos c24] at H
                                      have c24b0 : (((rd_T69 l0 x14_1).f0) == 6) = true := beq_iff_eq.mpr c24
                                      have c24b1 : (((rd_T69 l0 x14_1).f0) != 6) = false := bne_eq_false_iff_eq.mpr c24
                                      clear c24
                                      have H' := Aside0.mk H
                                      clear H
                                      go_wp2
                                      go_meet
                                      case rel => exact ⟨_, ((((rd_T69 l0 x14_1).f0) == 6)), (by first | rfl | (simp; done) | (simp [*]; done)), H', ⟨by have := HK1.out; have := HJ9.out; have := HJ15.out; first | omega | exact Nat.le_refl _⟩, ⟨by (with_reducible repeat (first | refine blk_drewN ?_ _ | refine blk_drew ?_ | refine blk_alloc ?_ _)); exact BK20002.out⟩, ⟨by repeat (first | (with_reducible first | exact HB.out | apply below_alloc | apply pw_below_drewN | apply below_drew1 | refine below_set ?_ GE20002.out) | exact HB.out)⟩⟩
                                    · rw [if_neg c24] at H
                                      have c24b0 : (((rd_T69 l0 x14_1).f0) == 6) = false := beq_eq_false_iff_ne.mpr c24
                                      have c24b1 : (((rd_T69 l0 x14_1).f0) != 6) = true := bne_iff_ne.mpr c24
                                      by_cases c25 : ((rd_T69 l0 x14_1).f0) = 7
                                      · rw [if_pos c25] at H
                                        have c25b0 : (((rd_T69 l0 x14_1).f0) == 7) = true := beq_iff_eq.mpr c25
                                        have c25b1 : (((rd_T69 l0 x14_1).f0) != 7) = false := bne_eq_false_iff_eq.mpr c25
                                        clear c25
                                        have H' := Aside0.mk H
                                        clear H
                                        go_wp2
                                        go_meet
                                        case rel => exact ⟨_, ((((rd_T69 l0 x14_1).f0) == 7)), (by first | rfl | (simp; done) | (simp [*]; done)), H', ⟨by have := HK1.out; have := HJ9.out; have := HJ15.out; first | omega | exact Nat.le_refl _⟩, ⟨by (with_reducible repeat (first | refine blk_drewN ?_ _ | refine blk_drew ?_ | refine blk_alloc ?_ _)); exact BK20002.out⟩, ⟨by repeat (first | (with_reducible first | exact HB.out | apply below_alloc | apply pw_below_drewN | apply below_drew1 | refine below_set ?_ GE20002.out) | exact HB.out)⟩⟩
                                      · rw [if_neg c25] at H
                                        have c25b0 : (((rd_T69 l0 x14_1).f0) == 7) = false := beq_eq_false_iff_ne.mpr c25
                                        have c25b1 : (((rd_T69 l0 x14_1).f0) != 7) = true := bne_iff_ne.mpr c25
                                        by_cases c26 : ((rd_T69 l0 x14_1).f0) = 8
                                        · rw [if_pos c26] at H
                                          have c26b0 : (((rd_T69 l0 x14_1).f0) == 8) = true := beq_iff_eq.mpr c26
                                          have c26b1 : (((rd_T69 l0 x14_1).f0) != 8) = false := bne_eq_false_iff_eq.mpr c26
                                          clear c26
                                          have H' := Aside0.mk H
                                          clear H
                                          go_wp2
                                          go_meet
                                          case rel => exact ⟨_, ((((rd_T69 l0 x14_1).f0) == 8)), (by first | rfl | (simp; done) | (simp [*]; done)), H', ⟨by have := HK1.out; have := HJ9.out; have := HJ15.out; first | omega | exact Nat.le_refl _⟩, ⟨by (with_reducible repeat (first | refine blk_drewN ?_ _ | refine blk_drew ?_ | refine blk_alloc ?_ _)); exact BK20002.out⟩, ⟨by repeat (first | (with_reducible first | exact HB.out | apply below_alloc | apply pw_below_drewN | apply below_drew1 | refine below_set ?_ GE20002.out) | exact HB.out)⟩⟩
                                        · rw [if_neg c26] at H
                                          have c26b0 : (((rd_T69 l0 x14_1).f0) == 8) = false := beq_eq_false_iff_ne.mpr c26
                                          have c26b1 : (((rd_T69 l0 x14_1).f0) != 8) = true := bne_iff_ne.mpr c26
                                          by_cases c27 : ((rd_T69 l0 x14_1).f0) = 9
                                          · rw [if_pos c27] at H
                                            have c27b0 : (((rd_T69 l0 x14_1).f0) == 9) = true := beq_iff_eq.mpr c27
                                            have c27b1 : (((rd_T69 l0 x14_1).f0) != 9) = false := bne_eq_false_iff_eq.mpr c27
                                            clear c27
                                            have H' := Aside0.mk H
                                            clear H
                                            go_wp2
                                            go_meet
                                            case rel => exact ⟨_, ((((rd_T69 l0 x14_1).f0) == 9)), (by first | rfl | (simp; done) | (simp [*]; done)), H', ⟨by have := HK1.out; have := HJ9.out; have := HJ15.out; first | omega | exact Nat.le_refl _⟩, ⟨by (with_reducible repeat (first | refine blk_drewN ?_ _ | refine blk_drew ?_ | refine blk_alloc ?_ _)); exact BK20002.out⟩, ⟨by repeat (first | (with_reducible first | exact HB.out | apply below_alloc | apply pw_below_drewN | apply below_drew1 | refine below_set ?_ GE20002.out) | exact HB.out)⟩⟩
                                          · rw [if_neg c27] at H
                                            have c27b0 : (((rd_T69 l0 x14_1).f0) == 9) = false := beq_eq_false_iff_ne.mpr c27
                                            have c27b1 : (((rd_T69 l0 x14_1).f0) != 9) = true := bne_iff_ne.mpr c27
                                            have H' := Aside0.mk H
                                            clear H
                                            go_wp2
                                            go_meet
                                            case rel => exact ⟨_, ((((rd_T69 l0 x14_1).f0) == 10)), (by first | rfl | (simp; done) | (simp [*]; done)), H', ⟨by have := HK1.out; have := HJ9.out; have := HJ15.out; first | omega | exact Nat.le_refl _⟩, ⟨by (with_reducible repeat (first | refine blk_drewN ?_ _ | refine blk_drew ?_ | refine blk_alloc ?_ _)); exact BK20002.out⟩, ⟨by repeat (first | (with_reducible first | exact HB.out | apply below_alloc | apply pw_below_drewN | apply below_drew1 | refine below_set ?_ GE20002.out) | exact HB.out)⟩⟩
                            case rest =>
                              clear HC20
                              try clear c1
                              try clear c2
                              try clear p2
                              try clear q2
                              try clear hx2
                              try clear c3
                              try clear c3b0
                              try clear c3b1
                              try clear c4
                              try clear c4b0
                              try clear c5
                              try clear c5b0
                              try clear c6
                              try clear c6b0
                              try clear p6
                              try clear c7
                              try clear c7b0
                              try clear c7b1
                              try clear c13
                              try clear c13b0
                              try clear c13b1
                              try clear c14
                              try clear c15
                              try clear c15b0
                              try clear c17
                              try clear c17b0
                              try clear c17b1
                              try clear c18
                              try clear c19
                              try clear c19b0
                              try clear c19b1
                              try clear p20
                              try clear q20
                              try clear hx20
                              try clear c21
                              try clear c21b0
                              try clear c21b1
                              try clear c22
                              try clear c22b0
                              try clear c22b1
                              try clear c23
                              try clear c23b0
                              try clear c23b1
                              try clear c24
                              try clear c24b0
                              try clear c24b1
                              try clear c25
                              try clear c25b0
                              try clear c25b1
                              try clear c26
                              try clear c26b0
                              try clear c26b1
                              try clear c27
                              try clear c27b0
                              try clear c27b1
                              try clear hcz12_0
                              try clear hcz12_1
                              try clear hcz9_0
                              try clear hcz9_1
                              try clear hfz12_0
                              try clear hfz12_1
                              try clear hfz9_0
                              try clear hfz9_1
                              try clear hx20001_0
                              try clear hx20001_1
                              try clear p2
                              try clear p20001
                              try clear p6
                              try clear q2
                              try clear q20001
                              obtain ⟨kq, x36_19, rfl, HA, HJ19, BK20002, HB⟩ := hcut
                              cases kq with
                              | zero => exact absurd HA.out (by simp [dict_Sound.j3])
                              | succ kj19 =>
                                have H := HA.out
                                clear HA
                                simp only [dict_Sound.j3] at H
                                by_cases c28 : x36_19 = true
                                · subst c28
                                  have H1 : (if ((wrap64 ((rd_T69 l0 x14_1).f1)) ≤ (l0.length : Int)) then (dict_Sound.l0 kj19 l0 a1 l0 (l0.length : Int) (wrap64 (x14_1 + 1))) else (some false)) = some r := by rw [if_pos rfl] at H; exact H
                                  clear H
                                  have H := H1
                                  clear H1
                                  by_cases c29 : ((wrap64 ((rd_T69 l0 x14_1).f1)) ≤ (l0.length : Int))
                                  · rw [if_pos c29] at H
                                    have c29b0 : decide ((wrap64 ((rd_T69 l0 x14_1).f1)) ≤ (l0.length : Int)) = true := decide_eq_true c29
                                    clear c29
                                    have H' := Aside0.mk H
                                    clear H
                                    go_wp2
                                    go_roundg kj19
                                    case measure => have := HK1.out; have := HJ9.out; have := HJ15.out; have := HJ19.out; omega
                                    case rel => exact ⟨(wrap64 (x14_1 + 1)), (by first | rfl | (simp; done) | (simp [*]; done)), H', ⟨by have := HK1.out; have := HJ9.out; have := HJ15.out; have := HJ19.out; omega⟩, ⟨by repeat (first | (with_reducible first | exact HB.out | apply below_alloc | apply pw_below_drewN | apply below_drew1 | refine below_set ?_ GE20002.out) | exact HB.out)⟩⟩
                                  · rw [if_neg c29] at H
                                    have c29b0 : decide ((wrap64 ((rd_T69 l0 x14_1).f1)) ≤ (l0.length : Int)) = false := decide_eq_false c29
                                    clear c29
                                    obtain rfl := Option.some.inj H
                                    go_wp2
                                    go_ret
                                    exact ⟨by first | rfl | (simp [errW_none, errW_some] <;> rfl) | (simp [*, errW_none, errW_some] <;> rfl), by repeat (first | (with_reducible first | exact HB.out | apply below_alloc | apply pw_below_drewN | apply below_drew1 | refine below_set ?_ GE20002.out) | exact HB.out)⟩
                                · replace c28 := Bool.eq_false_iff.mpr c28
                                  subst c28
                                  have H1 : (if false = true then (dict_Sound.l0 kj19 l0 a1 l0 (l0.length : Int) (wrap64 (x14_1 + 1))) else (some false)) = some r := by rw [if_neg (show ¬ (false = true) by decide)] at H; exact H
                                  clear H
                                  have H := H1
                                  clear H1
                                  by_cases c30 : false = true
                                  · exact absurd c30 (by decide)
                                  · skip
                                    have H1 : (some false) = some r := by rw [if_neg (show ¬ (false = true) by decide)] at H; exact H
                                    clear H
                                    have H := H1
                                    clear H1
                                    obtain rfl := Option.some.inj H
                                    go_wp2
                                    go_ret
                                    exact ⟨by first | rfl | (simp [errW_none, errW_some] <;> rfl) | (simp [*, errW_none, errW_some] <;> rfl), by repeat (first | (with_reducible first | exact HB.out | apply below_alloc | apply pw_below_drewN | apply below_drew1 | refine below_set ?_ GE20002.out) | exact HB.out)⟩
            · rw [if_neg c6] at H
              exact absurd H (by simp)
          · rw [if_neg c5] at H
            exact absurd H (by simp)
        · rw [if_neg c4] at H
          have c4b0 : decide (x14_1 < (l0.length : Int)) = false := decide_eq_false c4
          clear c4
          obtain rfl := Option.some.inj H
          go_wp2
          go_ret
          exact ⟨by first | rfl | (simp [errW_none, errW_some] <;> rfl) | (simp [*, errW_none, errW_some] <;> rfl), by repeat (first | (with_reducible first | exact HB.out | apply below_alloc | apply pw_below_drewN | apply below_drew1) | exact HB.out)⟩

end Go.Proofs.Ytfpkakedlapmkaa.Q
end
section
namespace Go.Proofs.Ytfpkakedlapmkaa.Q
open Go.RowKit Go.Proofs.YtfpkakedlapmkaaW.PrintWords Go.Proofs.YtfpkakedlapmkaaW.PrintLast Go.Proofs.YtfpkakedlapmkaaW.PrintMore
/-- A literal without elements is a row of the call's own. -/
theorem R_empty {α : Type} (d : Kd α) (e : Nat) (W : World) (base : Nat) (hb : base ≤ W.heap.size) : d.R e (W.alloc (.cells #[] e)) base (fun _ => True) (.slice (some ⟨W.heap.size, 0, none⟩) 0 0) [] :=
  ⟨fun _ _ => trivial, [], by have h := World.ownsRow_lit (base := base) (e := e) (size := d.sz) W #[] 0 hb (Nat.zero_le _) (by simp); simpa using h, Reps.none _ _⟩
theorem C_nil_eq {α : Type} {d : Kd α} {w : World} {n : Nat} {xs : List α} (h : d.C w none n xs) : xs = [] := by
  rcases Nat.eq_zero_or_pos n with h0 | h0
  · exact List.eq_nil_of_length_eq_zero (h.1.trans h0)
  · obtain ⟨ad, he, _⟩ := h.2.2 h0
    cases he
theorem Addr_add_zero (a : Addr) : a.add 0 = a := by
  cases a with | mk b o s => unfold Addr.add; split <;> simp_all
/-- Where a cut from 'lo' on begins. -/
def cutAt (A : Option Addr) (cap lo sz : Nat) : Option Addr := if cap = lo then A else A.map (·.add (lo * sz))
theorem sliced_eq (A : Option Addr) (lo hi cap s : Nat) : sliced A lo hi cap s = .slice (cutAt A cap lo s) (hi - lo) (cap - lo) := by
  simp [sliced, cutAt]
section
variable {P : Program} {t e : TypeId} {sz : Nat}
theorem run_size (hi : (P.info? e).map (·.size) = some sz) (W : World) : (sizeOf e).run P W = .ok sz W := by
  obtain ⟨i, h1, h2⟩ := Option.map_eq_some_iff.1 hi
  subst h2
  rw [run_sizeOf W h1]; simp [Program.cellsOf, h1]
theorem run_cut_hi (ht : P.underlying t = some (.slice e)) (hi : (P.info? e).map (·.size) = some sz) (A : Option Addr) (n c : Nat) (j : Int) (h0 : 0 ≤ j) (hm : j ≤ c) (W : World) :
    (Instr.slice t (.slice A n c) none (some (.int .i64 j)) none).run P W = .ok (.slice A j.toNat c) W := by
  have hel : P.elem t = e := by simp [Program.elem, ht]
  rw [run_slice_h W t A n c (by rw [hel]; exact ht) .i64 j h0 hm, hel, run_size hi]
  simp [Result.andThen, sliced_eq, cutAt]
  intro _
  cases A <;> simp [Addr_add_zero]
end
theorem C_cut {α : Type} {d : Kd α} {w : World} {A : Option Addr} {n c : Nat} {xs : List α} (h : d.C w A n xs) (hc : n ≤ c) (lo m : Nat) (hm : lo + m ≤ n) : d.C w (cutAt A c lo d.sz) m ((xs.drop lo).take m) := by
  have hl : xs.length = n := h.1
  refine ⟨by simp [hl]; omega, by have := h.2.1; omega, fun hp => ?_⟩
  obtain ⟨ad, rfl, hcell⟩ := h.2.2 (by omega)
  refine ⟨ad.add (lo * d.sz), by unfold cutAt; rw [if_neg (by omega)]; rfl, fun j p hj => ?_⟩
  have hjm : j < m := by
    have := (List.getElem?_eq_some_iff.1 hj).1
    simp at this; omega
  have hj' : xs[lo + j]? = some p := by
    rw [List.getElem?_take, if_pos hjm, List.getElem?_drop] at hj
    exact hj
  obtain ⟨cs, h1, h2, h3⟩ := hcell (lo + j) p hj'
  refine ⟨cs, h1, h2, fun i u hu => ?_⟩
  have := h3 i u hu
  rw [show (lo + j) * d.sz + i = lo * d.sz + (j * d.sz + i) by rw [Nat.add_mul]; omega] at this
  rw [add_add]
  exact this
/-! copy -/
section
variable {P : Program} {ops : Array Oper} {rest : List Oper} {o : Oper} {a : Act} {Q : Exit → Act → World → Prop}
end
/-! rows whose elements lead nowhere -/
section
variable {α : Type} {d : Kd α} {e base : Nat} {ok : Nat → Prop} {W w1 : World} {v : Value} {xs : List α}
end
end Go.Proofs.Ytfpkakedlapmkaa.Q
end
section
set_option linter.unusedSimpArgs false
set_option linter.unusedVariables false
namespace Go.Proofs.Ytfpkakedlapmkaa.Q
open Go.RowKit Go.Proofs.YtfpkakedlapmkaaW.PrintWords Go.Proofs.YtfpkakedlapmkaaW.PrintLast
def oddR (c : Int) : Bool := decide (c ≤ 32) || decide (126 < c) || (decide (65 ≤ c) && decide (c ≤ 90))
set_option maxHeartbeats 1000000 in
set_option maxRecDepth 100000 in
theorem oddC_calls (c : Int) (w : World) : Calls Try.prog 41 #[.int .i32 c] w fun e w' => e = .returned (.bool (oddR c)) ∧ w' = w := by
  unfold oddR
  by_cases h1 : c ≤ 32
  · have d1 : decide (c ≤ 32) = true := decide_eq_true h1
    rw [d1]
    clear h1
    go_enter Try.func41, Try.ntmps41
    go_wp2
    go_ret
    exact ⟨by simp, rfl⟩
  · have d1 : decide (c ≤ 32) = false := decide_eq_false h1
    rw [d1]
    clear h1
    by_cases h2 : 126 < c
    · have d2 : decide (126 < c) = true := decide_eq_true h2
      rw [d2]
      clear h2
      go_enter Try.func41, Try.ntmps41
      go_wp2
      go_ret
      exact ⟨by simp, rfl⟩
    · have d2 : decide (126 < c) = false := decide_eq_false h2
      rw [d2]
      clear h2
      by_cases h3 : 65 ≤ c
      · have d3 : decide (65 ≤ c) = true := decide_eq_true h3
        rw [d3]
        clear h3
        go_enter Try.func41, Try.ntmps41
        go_wp2
        go_ret
        exact ⟨by simp, rfl⟩
      · have d3 : decide (65 ≤ c) = false := decide_eq_false h3
        rw [d3]
        clear h3
        go_enter Try.func41, Try.ntmps41
        go_wp2
        go_ret
        exact ⟨by simp, rfl⟩
def okB (b : UInt8) : Bool := !oddR (b.toNat : Int)
def okS (s : ByteArray) : Prop := ∀ (i : Nat) (h : i < s.size), okB (s[i]'h) = true
theorem odd_high (c : Int) (h : 128 ≤ c) : oddR c = true := by
  unfold oddR
  rw [decide_eq_true (show 126 < c by omega)]
  simp
set_option maxHeartbeats 2000000 in
set_option maxRecDepth 100000 in
theorem indexFunc_calls (s : ByteArray) (w : World) :
    Calls Try.prog 71 #[.string s, .func (.func 41) #[] #[], .bool true] w fun e w' => ∃ r : Int, e = .returned (.int .i64 r) ∧ (r < 0 ↔ okS s) ∧ Below w.heap.size w w' := by
  have hu9 := Try.underlying9
  have hB : ∀ p, Below w.heap.size w (w.iter s p) := fun p => below_alloc (Below.refl _ _) _
  have HB := Aside0.mk hB
  clear hB
  go_enter Try.func71, Try.ntmps71
  go_wp2
  go_loopw [11] (fun _ wr => ∃ i : Nat, i ≤ s.size ∧ wr = w.iter s i ∧ Aside0 (∀ (j : Nat) (h : j < s.size), j < i → okB (s[j]'h) = true)) (fun _ wr => s.size - wr.iterPos w.heap.size)
  case atStart => exact ⟨0, by omega, rfl, ⟨fun j h hj => absurd hj (by omega)⟩⟩
  case round =>
    obtain ⟨i, hi, rfl, HO⟩ := hrel
    by_cases hlt : i < s.size
    · obtain ⟨c, n, hnx, hod, hn⟩ : ∃ (c : Int) (n : Nat), (∀ ty, (Instr.next (.pointer (some ⟨w.heap.size, 0, none⟩)) true ty).run Try.prog (w.iter s i) = .ok (.tuple #[.bool true, .int .i64 i, .int .i32 c]) (w.iter s (i + n))) ∧ oddR c = !okB (s[i]'hlt) ∧ (oddR c = false → n = 1) := by
        by_cases ha : (s[i]'hlt).toNat < 128
        · exact ⟨((s[i]'hlt).toNat : Int), 1, fun ty => run_next_ascii (P := Try.prog) w s i ty hlt ha, by unfold okB; simp, fun _ => rfl⟩
        · have hd := (decode_high s i hlt (by omega)).1
          refine ⟨((Utf8.decode s i).1 : Int), (Utf8.decode s i).2, fun ty => run_next_any (P := Try.prog) w s i ty hlt, ?_, fun h => ?_⟩
          · unfold okB
            rw [odd_high _ (by omega), odd_high _ (by omega)]
            rfl
          · rw [odd_high _ (by omega)] at h
            cases h
      have HC := Aside0.mk (fun X : World => oddC_calls c X)
      have HH := Aside0.mk hlt
      cases hd : oddR c with
      | true =>
        rw [hd] at HC hod
        have hbad : okB (s[i]'hlt) = false := by simpa using hod
        have HX := Aside0.mk (show ((i : Int) < 0 ↔ okS s) from ⟨fun h => absurd h (by omega), fun h => by have := h i hlt; rw [hbad] at this; cases this⟩)
        clear hd hod hn hi hlt hbad
        go_wp2_with (go_at_call 41; (with_reducible refine (HC.out _).mono ?_); rintro e w7 ⟨rfl, rfl⟩)
        go_ret
        exact ⟨i, rfl, HX.out, HB.out _⟩
      | false =>
        obtain rfl := hn hd
        rw [hd] at HC hod
        have hgood : okB (s[i]'hlt) = true := by simpa using hod
        have HX := Aside0.mk hgood
        clear hd hod hn hi hgood
        go_wp2_with (go_at_call 41; (with_reducible refine (HC.out _).mono ?_); rintro e w7 ⟨rfl, rfl⟩)
        go_roundw
        case rel =>
          refine ⟨i + 1, HH.out, rfl, ⟨fun j h hj => ?_⟩⟩
          rcases Nat.lt_or_eq_of_le (Nat.le_of_lt_succ hj) with h2 | h2
          · exact HO.out j h h2
          · subst h2; exact HX.out
        case measure =>
          have := HH.out
          simp
          omega
    · have hnx := fun ty => run_next_end (P := Try.prog) w s i ty hlt
      go_wp2
      go_ret
      exact ⟨-1, rfl, ⟨fun _ j h => HO.out j h (by omega), fun _ => by decide⟩, HB.out _⟩
instance okS_dec (s : ByteArray) : Decidable (okS s) := by unfold okS; infer_instance
def dNamed (s : ByteArray) : Bool := !s.toList.isEmpty && (decide ((s.size : Int) ≤ 31) && decide (okS s))
set_option maxHeartbeats 2000000 in
set_option maxRecDepth 100000 in
theorem named_calls (s : ByteArray) (w : World) : Calls Try.prog 18 #[.string s] w fun e w' => e = .returned (.bool (dNamed s)) ∧ Below w.heap.size w w' := by
  have HI := Aside0.mk (indexFunc_calls s)
  have HB := Aside0.mk (Below.refl w.heap.size w)
  unfold dNamed
  by_cases d1 : s.toList.isEmpty = true
  · rw [d1]
    go_enter Try.func18, Try.ntmps18
    go_wp2
    go_ret
    exact ⟨by simp, HB.out⟩
  · replace d1 : s.toList.isEmpty = false := by simpa using d1
    rw [d1]
    by_cases h2 : (s.size : Int) ≤ 31
    · have d2 : decide ((s.size : Int) ≤ 31) = true := decide_eq_true h2
      rw [d2]
      clear h2
      have HS := Aside0.mk (show ∀ X : World, Calls Try.prog 42 #[.string s, .func (.func 41) #[] #[]] X fun e w' => ∃ r : Int, e = .returned (.int .i64 r) ∧ (r < 0 ↔ okS s) ∧ Below X.heap.size X w' from fun X => by
        have HI2 := Aside0.mk (HI.out X)
        clear HI HB d1 d2
        go_enter Try.func42, Try.ntmps42
        go_wp2_with (go_at_call 71; (with_reducible refine HI2.out.mono ?_); rintro e w7 ⟨r, rfl, hr, hb⟩; have HR := Aside0.mk hr; have HB := Aside0.mk hb; clear hr hb)
        go_ret
        exact ⟨r, rfl, HR.out, HB.out⟩)
      go_enter Try.func18, Try.ntmps18
      go_wp2_with (go_at_call 42; (with_reducible refine (HS.out _).mono ?_); rintro e w7 ⟨r, rfl, hr, hb⟩; have HR := Aside0.mk hr; have HB := Aside0.mk hb; clear hr hb)
      go_ret
      refine ⟨?_, HB.out⟩
      have : decide (r < 0) = decide (okS s) := decide_eq_decide.2 HR.out
      simp [this]
    · have d2 : decide ((s.size : Int) ≤ 31) = false := decide_eq_false h2
      rw [d2]
      clear h2
      go_enter Try.func18, Try.ntmps18
      go_wp2
      go_ret
      exact ⟨by simp, HB.out⟩
def dict_Named.f (a0 : ByteArray) : Option Bool := some (dNamed a0)
theorem dict_Named.calls (a0 : ByteArray) (r : Bool) (w : World) (h : dict_Named.f a0 = some r) : Calls Try.prog 18 #[.string a0] w fun e w' => e = .returned (.bool r) ∧ Below w.heap.size w w' := by
  obtain rfl := Option.some.inj h
  exact named_calls a0 w
end Go.Proofs.Ytfpkakedlapmkaa.Q
end
section
namespace Go.Proofs.Ytfpkakedlapmkaa.Q
open Go.RowKit Go.Proofs.YtfpkakedlapmkaaW.PrintWords Go.Proofs.YtfpkakedlapmkaaW.PrintLast Go.Proofs.YtfpkakedlapmkaaW.PrintMore
set_option linter.unusedVariables false
set_option linter.unusedSimpArgs false

attribute [local go_sem] max2_int min2_int max_two min_two max_three min_three max_four min_four
/-! ### dict_right: function 65 -/
def dict_right.j0 : Nat → Int → List (S91) → Bool → ByteArray → Int → Int → Int → List (S69) → Option (Bool)
  | 0, _, _, _, _, _, _, _, _ => none
  | k + 1, x1, x2, x28, x66002000, x66002001, x66002002, x66002003, x66002004 => if x28 = true then (some false) else (if x66002002 = 2 then (if x66002003 = 0 then ((dict_Sound.f k x66002004 x1).bind fun t66003 => (some t66003)) else (some false)) else (if x66002002 = 6 then (if (x66002004.length : Int) = 0 then (some (decide ((wrap64 (x66002003)) < x1))) else (some false)) else (if x66002002 = 7 then (if (x66002004.length : Int) = 0 then (if x66002001 ≥ 0 then (if 0 ≤ x66002001 then (if x66002001 < (x2.length : Int) then (some (decide ((wrap64 (x66002003)) < (((rd_T91 x2 x66002001).f4).length : Int)))) else (none)) else (none)) else (some false)) else (some false)) else (if x66002002 = 3 then (some ((x66002004.length : Int) == 0)) else (if x66002002 = 4 then (some ((x66002004.length : Int) == 0)) else (if x66002002 = 5 then (some ((x66002004.length : Int) == 0)) else (some false)))))))
def dict_right.f (k : Nat) (a0_0 : ByteArray) (a0_1 : Int) (a0_2 : Int) (a0_3 : Int) (l0_4 : List (S69)) (a1 : Int) (l2 : List (S91)) : Option (Bool) := if a0_0.toList = ([] : List UInt8) then (if a0_1 < (-1) then (dict_right.j0 k a1 l2 true a0_0 a0_1 a0_2 a0_3 l0_4) else (dict_right.j0 k a1 l2 (decide (a0_1 ≥ (l2.length : Int))) a0_0 a0_1 a0_2 a0_3 l0_4)) else ((dict_Named.f a0_0).bind fun t66002 => (if t66002 = true then (if a0_1 < (-1) then (dict_right.j0 k a1 l2 true a0_0 a0_1 a0_2 a0_3 l0_4) else (dict_right.j0 k a1 l2 (decide (a0_1 ≥ (l2.length : Int))) a0_0 a0_1 a0_2 a0_3 l0_4)) else (dict_right.j0 k a1 l2 true a0_0 a0_1 a0_2 a0_3 l0_4)))
set_option maxHeartbeats 8000000 in
set_option maxRecDepth 100000 in
theorem dict_right.calls (k : Nat) (a0_0 : ByteArray) (a0_1 : Int) (a0_2 : Int) (a0_3 : Int) (A0_4 : Option Addr) (c0_4 : Nat) (l0_4 : List (S69)) (a1 : Int) (A2 : Option Addr) (c2 : Nat) (l2 : List (S91)) (r : Bool) (w : World) (hr0_4 : Kd.C k69 w A0_4 l0_4.length l0_4) (hc0_4 : l0_4.length ≤ c0_4) (hr2 : Kd.C k91 w A2 l2.length l2) (hc2 : l2.length ≤ c2) (h : dict_right.f k a0_0 a0_1 a0_2 a0_3 l0_4 a1 l2 = some r) :
    Calls Try.prog 65 #[.agg #[.string a0_0, .int .i64 a0_1, .int .i64 a0_2, .int .u32 a0_3, .slice A0_4 l0_4.length c0_4], .int .i64 a1, .slice A2 l2.length c2] w fun e w' => e = .returned (.bool r) ∧ Below w.heap.size w w' := by
  have hu51 := Try.underlying51
  have HR0_4 := Aside0.mk hr0_4
  have HC0_4 := Aside0.mk hc0_4
  clear hr0_4 hc0_4
  have HR2 := Aside0.mk hr2
  have HC2 := Aside0.mk hc2
  clear hr2 hc2
  have HB := Aside0.mk (Below.refl w.heap.size w)
  have H : (if a0_0.toList = ([] : List UInt8) then (if a0_1 < (-1) then (dict_right.j0 k a1 l2 true a0_0 a0_1 a0_2 a0_3 l0_4) else (dict_right.j0 k a1 l2 (decide (a0_1 ≥ (l2.length : Int))) a0_0 a0_1 a0_2 a0_3 l0_4)) else ((dict_Named.f a0_0).bind fun t66002 => (if t66002 = true then (if a0_1 < (-1) then (dict_right.j0 k a1 l2 true a0_0 a0_1 a0_2 a0_3 l0_4) else (dict_right.j0 k a1 l2 (decide (a0_1 ≥ (l2.length : Int))) a0_0 a0_1 a0_2 a0_3 l0_4)) else (dict_right.j0 k a1 l2 true a0_0 a0_1 a0_2 a0_3 l0_4)))) = some r := h
  clear h
  have HC4 := Aside0.mk H
  clear H
  go_enter Try.func65, Try.ntmps65
  go_upto_region 1 with (first | ((with_reducible refine gate_dst (N := 3) rfl ?_); (try (refine gate_guard (by rfl) ?_; dsimp only)); refine box_event ?hg (N := 3) ?hd (cs := #[.string a0_0, .int .i64 a0_1, .int .i64 a0_2, .int .u32 a0_3, .slice A0_4 l0_4.length c0_4]) (t := 51) ?hr ?_; (case hd => rfl); (case hg => rfl); (case hr => first | (go_simp; done) | (go_simp; rfl)); intro gb66001 hg w5 hbox hb; have n0_ := Aside0.mk (below_step (by repeat (first | (with_reducible first | exact HB.out | apply below_alloc | apply pw_below_drewN | apply below_drew1) | exact HB.out)) hb); have n1_ := Aside0.mk (hbox); have n2_ := Aside0.mk ((by rw [hg]; exact (below_size (by repeat (first | (with_reducible first | exact HB.out | apply below_alloc | apply pw_below_drewN | apply below_drew1) | exact HB.out))) : w.heap.size ≤ gb66001)); have n3_ := Aside0.mk ((by rw [hg]; exact (below_size (by repeat (first | (with_reducible first | exact HB.out | apply below_alloc | apply pw_below_drewN | apply below_drew1) | exact HB.out))) : w.heap.size ≤ gb66001)); clear HB; have HB := n0_; have BK66001 := n1_; have GW66001 := n2_; have GE66001 := n3_; clear n0_ n1_ n2_ n3_; clear hb hbox hg))
  repeat (go_quiet (first | ((with_reducible refine gate_dst (N := 3) rfl ?_); (try (refine gate_guard (by rfl) ?_; dsimp only)); refine box_event ?hg (N := 3) ?hd (cs := #[.string a0_0, .int .i64 a0_1, .int .i64 a0_2, .int .u32 a0_3, .slice A0_4 l0_4.length c0_4]) (t := 51) ?hr ?_; (case hd => rfl); (case hg => rfl); (case hr => first | (go_simp; done) | (go_simp; rfl)); intro gb66001 hg w5 hbox hb; have n0_ := Aside0.mk (below_step (by repeat (first | (with_reducible first | exact HB.out | apply below_alloc | apply pw_below_drewN | apply below_drew1) | exact HB.out)) hb); have n1_ := Aside0.mk (hbox); have n2_ := Aside0.mk ((by rw [hg]; exact (below_size (by repeat (first | (with_reducible first | exact HB.out | apply below_alloc | apply pw_below_drewN | apply below_drew1) | exact HB.out))) : w.heap.size ≤ gb66001)); have n3_ := Aside0.mk ((by rw [hg]; exact (below_size (by repeat (first | (with_reducible first | exact HB.out | apply below_alloc | apply pw_below_drewN | apply below_drew1) | exact HB.out))) : w.heap.size ≤ gb66001)); clear HB; have HB := n0_; have BK66001 := n1_; have GW66001 := n2_; have GE66001 := n3_; clear n0_ n1_ n2_ n3_; clear hb hbox hg)); go_upto_region 1 with (first | ((with_reducible refine gate_dst (N := 3) rfl ?_); (try (refine gate_guard (by rfl) ?_; dsimp only)); refine box_event ?hg (N := 3) ?hd (cs := #[.string a0_0, .int .i64 a0_1, .int .i64 a0_2, .int .u32 a0_3, .slice A0_4 l0_4.length c0_4]) (t := 51) ?hr ?_; (case hd => rfl); (case hg => rfl); (case hr => first | (go_simp; done) | (go_simp; rfl)); intro gb66001 hg w5 hbox hb; have n0_ := Aside0.mk (below_step (by repeat (first | (with_reducible first | exact HB.out | apply below_alloc | apply pw_below_drewN | apply below_drew1) | exact HB.out)) hb); have n1_ := Aside0.mk (hbox); have n2_ := Aside0.mk ((by rw [hg]; exact (below_size (by repeat (first | (with_reducible first | exact HB.out | apply below_alloc | apply pw_below_drewN | apply below_drew1) | exact HB.out))) : w.heap.size ≤ gb66001)); have n3_ := Aside0.mk ((by rw [hg]; exact (below_size (by repeat (first | (with_reducible first | exact HB.out | apply below_alloc | apply pw_below_drewN | apply below_drew1) | exact HB.out))) : w.heap.size ≤ gb66001)); clear HB; have HB := n0_; have BK66001 := n1_; have GW66001 := n2_; have GE66001 := n3_; clear n0_ n1_ n2_ n3_; clear hb hbox hg)))
  (try simp only [Act.put, List.setIfInBounds_toArray, List.set_cons_zero, List.set_cons_succ])
  go_cut [28] (fun v28 wc => ∃ (kq : Nat) (x28_3 : Bool), v28 = .bool x28_3 ∧ Aside0 (dict_right.j0 kq a1 l2 x28_3 a0_0 a0_1 a0_2 a0_3 l0_4 = some r) ∧ Aside0 (kq ≤ k) ∧ Aside0 (wc.heap[gb66001]? = some (.cells #[.string a0_0, .int .i64 a0_1, .int .i64 a0_2, .int .u32 a0_3, (.slice A0_4 l0_4.length c0_4)] 51 (0, 0))) ∧ Aside0 (Below w.heap.size w wc))
  case first =>
    have H := HC4.out
    clear HC4
    by_cases c6 : a0_0.toList = ([] : List UInt8)
    · rw [if_pos c6] at H
      have c6b0 : (a0_0.toList == ([] : List UInt8)) = true := beq_iff_eq.mpr c6
      have c6b1 : (a0_0.toList != ([] : List UInt8)) = false := bne_eq_false_iff_eq.mpr c6
      clear c6
      (first | rw [c6b0] | (simp only [i64_w, i32_w]; rw [c6b0]) | skip)
      by_cases c7 : a0_1 < (-1)
      · rw [if_pos c7] at H
        have c7b0 : decide (a0_1 < (-1)) = true := decide_eq_true c7
        clear c7
        have H' := Aside0.mk H
        clear H
        have hcz8_0 : w5.cell? ⟨gb66001, 0, none⟩ = some (.string a0_0) := (blk_cell BK66001.out 0).trans rfl
        have hcz8_1 : w5.cell? ⟨gb66001, 1, none⟩ = some (.int .i64 a0_1) := (blk_cell BK66001.out 1).trans rfl
        have hcz8_2 : w5.cell? ⟨gb66001, 2, none⟩ = some (.int .i64 a0_2) := (blk_cell BK66001.out 2).trans rfl
        have hcz8_3 : w5.cell? ⟨gb66001, 3, none⟩ = some (.int .u32 a0_3) := (blk_cell BK66001.out 3).trans rfl
        have hcz8_4 : w5.cell? ⟨gb66001, 4, none⟩ = some (.slice A0_4 l0_4.length c0_4) := (blk_cell BK66001.out 4).trans rfl
        have hfz8_0 := blk_frozen BK66001.out 0
        have hfz8_1 := blk_frozen BK66001.out 1
        have hfz8_2 := blk_frozen BK66001.out 2
        have hfz8_3 := blk_frozen BK66001.out 3
        have hfz8_4 := blk_frozen BK66001.out 4
        go_wp2
        repeat (go_quiet (fail); try go_wp2)
        go_meet
        case rel => exact ⟨_, (true), (by first | rfl | (simp; done) | (simp [*]; done)), H', ⟨by first | omega | exact Nat.le_refl _⟩, ⟨by (with_reducible repeat (first | refine blk_drewN ?_ _ | refine blk_drew ?_ | refine blk_alloc ?_ _)); exact BK66001.out⟩, ⟨by repeat (first | (with_reducible first | exact HB.out | apply below_alloc | apply pw_below_drewN | apply below_drew1 | refine below_set ?_ GE66001.out) | exact HB.out)⟩⟩
      · rw [if_neg c7] at H
        have c7b0 : decide (a0_1 < (-1)) = false := decide_eq_false c7
        clear c7
        have H' := Aside0.mk H
        clear H
        have hcz9_0 : w5.cell? ⟨gb66001, 0, none⟩ = some (.string a0_0) := (blk_cell BK66001.out 0).trans rfl
        have hcz9_1 : w5.cell? ⟨gb66001, 1, none⟩ = some (.int .i64 a0_1) := (blk_cell BK66001.out 1).trans rfl
        have hcz9_2 : w5.cell? ⟨gb66001, 2, none⟩ = some (.int .i64 a0_2) := (blk_cell BK66001.out 2).trans rfl
        have hcz9_3 : w5.cell? ⟨gb66001, 3, none⟩ = some (.int .u32 a0_3) := (blk_cell BK66001.out 3).trans rfl
        have hcz9_4 : w5.cell? ⟨gb66001, 4, none⟩ = some (.slice A0_4 l0_4.length c0_4) := (blk_cell BK66001.out 4).trans rfl
        have hfz9_0 := blk_frozen BK66001.out 0
        have hfz9_1 := blk_frozen BK66001.out 1
        have hfz9_2 := blk_frozen BK66001.out 2
        have hfz9_3 := blk_frozen BK66001.out 3
        have hfz9_4 := blk_frozen BK66001.out 4
        go_wp2
        repeat (go_quiet (fail); try go_wp2)
        go_meet
        case rel => exact ⟨_, (decide (a0_1 ≥ (l2.length : Int))), (by first | rfl | (simp; done) | (simp [*]; done)), H', ⟨by first | omega | exact Nat.le_refl _⟩, ⟨by (with_reducible repeat (first | refine blk_drewN ?_ _ | refine blk_drew ?_ | refine blk_alloc ?_ _)); exact BK66001.out⟩, ⟨by repeat (first | (with_reducible first | exact HB.out | apply below_alloc | apply pw_below_drewN | apply below_drew1 | refine below_set ?_ GE66001.out) | exact HB.out)⟩⟩
    · rw [if_neg c6] at H
      have c6b0 : (a0_0.toList == ([] : List UInt8)) = false := beq_eq_false_iff_ne.mpr c6
      have c6b1 : (a0_0.toList != ([] : List UInt8)) = true := bne_iff_ne.mpr c6
      (first | rw [c6b0] | (simp only [i64_w, i32_w]; rw [c6b0]) | skip)
      replace H := Option.bind_eq_some_iff.mp H
      obtain ⟨t66002, A100, H⟩ := H
      replace H : (if t66002 = true then (if a0_1 < (-1) then (dict_right.j0 k a1 l2 true a0_0 a0_1 a0_2 a0_3 l0_4) else (dict_right.j0 k a1 l2 (decide (a0_1 ≥ (l2.length : Int))) a0_0 a0_1 a0_2 a0_3 l0_4)) else (dict_right.j0 k a1 l2 true a0_0 a0_1 a0_2 a0_3 l0_4)) = some r := H
      have A10 := Aside0.mk A100
      clear A100
      by_cases c11 : t66002 = true
      · subst c11
        have H1 : (if a0_1 < (-1) then (dict_right.j0 k a1 l2 true a0_0 a0_1 a0_2 a0_3 l0_4) else (dict_right.j0 k a1 l2 (decide (a0_1 ≥ (l2.length : Int))) a0_0 a0_1 a0_2 a0_3 l0_4)) = some r := by rw [if_pos rfl] at H; exact H
        clear H
        have H := H1
        clear H1
        by_cases c12 : a0_1 < (-1)
        · rw [if_pos c12] at H
          have c12b0 : decide (a0_1 < (-1)) = true := decide_eq_true c12
          clear c12
          have H' := Aside0.mk H
          clear H
          have hcz13_0 : w5.cell? ⟨gb66001, 0, none⟩ = some (.string a0_0) := (blk_cell BK66001.out 0).trans rfl
          have hcz13_1 : w5.cell? ⟨gb66001, 1, none⟩ = some (.int .i64 a0_1) := (blk_cell BK66001.out 1).trans rfl
          have hcz13_2 : w5.cell? ⟨gb66001, 2, none⟩ = some (.int .i64 a0_2) := (blk_cell BK66001.out 2).trans rfl
          have hcz13_3 : w5.cell? ⟨gb66001, 3, none⟩ = some (.int .u32 a0_3) := (blk_cell BK66001.out 3).trans rfl
          have hcz13_4 : w5.cell? ⟨gb66001, 4, none⟩ = some (.slice A0_4 l0_4.length c0_4) := (blk_cell BK66001.out 4).trans rfl
          have hfz13_0 := blk_frozen BK66001.out 0
          have hfz13_1 := blk_frozen BK66001.out 1
          have hfz13_2 := blk_frozen BK66001.out 2
          have hfz13_3 := blk_frozen BK66001.out 3
          have hfz13_4 := blk_frozen BK66001.out 4
          go_wp2_with (first | (go_at_call 18; (with_reducible refine (dict_Named.calls a0_0 true _ A10.out).mono ?_); rintro e w14 ⟨rfl, hb⟩; have n0_ := Aside0.mk (blk_below (g := gb66001) (o := .cells #[.string a0_0, .int .i64 a0_1, .int .i64 a0_2, .int .u32 a0_3, .slice A0_4 l0_4.length c0_4] 51 (0, 0)) (by (with_reducible repeat (first | refine blk_drewN ?_ _ | refine blk_drew ?_ | refine blk_alloc ?_ _)); exact BK66001.out) hb); have n1_ := Aside0.mk (below_step (by repeat (first | (with_reducible first | exact HB.out | apply below_alloc | apply pw_below_drewN | apply below_drew1 | refine below_set ?_ GE66001.out) | exact HB.out)) hb); clear BK66001; clear HB; have BK66001 := n0_; have HB := n1_; clear n0_ n1_; (try clear hb); (try clear hb2); (try clear hk); (try clear hi); have hcz15_0 : w14.cell? ⟨gb66001, 0, none⟩ = some (.string a0_0) := (blk_cell BK66001.out 0).trans rfl; have hcz15_1 : w14.cell? ⟨gb66001, 1, none⟩ = some (.int .i64 a0_1) := (blk_cell BK66001.out 1).trans rfl; have hcz15_2 : w14.cell? ⟨gb66001, 2, none⟩ = some (.int .i64 a0_2) := (blk_cell BK66001.out 2).trans rfl; have hcz15_3 : w14.cell? ⟨gb66001, 3, none⟩ = some (.int .u32 a0_3) := (blk_cell BK66001.out 3).trans rfl; have hcz15_4 : w14.cell? ⟨gb66001, 4, none⟩ = some (.slice A0_4 l0_4.length c0_4) := (blk_cell BK66001.out 4).trans rfl; have hfz15_0 := blk_frozen BK66001.out 0; have hfz15_1 := blk_frozen BK66001.out 1; have hfz15_2 := blk_frozen BK66001.out 2; have hfz15_3 := blk_frozen BK66001.out 3; have hfz15_4 := blk_frozen BK66001.out 4))
          repeat (go_quiet (first | (go_at_call 18; (with_reducible refine (dict_Named.calls a0_0 true _ A10.out).mono ?_); rintro e w14 ⟨rfl, hb⟩; have n0_ := Aside0.mk (blk_below (g := gb66001) (o := .cells #[.string a0_0, .int .i64 a0_1, .int .i64 a0_2, .int .u32 a0_3, .slice A0_4 l0_4.length c0_4] 51 (0, 0)) (by (with_reducible repeat (first | refine blk_drewN ?_ _ | refine blk_drew ?_ | refine blk_alloc ?_ _)); exact BK66001.out) hb); have n1_ := Aside0.mk (below_step (by repeat (first | (with_reducible first | exact HB.out | apply below_alloc | apply pw_below_drewN | apply below_drew1 | refine below_set ?_ GE66001.out) | exact HB.out)) hb); clear BK66001; clear HB; have BK66001 := n0_; have HB := n1_; clear n0_ n1_; (try clear hb); (try clear hb2); (try clear hk); (try clear hi); have hcz15_0 : w14.cell? ⟨gb66001, 0, none⟩ = some (.string a0_0) := (blk_cell BK66001.out 0).trans rfl; have hcz15_1 : w14.cell? ⟨gb66001, 1, none⟩ = some (.int .i64 a0_1) := (blk_cell BK66001.out 1).trans rfl; have hcz15_2 : w14.cell? ⟨gb66001, 2, none⟩ = some (.int .i64 a0_2) := (blk_cell BK66001.out 2).trans rfl; have hcz15_3 : w14.cell? ⟨gb66001, 3, none⟩ = some (.int .u32 a0_3) := (blk_cell BK66001.out 3).trans rfl; have hcz15_4 : w14.cell? ⟨gb66001, 4, none⟩ = some (.slice A0_4 l0_4.length c0_4) := (blk_cell BK66001.out 4).trans rfl; have hfz15_0 := blk_frozen BK66001.out 0; have hfz15_1 := blk_frozen BK66001.out 1; have hfz15_2 := blk_frozen BK66001.out 2; have hfz15_3 := blk_frozen BK66001.out 3; have hfz15_4 := blk_frozen BK66001.out 4)); try go_wp2_with (first | (go_at_call 18; (with_reducible refine (dict_Named.calls a0_0 true _ A10.out).mono ?_); rintro e w14 ⟨rfl, hb⟩; have n0_ := Aside0.mk (blk_below (g := gb66001) (o := .cells #[.string a0_0, .int .i64 a0_1, .int .i64 a0_2, .int .u32 a0_3, .slice A0_4 l0_4.length c0_4] 51 (0, 0)) (by (with_reducible repeat (first | refine blk_drewN ?_ _ | refine blk_drew ?_ | refine blk_alloc ?_ _)); exact BK66001.out) hb); have n1_ := Aside0.mk (below_step (by repeat (first | (with_reducible first | exact HB.out | apply below_alloc | apply pw_below_drewN | apply below_drew1 | refine below_set ?_ GE66001.out) | exact HB.out)) hb); clear BK66001; clear HB; have BK66001 := n0_; have HB := n1_; clear n0_ n1_; (try clear hb); (try clear hb2); (try clear hk); (try clear hi); have hcz15_0 : w14.cell? ⟨gb66001, 0, none⟩ = some (.string a0_0) := (blk_cell BK66001.out 0).trans rfl; have hcz15_1 : w14.cell? ⟨gb66001, 1, none⟩ = some (.int .i64 a0_1) := (blk_cell BK66001.out 1).trans rfl; have hcz15_2 : w14.cell? ⟨gb66001, 2, none⟩ = some (.int .i64 a0_2) := (blk_cell BK66001.out 2).trans rfl; have hcz15_3 : w14.cell? ⟨gb66001, 3, none⟩ = some (.int .u32 a0_3) := (blk_cell BK66001.out 3).trans rfl; have hcz15_4 : w14.cell? ⟨gb66001, 4, none⟩ = some (.slice A0_4 l0_4.length c0_4) := (blk_cell BK66001.out 4).trans rfl; have hfz15_0 := blk_frozen BK66001.out 0; have hfz15_1 := blk_frozen BK66001.out 1; have hfz15_2 := blk_frozen BK66001.out 2; have hfz15_3 := blk_frozen BK66001.out 3; have hfz15_4 := blk_frozen BK66001.out 4)))
          go_meet
          case rel => exact ⟨_, (true), (by first | rfl | (simp; done) | (simp [*]; done)), H', ⟨by first | omega | exact Nat.le_refl _⟩, ⟨by (with_reducible repeat (first | refine blk_drewN ?_ _ | refine blk_drew ?_ | refine blk_alloc ?_ _)); exact BK66001.out⟩, ⟨by repeat (first | (with_reducible first | exact HB.out | apply below_alloc | apply pw_below_drewN | apply below_drew1 | refine below_set ?_ GE66001.out) | exact HB.out)⟩⟩
        · rw [if_neg c12] at H
          have c12b0 : decide (a0_1 < (-1)) = false := decide_eq_false c12
          clear c12
          have H' := Aside0.mk H
          clear H
          have hcz16_0 : w5.cell? ⟨gb66001, 0, none⟩ = some (.string a0_0) := (blk_cell BK66001.out 0).trans rfl
          have hcz16_1 : w5.cell? ⟨gb66001, 1, none⟩ = some (.int .i64 a0_1) := (blk_cell BK66001.out 1).trans rfl
          have hcz16_2 : w5.cell? ⟨gb66001, 2, none⟩ = some (.int .i64 a0_2) := (blk_cell BK66001.out 2).trans rfl
          have hcz16_3 : w5.cell? ⟨gb66001, 3, none⟩ = some (.int .u32 a0_3) := (blk_cell BK66001.out 3).trans rfl
          have hcz16_4 : w5.cell? ⟨gb66001, 4, none⟩ = some (.slice A0_4 l0_4.length c0_4) := (blk_cell BK66001.out 4).trans rfl
          have hfz16_0 := blk_frozen BK66001.out 0
          have hfz16_1 := blk_frozen BK66001.out 1
          have hfz16_2 := blk_frozen BK66001.out 2
          have hfz16_3 := blk_frozen BK66001.out 3
          have hfz16_4 := blk_frozen BK66001.out 4
          go_wp2_with (first | (go_at_call 18; (with_reducible refine (dict_Named.calls a0_0 true _ A10.out).mono ?_); rintro e w17 ⟨rfl, hb⟩; have n0_ := Aside0.mk (blk_below (g := gb66001) (o := .cells #[.string a0_0, .int .i64 a0_1, .int .i64 a0_2, .int .u32 a0_3, .slice A0_4 l0_4.length c0_4] 51 (0, 0)) (by (with_reducible repeat (first | refine blk_drewN ?_ _ | refine blk_drew ?_ | refine blk_alloc ?_ _)); exact BK66001.out) hb); have n1_ := Aside0.mk (below_step (by repeat (first | (with_reducible first | exact HB.out | apply below_alloc | apply pw_below_drewN | apply below_drew1 | refine below_set ?_ GE66001.out) | exact HB.out)) hb); clear BK66001; clear HB; have BK66001 := n0_; have HB := n1_; clear n0_ n1_; (try clear hb); (try clear hb2); (try clear hk); (try clear hi); have hcz18_0 : w17.cell? ⟨gb66001, 0, none⟩ = some (.string a0_0) := (blk_cell BK66001.out 0).trans rfl; have hcz18_1 : w17.cell? ⟨gb66001, 1, none⟩ = some (.int .i64 a0_1) := (blk_cell BK66001.out 1).trans rfl; have hcz18_2 : w17.cell? ⟨gb66001, 2, none⟩ = some (.int .i64 a0_2) := (blk_cell BK66001.out 2).trans rfl; have hcz18_3 : w17.cell? ⟨gb66001, 3, none⟩ = some (.int .u32 a0_3) := (blk_cell BK66001.out 3).trans rfl; have hcz18_4 : w17.cell? ⟨gb66001, 4, none⟩ = some (.slice A0_4 l0_4.length c0_4) := (blk_cell BK66001.out 4).trans rfl; have hfz18_0 := blk_frozen BK66001.out 0; have hfz18_1 := blk_frozen BK66001.out 1; have hfz18_2 := blk_frozen BK66001.out 2; have hfz18_3 := blk_frozen BK66001.out 3; have hfz18_4 := blk_frozen BK66001.out 4))
          repeat (go_quiet (first | (go_at_call 18; (with_reducible refine (dict_Named.calls a0_0 true _ A10.out).mono ?_); rintro e w17 ⟨rfl, hb⟩; have n0_ := Aside0.mk (blk_below (g := gb66001) (o := .cells #[.string a0_0, .int .i64 a0_1, .int .i64 a0_2, .int .u32 a0_3, .slice A0_4 l0_4.length c0_4] 51 (0, 0)) (by (with_reducible repeat (first | refine blk_drewN ?_ _ | refine blk_drew ?_ | refine blk_alloc ?_ _)); exact BK66001.out) hb); have n1_ := Aside0.mk (below_step (by repeat (first | (with_reducible first | exact HB.out | apply below_alloc | apply pw_below_drewN | apply below_drew1 | refine below_set ?_ GE66001.out) | exact HB.out)) hb); clear BK66001; clear HB; have BK66001 := n0_; have HB := n1_; clear n0_ n1_; (try clear hb); (try clear hb2); (try clear hk); (try clear hi); have hcz18_0 : w17.cell? ⟨gb66001, 0, none⟩ = some (.string a0_0) := (blk_cell BK66001.out 0).trans rfl; have hcz18_1 : w17.cell? ⟨gb66001, 1, none⟩ = some (.int .i64 a0_1) := (blk_cell BK66001.out 1).trans rfl; have hcz18_2 : w17.cell? ⟨gb66001, 2, none⟩ = some (.int .i64 a0_2) := (blk_cell BK66001.out 2).trans rfl; have hcz18_3 : w17.cell? ⟨gb66001, 3, none⟩ = some (.int .u32 a0_3) := (blk_cell BK66001.out 3).trans rfl; have hcz18_4 : w17.cell? ⟨gb66001, 4, none⟩ = some (.slice A0_4 l0_4.length c0_4) := (blk_cell BK66001.out 4).trans rfl; have hfz18_0 := blk_frozen BK66001.out 0; have hfz18_1 := blk_frozen BK66001.out 1; have hfz18_2 := blk_frozen BK66001.out 2; have hfz18_3 := blk_frozen BK66001.out 3; have hfz18_4 := blk_frozen BK66001.out 4)); try go_wp2_with (first | (go_at_call 18; (with_reducible refine (dict_Named.calls a0_0 true _ A10.out).mono ?_); rintro e w17 ⟨rfl, hb⟩; have n0_ := Aside0.mk (blk_below (g := gb66001) (o := .cells #[.string a0_0, .int .i64 a0_1, .int .i64 a0_2, .int .u32 a0_3, .slice A0_4 l0_4.length c0_4] 51 (0, 0)) (by (with_reducible repeat (first | refine blk_drewN ?_ _ | refine blk_drew ?_ | refine blk_alloc ?_ _)); exact BK66001.out) hb); have n1_ := Aside0.mk (below_step (by repeat (first | (with_reducible first | exact HB.out | apply below_alloc | apply pw_below_drewN | apply below_drew1 | refine below_set ?_ GE66001.out) | exact HB.out)) hb); clear BK66001; clear HB; have BK66001 := n0_; have HB := n1_; clear n0_ n1_; (try clear hb); (try clear hb2); (try clear hk); (try clear hi); have hcz18_0 : w17.cell? ⟨gb66001, 0, none⟩ = some (.string a0_0) := (blk_cell BK66001.out 0).trans rfl; have hcz18_1 : w17.cell? ⟨gb66001, 1, none⟩ = some (.int .i64 a0_1) := (blk_cell BK66001.out 1).trans rfl; have hcz18_2 : w17.cell? ⟨gb66001, 2, none⟩ = some (.int .i64 a0_2) := (blk_cell BK66001.out 2).trans rfl; have hcz18_3 : w17.cell? ⟨gb66001, 3, none⟩ = some (.int .u32 a0_3) := (blk_cell BK66001.out 3).trans rfl; have hcz18_4 : w17.cell? ⟨gb66001, 4, none⟩ = some (.slice A0_4 l0_4.length c0_4) := (blk_cell BK66001.out 4).trans rfl; have hfz18_0 := blk_frozen BK66001.out 0; have hfz18_1 := blk_frozen BK66001.out 1; have hfz18_2 := blk_frozen BK66001.out 2; have hfz18_3 := blk_frozen BK66001.out 3; have hfz18_4 := blk_frozen BK66001.out 4)))
          go_meet
          case rel => exact ⟨_, (decide (a0_1 ≥ (l2.length : Int))), (by first | rfl | (simp; done) | (simp [*]; done)), H', ⟨by first | omega | exact Nat.le_refl _⟩, ⟨by (with_reducible repeat (first | refine blk_drewN ?_ _ | refine blk_drew ?_ | refine blk_alloc ?_ _)); exact BK66001.out⟩, ⟨by repeat (first | (with_reducible first | exact HB.out | apply below_alloc | apply pw_below_drewN | apply below_drew1 | refine below_set ?_ GE66001.out) | exact HB.out)⟩⟩
      · replace c11 := Bool.eq_false_iff.mpr c11
        subst c11
        have H1 : (dict_right.j0 k a1 l2 true a0_0 a0_1 a0_2 a0_3 l0_4) = some r := by rw [if_neg (show ¬ (false = true) by decide)] at H; exact H
        clear H
        have H := H1
        clear H1
        have H' := Aside0.mk H
        clear H
        have hcz19_0 : w5.cell? ⟨gb66001, 0, none⟩ = some (.string a0_0) := (blk_cell BK66001.out 0).trans rfl
        have hcz19_1 : w5.cell? ⟨gb66001, 1, none⟩ = some (.int .i64 a0_1) := (blk_cell BK66001.out 1).trans rfl
        have hcz19_2 : w5.cell? ⟨gb66001, 2, none⟩ = some (.int .i64 a0_2) := (blk_cell BK66001.out 2).trans rfl
        have hcz19_3 : w5.cell? ⟨gb66001, 3, none⟩ = some (.int .u32 a0_3) := (blk_cell BK66001.out 3).trans rfl
        have hcz19_4 : w5.cell? ⟨gb66001, 4, none⟩ = some (.slice A0_4 l0_4.length c0_4) := (blk_cell BK66001.out 4).trans rfl
        have hfz19_0 := blk_frozen BK66001.out 0
        have hfz19_1 := blk_frozen BK66001.out 1
        have hfz19_2 := blk_frozen BK66001.out 2
        have hfz19_3 := blk_frozen BK66001.out 3
        have hfz19_4 := blk_frozen BK66001.out 4
        go_wp2_with (first | (go_at_call 18; (with_reducible refine (dict_Named.calls a0_0 false _ A10.out).mono ?_); rintro e w20 ⟨rfl, hb⟩; have n0_ := Aside0.mk (blk_below (g := gb66001) (o := .cells #[.string a0_0, .int .i64 a0_1, .int .i64 a0_2, .int .u32 a0_3, .slice A0_4 l0_4.length c0_4] 51 (0, 0)) (by (with_reducible repeat (first | refine blk_drewN ?_ _ | refine blk_drew ?_ | refine blk_alloc ?_ _)); exact BK66001.out) hb); have n1_ := Aside0.mk (below_step (by repeat (first | (with_reducible first | exact HB.out | apply below_alloc | apply pw_below_drewN | apply below_drew1 | refine below_set ?_ GE66001.out) | exact HB.out)) hb); clear BK66001; clear HB; have BK66001 := n0_; have HB := n1_; clear n0_ n1_; (try clear hb); (try clear hb2); (try clear hk); (try clear hi)))
        repeat (go_quiet (first | (go_at_call 18; (with_reducible refine (dict_Named.calls a0_0 false _ A10.out).mono ?_); rintro e w20 ⟨rfl, hb⟩; have n0_ := Aside0.mk (blk_below (g := gb66001) (o := .cells #[.string a0_0, .int .i64 a0_1, .int .i64 a0_2, .int .u32 a0_3, .slice A0_4 l0_4.length c0_4] 51 (0, 0)) (by (with_reducible repeat (first | refine blk_drewN ?_ _ | refine blk_drew ?_ | refine blk_alloc ?_ _)); exact BK66001.out) hb); have n1_ := Aside0.mk (below_step (by repeat (first | (with_reducible first | exact HB.out | apply below_alloc | apply pw_below_drewN | apply below_drew1 | refine below_set ?_ GE66001.out) | exact HB.out)) hb); clear BK66001; clear HB; have BK66001 := n0_; have HB := n1_; clear n0_ n1_; (try clear hb); (try clear hb2); (try clear hk); (try clear hi))); try go_wp2_with (first | (go_at_call 18; (with_reducible refine (dict_Named.calls a0_0 false _ A10.out).mono ?_); rintro e w20 ⟨rfl, hb⟩; have n0_ := Aside0.mk (blk_below (g := gb66001) (o := .cells #[.string a0_0, .int .i64 a0_1, .int .i64 a0_2, .int .u32 a0_3, .slice A0_4 l0_4.length c0_4] 51 (0, 0)) (by (with_reducible repeat (first | refine blk_drewN ?_ _ | refine blk_drew ?_ | refine blk_alloc ?_ _)); exact BK66001.out) hb); have n1_ := Aside0.mk (below_step (by repeat (first | (with_reducible first | exact HB.out | apply below_alloc | apply pw_below_drewN | apply below_drew1 | refine below_set ?_ GE66001.out) | exact HB.out)) hb); clear BK66001; clear HB; have BK66001 := n0_; have HB := n1_; clear n0_ n1_; (try clear hb); (try clear hb2); (try clear hk); (try clear hi))))
        go_meet
        case rel => exact ⟨_, (true), (by first | rfl | (simp; done) | (simp [*]; done)), H', ⟨by first | omega | exact Nat.le_refl _⟩, ⟨by (with_reducible repeat (first | refine blk_drewN ?_ _ | refine blk_drew ?_ | refine blk_alloc ?_ _)); exact BK66001.out⟩, ⟨by repeat (first | (with_reducible first | exact HB.out | apply below_alloc | apply pw_below_drewN | apply below_drew1 | refine below_set ?_ GE66001.out) | exact HB.out)⟩⟩
  case rest =>
    clear HC4
    try clear c1
    try clear c2
    try clear p2
    try clear c6
    try clear c6b0
    try clear c6b1
    try clear c7
    try clear c7b0
    try clear c11
    try clear c12
    try clear c12b0
    try clear hcz13_0
    try clear hcz13_1
    try clear hcz13_2
    try clear hcz13_3
    try clear hcz13_4
    try clear hcz15_0
    try clear hcz15_1
    try clear hcz15_2
    try clear hcz15_3
    try clear hcz15_4
    try clear hcz16_0
    try clear hcz16_1
    try clear hcz16_2
    try clear hcz16_3
    try clear hcz16_4
    try clear hcz18_0
    try clear hcz18_1
    try clear hcz18_2
    try clear hcz18_3
    try clear hcz18_4
    try clear hcz19_0
    try clear hcz19_1
    try clear hcz19_2
    try clear hcz19_3
    try clear hcz19_4
    try clear hcz8_0
    try clear hcz8_1
    try clear hcz8_2
    try clear hcz8_3
    try clear hcz8_4
    try clear hcz9_0
    try clear hcz9_1
    try clear hcz9_2
    try clear hcz9_3
    try clear hcz9_4
    try clear hfz13_0
    try clear hfz13_1
    try clear hfz13_2
    try clear hfz13_3
    try clear hfz13_4
    try clear hfz15_0
    try clear hfz15_1
    try clear hfz15_2
    try clear hfz15_3
    try clear hfz15_4
    try clear hfz16_0
    try clear hfz16_1
    try clear hfz16_2
    try clear hfz16_3
    try clear hfz16_4
    try clear hfz18_0
    try clear hfz18_1
    try clear hfz18_2
    try clear hfz18_3
    try clear hfz18_4
    try clear hfz19_0
    try clear hfz19_1
    try clear hfz19_2
    try clear hfz19_3
    try clear hfz19_4
    try clear hfz8_0
    try clear hfz8_1
    try clear hfz8_2
    try clear hfz8_3
    try clear hfz8_4
    try clear hfz9_0
    try clear hfz9_1
    try clear hfz9_2
    try clear hfz9_3
    try clear hfz9_4
    obtain ⟨kq, x28_3, rfl, HA, HJ3, BK66001, HB⟩ := hcut
    cases kq with
    | zero => exact absurd HA.out (by simp [dict_right.j0])
    | succ kj3 =>
      have H := HA.out
      clear HA
      simp only [dict_right.j0] at H
      by_cases c21 : x28_3 = true
      · subst c21
        have H1 : (some false) = some r := by rw [if_pos rfl] at H; exact H
        clear H
        have H := H1
        clear H1
        obtain rfl := Option.some.inj H
        go_wp2
        repeat (go_quiet (fail); try go_wp2)
        go_ret
        exact ⟨by first | rfl | (simp [errW_none, errW_some] <;> rfl) | (simp [*, errW_none, errW_some] <;> rfl), by repeat (first | (with_reducible first | exact HB.out | apply below_alloc | apply pw_below_drewN | apply below_drew1 | refine below_set ?_ GE66001.out) | exact HB.out)⟩
      · replace c21 := Bool.eq_false_iff.mpr c21
        subst c21
        have H1 : (if a0_2 = 2 then (if a0_3 = 0 then ((dict_Sound.f kj3 l0_4 a1).bind fun t66003 => (some t66003)) else (some false)) else (if a0_2 = 6 then (if (l0_4.length : Int) = 0 then (some (decide ((wrap64 (a0_3)) < a1))) else (some false)) else (if a0_2 = 7 then (if (l0_4.length : Int) = 0 then (if a0_1 ≥ 0 then (if 0 ≤ a0_1 then (if a0_1 < (l2.length : Int) then (some (decide ((wrap64 (a0_3)) < (((rd_T91 l2 a0_1).f4).length : Int)))) else (none)) else (none)) else (some false)) else (some false)) else (if a0_2 = 3 then (some ((l0_4.length : Int) == 0)) else (if a0_2 = 4 then (some ((l0_4.length : Int) == 0)) else (if a0_2 = 5 then (some ((l0_4.length : Int) == 0)) else (some false))))))) = some r := by rw [if_neg (show ¬ (false = true) by decide)] at H; exact H
        clear H
        have H := H1
        clear H1
        by_cases c22 : a0_2 = 2
        · rw [if_pos c22] at H
          have c22b0 : (a0_2 == 2) = true := beq_iff_eq.mpr c22
          have c22b1 : (a0_2 != 2) = false := bne_eq_false_iff_eq.mpr c22
          clear c22
          by_cases c23 : a0_3 = 0
          · rw [if_pos c23] at H
            have c23b0 : (a0_3 == 0) = true := beq_iff_eq.mpr c23
            have c23b1 : (a0_3 != 0) = false := bne_eq_false_iff_eq.mpr c23
            clear c23
            replace H := Option.bind_eq_some_iff.mp H
            obtain ⟨t66003, A240, H⟩ := H
            replace H : (some t66003) = some r := H
            have A24 := Aside0.mk A240
            clear A240
            obtain rfl := Option.some.inj H
            have hcz25_0 : wc.cell? ⟨gb66001, 0, none⟩ = some (.string a0_0) := (blk_cell BK66001.out 0).trans rfl
            have hcz25_1 : wc.cell? ⟨gb66001, 1, none⟩ = some (.int .i64 a0_1) := (blk_cell BK66001.out 1).trans rfl
            have hcz25_2 : wc.cell? ⟨gb66001, 2, none⟩ = some (.int .i64 a0_2) := (blk_cell BK66001.out 2).trans rfl
            have hcz25_3 : wc.cell? ⟨gb66001, 3, none⟩ = some (.int .u32 a0_3) := (blk_cell BK66001.out 3).trans rfl
            have hcz25_4 : wc.cell? ⟨gb66001, 4, none⟩ = some (.slice A0_4 l0_4.length c0_4) := (blk_cell BK66001.out 4).trans rfl
            have hfz25_0 := blk_frozen BK66001.out 0
            have hfz25_1 := blk_frozen BK66001.out 1
            have hfz25_2 := blk_frozen BK66001.out 2
            have hfz25_3 := blk_frozen BK66001.out 3
            have hfz25_4 := blk_frozen BK66001.out 4
            go_wp2_with (first | (go_at_call 19; (with_reducible refine (dict_Sound.calls kj3 _ _ l0_4 a1 t66003 _ ?side1 ?side2 A24.out).mono ?_); (case side1 => repeat (first | exact (Kd.C_below HR0_4.out HB.out) | (with_reducible refine Kd.C_alloc ?_ _) | (with_reducible refine Kd.C_drewN ?_ _) | (with_reducible refine Kd.C_drew ?_))); (case side2 => exact HC0_4.out); rintro e w26 ⟨rfl, hb⟩; have n0_ := Aside0.mk (blk_below (g := gb66001) (o := .cells #[.string a0_0, .int .i64 a0_1, .int .i64 a0_2, .int .u32 a0_3, .slice A0_4 l0_4.length c0_4] 51 (0, 0)) (by (with_reducible repeat (first | refine blk_drewN ?_ _ | refine blk_drew ?_ | refine blk_alloc ?_ _)); exact BK66001.out) hb); have n1_ := Aside0.mk (below_step (by repeat (first | (with_reducible first | exact HB.out | apply below_alloc | apply pw_below_drewN | apply below_drew1 | refine below_set ?_ GE66001.out) | exact HB.out)) hb); clear BK66001; clear HB; have BK66001 := n0_; have HB := n1_; clear n0_ n1_; (try clear hb); (try clear hb2); (try clear hk); (try clear hi)))
            repeat (go_quiet (first | (go_at_call 19; (with_reducible refine (dict_Sound.calls kj3 _ _ l0_4 a1 t66003 _ ?side1 ?side2 A24.out).mono ?_); (case side1 => repeat (first | exact (Kd.C_below HR0_4.out HB.out) | (with_reducible refine Kd.C_alloc ?_ _) | (with_reducible refine Kd.C_drewN ?_ _) | (with_reducible refine Kd.C_drew ?_))); (case side2 => exact HC0_4.out); rintro e w26 ⟨rfl, hb⟩; have n0_ := Aside0.mk (blk_below (g := gb66001) (o := .cells #[.string a0_0, .int .i64 a0_1, .int .i64 a0_2, .int .u32 a0_3, .slice A0_4 l0_4.length c0_4] 51 (0, 0)) (by (with_reducible repeat (first | refine blk_drewN ?_ _ | refine blk_drew ?_ | refine blk_alloc ?_ _)); exact BK66001.out) hb); have n1_ := Aside0.mk (below_step (by repeat (first | (with_reducible first | exact HB.out | apply below_alloc | apply pw_below_drewN | apply below_drew1 | refine below_set ?_ GE66001.out) | exact HB.out)) hb); clear BK66001; clear HB; have BK66001 := n0_; have HB := n1_; clear n0_ n1_; (try clear hb); (try clear hb2); (try clear hk); (try clear hi))); try go_wp2_with (first | (go_at_call 19; (with_reducible refine (dict_Sound.calls kj3 _ _ l0_4 a1 t66003 _ ?side1 ?side2 A24.out).mono ?_); (case side1 => repeat (first | exact (Kd.C_below HR0_4.out HB.out) | (with_reducible refine Kd.C_alloc ?_ _) | (with_reducible refine Kd.C_drewN ?_ _) | (with_reducible refine Kd.C_drew ?_))); (case side2 => exact HC0_4.out); rintro e w26 ⟨rfl, hb⟩; have n0_ := Aside0.mk (blk_below (g := gb66001) (o := .cells #[.string a0_0, .int .i64 a0_1, .int .i64 a0_2, .int .u32 a0_3, .slice A0_4 l0_4.length c0_4] 51 (0, 0)) (by (with_reducible repeat (first | refine blk_drewN ?_ _ | refine blk_drew ?_ | refine blk_alloc ?_ _)); exact BK66001.out) hb); have n1_ := Aside0.mk (below_step (by repeat (first | (with_reducible first | exact HB.out | apply below_alloc | apply pw_below_drewN | apply below_drew1 | refine below_set ?_ GE66001.out) | exact HB.out)) hb); clear BK66001; clear HB; have BK66001 := n0_; have HB := n1_; clear n0_ n1_; (try clear hb); (try clear hb2); (try clear hk); (try clear hi))))
            go_ret
            exact ⟨by first | rfl | (simp [errW_none, errW_some] <;> rfl) | (simp [*, errW_none, errW_some] <;> rfl), by repeat (first | (with_reducible first | exact HB.out | apply below_alloc | apply pw_below_drewN | apply below_drew1 | refine below_set ?_ GE66001.out) | exact HB.out)⟩
          · rw [if_neg c23] at H
            have c23b0 : (a0_3 == 0) = false := beq_eq_false_iff_ne.mpr c23
            have c23b1 : (a0_3 != 0) = true := bne_iff_ne.mpr c23
            obtain rfl := Option.some.inj H
            have hcz27_0 : wc.cell? ⟨gb66001, 0, none⟩ = some (.string a0_0) := (blk_cell BK66001.out 0).trans rfl
            have hcz27_1 : wc.cell? ⟨gb66001, 1, none⟩ = some (.int .i64 a0_1) := (blk_cell BK66001.out 1).trans rfl
            have hcz27_2 : wc.cell? ⟨gb66001, 2, none⟩ = some (.int .i64 a0_2) := (blk_cell BK66001.out 2).trans rfl
            have hcz27_3 : wc.cell? ⟨gb66001, 3, none⟩ = some (.int .u32 a0_3) := (blk_cell BK66001.out 3).trans rfl
            have hcz27_4 : wc.cell? ⟨gb66001, 4, none⟩ = some (.slice A0_4 l0_4.length c0_4) := (blk_cell BK66001.out 4).trans rfl
            have hfz27_0 := blk_frozen BK66001.out 0
            have hfz27_1 := blk_frozen BK66001.out 1
            have hfz27_2 := blk_frozen BK66001.out 2
            have hfz27_3 := blk_frozen BK66001.out 3
            have hfz27_4 := blk_frozen BK66001.out 4
            go_wp2
            repeat (go_quiet (fail); try go_wp2)
            go_ret
            exact ⟨by first | rfl | (simp [errW_none, errW_some] <;> rfl) | (simp [*, errW_none, errW_some] <;> rfl), by repeat (first | (with_reducible first | exact HB.out | apply below_alloc | apply pw_below_drewN | apply below_drew1 | refine below_set ?_ GE66001.out) | exact HB.out)⟩
        · rw [if_neg c22] at H
          have c22b0 : (a0_2 == 2) = false := beq_eq_false_iff_ne.mpr c22
          have c22b1 : (a0_2 != 2) = true := bne_iff_ne.mpr c22
          by_cases c28 : a0_2 = 6
          · rw [if_pos c28] at H
            have c28b0 : (a0_2 == 6) = true := beq_iff_eq.mpr c28
            have c28b1 : (a0_2 != 6) = false := bne_eq_false_iff_eq.mpr c28
            clear c28
            by_cases c29 : (l0_4.length : Int) = 0
            · rw [if_pos c29] at H
              have c29b0 : ((l0_4.length : Int) == 0) = true := beq_iff_eq.mpr c29
              have c29b1 : ((l0_4.length : Int) != 0) = false := bne_eq_false_iff_eq.mpr c29
              clear c29
              obtain rfl := Option.some.inj H
              have hcz30_0 : wc.cell? ⟨gb66001, 0, none⟩ = some (.string a0_0) := (blk_cell BK66001.out 0).trans rfl
              have hcz30_1 : wc.cell? ⟨gb66001, 1, none⟩ = some (.int .i64 a0_1) := (blk_cell BK66001.out 1).trans rfl
              have hcz30_2 : wc.cell? ⟨gb66001, 2, none⟩ = some (.int .i64 a0_2) := (blk_cell BK66001.out 2).trans rfl
              have hcz30_3 : wc.cell? ⟨gb66001, 3, none⟩ = some (.int .u32 a0_3) := (blk_cell BK66001.out 3).trans rfl
              have hcz30_4 : wc.cell? ⟨gb66001, 4, none⟩ = some (.slice A0_4 l0_4.length c0_4) := (blk_cell BK66001.out 4).trans rfl
              have hfz30_0 := blk_frozen BK66001.out 0
              have hfz30_1 := blk_frozen BK66001.out 1
              have hfz30_2 := blk_frozen BK66001.out 2
              have hfz30_3 := blk_frozen BK66001.out 3
              have hfz30_4 := blk_frozen BK66001.out 4
              go_wp2
              repeat (go_quiet (fail); try go_wp2)
              go_ret
              exact ⟨by first | rfl | (simp [errW_none, errW_some] <;> rfl) | (simp [*, errW_none, errW_some] <;> rfl), by repeat (first | (with_reducible first | exact HB.out | apply below_alloc | apply pw_below_drewN | apply below_drew1 | refine below_set ?_ GE66001.out) | exact HB.out)⟩
            · rw [if_neg c29] at H
              have c29b0 : ((l0_4.length : Int) == 0) = false := beq_eq_false_iff_ne.mpr c29
              have c29b1 : ((l0_4.length : Int) != 0) = true := bne_iff_ne.mpr c29
              have c29b2 : ¬ (l0_4 = []) := fun h_ => c29 (by rw [h_]; rfl)
              obtain rfl := Option.some.inj H
              have hcz31_0 : wc.cell? ⟨gb66001, 0, none⟩ = some (.string a0_0) := (blk_cell BK66001.out 0).trans rfl
              have hcz31_1 : wc.cell? ⟨gb66001, 1, none⟩ = some (.int .i64 a0_1) := (blk_cell BK66001.out 1).trans rfl
              have hcz31_2 : wc.cell? ⟨gb66001, 2, none⟩ = some (.int .i64 a0_2) := (blk_cell BK66001.out 2).trans rfl
              have hcz31_3 : wc.cell? ⟨gb66001, 3, none⟩ = some (.int .u32 a0_3) := (blk_cell BK66001.out 3).trans rfl
              have hcz31_4 : wc.cell? ⟨gb66001, 4, none⟩ = some (.slice A0_4 l0_4.length c0_4) := (blk_cell BK66001.out 4).trans rfl
              have hfz31_0 := blk_frozen BK66001.out 0
              have hfz31_1 := blk_frozen BK66001.out 1
              have hfz31_2 := blk_frozen BK66001.out 2
              have hfz31_3 := blk_frozen BK66001.out 3
              have hfz31_4 := blk_frozen BK66001.out 4
              go_wp2
              repeat (go_quiet (fail); try go_wp2)
              go_ret
              exact ⟨by first | rfl | (simp [errW_none, errW_some] <;> rfl) | (simp [*, errW_none, errW_some] <;> rfl), by repeat (first | (with_reducible first | exact HB.out | apply below_alloc | apply pw_below_drewN | apply below_drew1 | refine below_set ?_ GE66001.out) | exact HB.out)⟩
          · rw [if_neg c28] at H
            have c28b0 : (a0_2 == 6) = false := beq_eq_false_iff_ne.mpr c28
            have c28b1 : (a0_2 != 6) = true := bne_iff_ne.mpr c28
            by_cases c32 : a0_2 = 7
            · rw [if_pos c32] at H
              have c32b0 : (a0_2 == 7) = true := beq_iff_eq.mpr c32
              have c32b1 : (a0_2 != 7) = false := bne_eq_false_iff_eq.mpr c32
              clear c32
              by_cases c33 : (l0_4.length : Int) = 0
              · rw [if_pos c33] at H
                have c33b0 : ((l0_4.length : Int) == 0) = true := beq_iff_eq.mpr c33
                have c33b1 : ((l0_4.length : Int) != 0) = false := bne_eq_false_iff_eq.mpr c33
                clear c33
                by_cases c34 : a0_1 ≥ 0
                · rw [if_pos c34] at H
                  have c34b0 : decide (0 ≤ a0_1) = true := decide_eq_true c34
                  clear c34
                  by_cases c35 : 0 ≤ a0_1
                  · rw [if_pos c35] at H
                    have c35b0 : decide (0 ≤ a0_1) = true := decide_eq_true c35
                    clear c35
                    by_cases c36 : a0_1 < (l2.length : Int)
                    · rw [if_pos c36] at H
                      have c36b0 : decide (a0_1 < (l2.length : Int)) = true := decide_eq_true c36
                      clear c36
                      obtain rfl := Option.some.inj H
                      have hcz37_0 : wc.cell? ⟨gb66001, 0, none⟩ = some (.string a0_0) := (blk_cell BK66001.out 0).trans rfl
                      have hcz37_1 : wc.cell? ⟨gb66001, 1, none⟩ = some (.int .i64 a0_1) := (blk_cell BK66001.out 1).trans rfl
                      have hcz37_2 : wc.cell? ⟨gb66001, 2, none⟩ = some (.int .i64 a0_2) := (blk_cell BK66001.out 2).trans rfl
                      have hcz37_3 : wc.cell? ⟨gb66001, 3, none⟩ = some (.int .u32 a0_3) := (blk_cell BK66001.out 3).trans rfl
                      have hcz37_4 : wc.cell? ⟨gb66001, 4, none⟩ = some (.slice A0_4 l0_4.length c0_4) := (blk_cell BK66001.out 4).trans rfl
                      have hfz37_0 := blk_frozen BK66001.out 0
                      have hfz37_1 := blk_frozen BK66001.out 1
                      have hfz37_2 := blk_frozen BK66001.out 2
                      have hfz37_3 := blk_frozen BK66001.out 3
                      have hfz37_4 := blk_frozen BK66001.out 4
                      have p66004 : 0 ≤ (a0_1 : Int) := of_decide_eq_true (by first | (with_reducible assumption) | assumption)
                      have q66004 : a0_1 < (l2.length : Int) := of_decide_eq_true (by first | (with_reducible assumption) | assumption)
                      obtain ⟨ad66004, A66004_1, c66004_1, A66004_3, c66004_3, A66004_4, c66004_4, e66004, hx66004_0, hx66004_1, hx66004_2, hx66004_3, hx66004_4, hl66004_1, hi66004_1, hl66004_3, hi66004_3, hl66004_4, hi66004_4⟩ := at_T91 HR2.out a0_1 p66004 q66004
                      cases e66004
                      replace hx66004_0 := (HB.out.cell (World.block_lt_of_cell? w _ hx66004_0)).trans hx66004_0
                      replace hx66004_1 := (HB.out.cell (World.block_lt_of_cell? w _ hx66004_1)).trans hx66004_1
                      replace hx66004_2 := (HB.out.cell (World.block_lt_of_cell? w _ hx66004_2)).trans hx66004_2
                      replace hx66004_3 := (HB.out.cell (World.block_lt_of_cell? w _ hx66004_3)).trans hx66004_3
                      replace hx66004_4 := (HB.out.cell (World.block_lt_of_cell? w _ hx66004_4)).trans hx66004_4
                      have HR66004_1 := Aside0.mk hi66004_1
                      have HC66004_1 := Aside0.mk hl66004_1
                      clear hi66004_1 hl66004_1
                      have HR66004_3 := Aside0.mk hi66004_3
                      have HC66004_3 := Aside0.mk hl66004_3
                      clear hi66004_3 hl66004_3
                      have HR66004_4 := Aside0.mk hi66004_4
                      have HC66004_4 := Aside0.mk hl66004_4
                      clear hi66004_4 hl66004_4
                      replace p66004 := eq_true p66004
                      replace q66004 := eq_true q66004
                      go_wp2
                      repeat (go_quiet (fail); try go_wp2)
                      go_ret
                      exact ⟨by first | rfl | (simp [errW_none, errW_some] <;> rfl) | (simp [*, errW_none, errW_some] <;> rfl), by repeat (first | (with_reducible first | exact HB.out | apply below_alloc | apply pw_below_drewN | apply below_drew1 | refine below_set ?_ GE66001.out) | exact HB.out)⟩
                    · rw [if_neg c36] at H
                      exact absurd H (by simp)
                  · rw [if_neg c35] at H
                    exact absurd H (by simp)
                · rw [if_neg c34] at H
                  have c34b0 : decide (0 ≤ a0_1) = false := decide_eq_false c34
                  clear c34
                  obtain rfl := Option.some.inj H
                  have hcz38_0 : wc.cell? ⟨gb66001, 0, none⟩ = some (.string a0_0) := (blk_cell BK66001.out 0).trans rfl
                  have hcz38_1 : wc.cell? ⟨gb66001, 1, none⟩ = some (.int .i64 a0_1) := (blk_cell BK66001.out 1).trans rfl
                  have hcz38_2 : wc.cell? ⟨gb66001, 2, none⟩ = some (.int .i64 a0_2) := (blk_cell BK66001.out 2).trans rfl
                  have hcz38_3 : wc.cell? ⟨gb66001, 3, none⟩ = some (.int .u32 a0_3) := (blk_cell BK66001.out 3).trans rfl
                  have hcz38_4 : wc.cell? ⟨gb66001, 4, none⟩ = some (.slice A0_4 l0_4.length c0_4) := (blk_cell BK66001.out 4).trans rfl
                  have hfz38_0 := blk_frozen BK66001.out 0
                  have hfz38_1 := blk_frozen BK66001.out 1
                  have hfz38_2 := blk_frozen BK66001.out 2
                  have hfz38_3 := blk_frozen BK66001.out 3
                  have hfz38_4 := blk_frozen BK66001.out 4
                  go_wp2
                  repeat (go_quiet (fail); try go_wp2)
                  go_ret
                  exact ⟨by first | rfl | (simp [errW_none, errW_some] <;> rfl) | (simp [*, errW_none, errW_some] <;> rfl), by repeat (first | (with_reducible first | exact HB.out | apply below_alloc | apply pw_below_drewN | apply below_drew1 | refine below_set ?_ GE66001.out) | exact HB.out)⟩
              · rw [if_neg c33] at H
                have c33b0 : ((l0_4.length : Int) == 0) = false := beq_eq_false_iff_ne.mpr c33
                have c33b1 : ((l0_4.length : Int) != 0) = true := bne_iff_ne.mpr c33
                have c33b2 : ¬ (l0_4 = []) := fun h_ => c33 (by rw [h_]; rfl)
                obtain rfl := Option.some.inj H
                have hcz39_0 : wc.cell? ⟨gb66001, 0, none⟩ = some (.string a0_0) := (blk_cell BK66001.out 0).trans rfl
                have hcz39_1 : wc.cell? ⟨gb66001, 1, none⟩ = some (.int .i64 a0_1) := (blk_cell BK66001.out 1).trans rfl
                have hcz39_2 : wc.cell? ⟨gb66001, 2, none⟩ = some (.int .i64 a0_2) := (blk_cell BK66001.out 2).trans rfl
                have hcz39_3 : wc.cell? ⟨gb66001, 3, none⟩ = some (.int .u32 a0_3) := (blk_cell BK66001.out 3).trans rfl
                have hcz39_4 : wc.cell? ⟨gb66001, 4, none⟩ = some (.slice A0_4 l0_4.length c0_4) := (blk_cell BK66001.out 4).trans rfl
                have hfz39_0 := blk_frozen BK66001.out 0
                have hfz39_1 := blk_frozen BK66001.out 1
                have hfz39_2 := blk_frozen BK66001.out 2
                have hfz39_3 := blk_frozen BK66001.out 3
                have hfz39_4 := blk_frozen BK66001.out 4
                go_wp2
                repeat (go_quiet (fail); try go_wp2)
                go_ret
                exact ⟨by first | rfl | (simp [errW_none, errW_some] <;> rfl) | (simp [*, errW_none, errW_some] <;> rfl), by repeat (first | (with_reducible first | exact HB.out | apply below_alloc | apply pw_below_drewN | apply below_drew1 | refine below_set ?_ GE66001.out) | exact HB.out)⟩
            · rw [if_neg c32] at H
              have c32b0 : (a0_2 == 7) = false := beq_eq_false_iff_ne.mpr c32
              have c32b1 : (a0_2 != 7) = true := bne_iff_ne.mpr c32
              by_cases c40 : a0_2 = 3
              · rw [if_pos c40] at H
                have c40b0 : (a0_2 == 3) = true := beq_iff_eq.mpr c40
                have c40b1 : (a0_2 != 3) = false := bne_eq_false_iff_eq.mpr c40
                clear c40
                obtain rfl := Option.some.inj H
                have hcz41_0 : wc.cell? ⟨gb66001, 0, none⟩ = some (.string a0_0) := (blk_cell BK66001.out 0).trans rfl
                have hcz41_1 : wc.cell? ⟨gb66001, 1, none⟩ = some (.int .i64 a0_1) := (blk_cell BK66001.out 1).trans rfl
                have hcz41_2 : wc.cell? ⟨gb66001, 2, none⟩ = some (.int .i64 a0_2) := (blk_cell BK66001.out 2).trans rfl
                have hcz41_3 : wc.cell? ⟨gb66001, 3, none⟩ = some (.int .u32 a0_3) := (blk_cell BK66001.out 3).trans rfl
                have hcz41_4 : wc.cell? ⟨gb66001, 4, none⟩ = some (.slice A0_4 l0_4.length c0_4) := (blk_cell BK66001.out 4).trans rfl
                have hfz41_0 := blk_frozen BK66001.out 0
                have hfz41_1 := blk_frozen BK66001.out 1
                have hfz41_2 := blk_frozen BK66001.out 2
                have hfz41_3 := blk_frozen BK66001.out 3
                have hfz41_4 := blk_frozen BK66001.out 4
                go_wp2
                repeat (go_quiet (fail); try go_wp2)
                go_ret
                exact ⟨by first | rfl | (simp [errW_none, errW_some] <;> rfl) | (simp [*, errW_none, errW_some] <;> rfl), by repeat (first | (with_reducible first | exact HB.out | apply below_alloc | apply pw_below_drewN | apply below_drew1 | refine below_set ?_ GE66001.out) | exact HB.out)⟩
              · rw [if_neg c40] at H
                have c40b0 : (a0_2 == 3) = false := beq_eq_false_iff_ne.mpr c40
                have c40b1 : (a0_2 != 3) = true := bne_iff_ne.mpr c40
                by_cases c42 : a0_2 = 4
                · rw [if_pos c42] at H
                  have c42b0 : (a0_2 == 4) = true := beq_iff_eq.mpr c42
                  have c42b1 : (a0_2 != 4) = false := bne_eq_false_iff_eq.mpr c42
                  clear c42
                  obtain rfl := Option.some.inj H
                  have hcz43_0 : wc.cell? ⟨gb66001, 0, none⟩ = some (.string a0_0) := (blk_cell BK66001.out 0).trans rfl
                  have hcz43_1 : wc.cell? ⟨gb66001, 1, none⟩ = some (.int .i64 a0_1) := (blk_cell BK66001.out 1).trans rfl
                  have hcz43_2 : wc.cell? ⟨gb66001, 2, none⟩ = some (.int .i64 a0_2) := (blk_cell BK66001.out 2).trans rfl
                  have hcz43_3 : wc.cell? ⟨gb66001, 3, none⟩ = some (.int .u32 a0_3) := (blk_cell BK66001.out 3).trans rfl
                  have hcz43_4 : wc.cell? ⟨gb66001, 4, none⟩ = some (.slice A0_4 l0_4.length c0_4) := (blk_cell BK66001.out 4).trans rfl
                  have hfz43_0 := blk_frozen BK66001.out 0
                  have hfz43_1 := blk_frozen BK66001.out 1
                  have hfz43_2 := blk_frozen BK66001.out 2
                  have hfz43_3 := blk_frozen BK66001.out 3
                  have hfz43_4 := blk_frozen BK66001.out 4
                  go_wp2
                  repeat (go_quiet (fail); try go_wp2)
                  go_ret
                  exact ⟨by first | rfl | (simp [errW_none, errW_some] <;> rfl) | (simp [*, errW_none, errW_some] <;> rfl), by repeat (first | (with_reducible first | exact HB.out | apply below_alloc | apply pw_below_drewN | apply below_drew1 | refine below_set ?_ GE66001.out) | exact HB.out)⟩
                · rw [if_neg c42] at H
                  have c42b0 : (a0_2 == 4) = false := beq_eq_false_iff_ne.mpr c42
                  have c42b1 : (a0_2 != 4) = true := bne_iff_ne.mpr c42
                  by_cases c44 : a0_2 = 5
                  · rw [if_pos c44] at H
                    have c44b0 : (a0_2 == 5) = true := beq_iff_eq.mpr c44
                    have c44b1 : (a0_2 != 5) = false := bne_eq_false_iff_eq.mpr c44
                    clear c44
                    obtain rfl := Option.some.inj H
                    have hcz45_0 : wc.cell? ⟨gb66001, 0, none⟩ = some (.string a0_0) := (blk_cell BK66001.out 0).trans rfl
                    have hcz45_1 : wc.cell? ⟨gb66001, 1, none⟩ = some (.int .i64 a0_1) := (blk_cell BK66001.out 1).trans rfl
                    have hcz45_2 : wc.cell? ⟨gb66001, 2, none⟩ = some (.int .i64 a0_2) := (blk_cell BK66001.out 2).trans rfl
                    have hcz45_3 : wc.cell? ⟨gb66001, 3, none⟩ = some (.int .u32 a0_3) := (blk_cell BK66001.out 3).trans rfl
                    have hcz45_4 : wc.cell? ⟨gb66001, 4, none⟩ = some (.slice A0_4 l0_4.length c0_4) := (blk_cell BK66001.out 4).trans rfl
                    have hfz45_0 := blk_frozen BK66001.out 0
                    have hfz45_1 := blk_frozen BK66001.out 1
                    have hfz45_2 := blk_frozen BK66001.out 2
                    have hfz45_3 := blk_frozen BK66001.out 3
                    have hfz45_4 := blk_frozen BK66001.out 4
                    go_wp2
                    repeat (go_quiet (fail); try go_wp2)
                    go_ret
                    exact ⟨by first | rfl | (simp [errW_none, errW_some] <;> rfl) | (simp [*, errW_none, errW_some] <;> rfl), by repeat (first | (with_reducible first | exact HB.out | apply below_alloc | apply pw_below_drewN | apply below_drew1 | refine below_set ?_ GE66001.out) | exact HB.out)⟩
                  · rw [if_neg c44] at H
                    have c44b0 : (a0_2 == 5) = false := beq_eq_false_iff_ne.mpr c44
                    have c44b1 : (a0_2 != 5) = true := bne_iff_ne.mpr c44
                    obtain rfl := Option.some.inj H
                    have hcz46_0 : wc.cell? ⟨gb66001, 0, none⟩ = some (.string a0_0) := (blk_cell BK66001.out 0).trans rfl
                    have hcz46_1 : wc.cell? ⟨gb66001, 1, none⟩ = some (.int .i64 a0_1) := (blk_cell BK66001.out 1).trans rfl
                    have hcz46_2 : wc.cell? ⟨gb66001, 2, none⟩ = some (.int .i64 a0_2) := (blk_cell BK66001.out 2).trans rfl
                    have hcz46_3 : wc.cell? ⟨gb66001, 3, none⟩ = some (.int .u32 a0_3) := (blk_cell BK66001.out 3).trans rfl
                    have hcz46_4 : wc.cell? ⟨gb66001, 4, none⟩ = some (.slice A0_4 l0_4.length c0_4) := (blk_cell BK66001.out 4).trans rfl
                    have hfz46_0 := blk_frozen BK66001.out 0
                    have hfz46_1 := blk_frozen BK66001.out 1
                    have hfz46_2 := blk_frozen BK66001.out 2
                    have hfz46_3 := blk_frozen BK66001.out 3
                    have hfz46_4 := blk_frozen BK66001.out 4
                    go_wp2
                    repeat (go_quiet (fail); try go_wp2)
                    go_ret
                    exact ⟨by first | rfl | (simp [errW_none, errW_some] <;> rfl) | (simp [*, errW_none, errW_some] <;> rfl), by repeat (first | (with_reducible first | exact HB.out | apply below_alloc | apply pw_below_drewN | apply below_drew1 | refine below_set ?_ GE66001.out) | exact HB.out)⟩

end Go.Proofs.Ytfpkakedlapmkaa.Q
end
section
namespace Go.Proofs.Ytfpkakedlapmkaa.Q
open Go.RowKit Go.Shelf
/-- How a round may be left. -/
def RoundPost (Kp : World → World → Prop) (I : Nat → World → Prop) (Ix : Code → Nat → World → Prop) (k : Nat) (W : World) : Exit → Act → World → Prop
  | .normal, _, W' => KeepsOthers W W' ∧ Kp W W' ∧ I k W'
  | .ret, _, W' => KeepsOthers W W' ∧ Ix .ret k W'
  | .exit id, _, W' => KeepsOthers W W' ∧ Ix (.exit id) k W'
  | _, _, _ => False
/-- The iterator hands on the list L, one by one; between two rounds it goes by Ab; a round that goes on keeps Kp. -/
def SeqL (n : Nat) (P : Program) (gf : Nat) (lb : Array Value) (Ab Kp : World → World → Prop) (L : List (Array Value)) (w : World) : Prop :=
  ∀ (l : Nat) (J Jx : Nat → World → Prop) (W : World), Below w.heap.size w W → W.heap.size = w.heap.size + 2 → (∀ k A B, J k A → Ab A B → J k B) → (∀ k A B, Jx k A → Ab A B → Jx k B) →
    (∀ (k : Nat) (hk : k < L.length) (A : World), J k A → YieldAt Fence.wide (n - 1) P l L[k] A fun e B => (e = .returned (.bool true) ∧ J (k + 1) B ∧ Kp A B) ∨ (e = .returned (.bool false) ∧ Jx (k + 1) B)) →
    J 0 W → CallsIn Fence.wide n P gf (#[.func (.yield l) #[] #[]] ++ lb) W fun e B => (∃ v, e = .returned v) ∧ (J L.length B ∨ ∃ k, k ≤ L.length ∧ Jx k B)
section
variable {n : Nat} {P : Program}
theorem wp_rangeL {g : Operand} {ps : Array Tmp} {assign body : Code} {Q : Exit → Act → World → Prop} {a : Act} {w : World} (h1 : 1 ≤ n) {gf : Nat} {lb : Array Value} (hg : a.eval g = .func (.func gf) #[] lb) (eg : ∀ args w, (callFunc gf args).run P w = .ok (.enter gf args) w)
    {Ab Kp : World → World → Prop} {L : List (Array Value)} (hseq : SeqL (n - 1) P gf lb Ab Kp L w) (hAb : ∀ {A B : World} {i : Nat} {o : Obj}, Ab A B → A.heap[i]? = some o → o.isCells = false → B.heap[i]? = some o)
    (hKt : ∀ {A B C : World}, Kp A B → Kp B C → Kp A C) (hKb : ∀ (W : World) (l : Nat) (o o' : Obj), w.heap.size ≤ l → W.heap[l]? = some o → o.isCells = false → o.isWalk = false → Kp W (W.putObj l o')) (hps : ∀ x ∈ L, x.size = ps.size)
    (I : Nat → World → Prop) (Ix : Code → Nat → World → Prop) (hI : OwnFrom w.heap.size I) (hIx : ∀ c, OwnFrom w.heap.size (Ix c)) (hIA : ∀ k A B, I k A → Ab A B → I k B) (hXA : ∀ c k A B, Ix c k A → Ab A B → Ix c k B) (h0 : I 0 w) (Ax : Nat → Act → World → Prop) (hAx : ∀ (k : Nat) (a' : Act) (W : World) (l : Nat) (o o' : Obj), w.heap.size ≤ l → W.heap[l]? = some o → o.isCells = false → Ax k a' W → Ax k a' (W.putObj l o'))
    (hassign : ∀ (l k : Nat) (hk : k < L.length) (W : World) (K : Act → World → Prop), I k W → (∀ a' W', Ax k a' W' → KeepsOthers W W' → Kp W W' → I k W' → K a' W') →
      assign.wpIn (Fence.wide.inRound l) (n - 1 - 1) P (Exit.then K (fun _ _ _ => False)) { tmps := (ps.zip L[k]).foldl (fun t (p, v) => t.setIfInBounds p v) a.tmps, defers := [] } W)
    (hbody : ∀ (l k : Nat) (a' : Act) (W : World), k < L.length → Ax k a' W → I k W → body.wpIn (Fence.wide.inRound l) (n - 1 - 1) P (RoundPost Kp I Ix (k + 1) W) a' W)
    (hdone : ∀ (D : Nat) (W : World), w.heap.size ≤ D → I L.length W → W.heap[D]? = some (.deferred (some [])) → Q .normal { a with defers := { target := .collected D, args := #[] } :: a.defers } W)
    (hstop : ∀ (D : Nat) (c : Code) (k : Nat) (W : World), w.heap.size ≤ D → k ≤ L.length → Ix c k W → W.heap[D]? = some (.deferred (some [])) → c.wpIn Fence.wide n P Q { a with defers := { target := .collected D, args := #[] } :: a.defers } W) :
    (Code.rangeFunc g ps assign body).wpIn Fence.wide n P Q a w := by
  refine wpIn_rangeFunc ?_
  intro fn hfn
  obtain ⟨R, hR⟩ : ∃ R : LoopState → Option Code → Loop, R = fun st pe => { state := st, pending := pe, fn, tmps := a.tmps, params := ps, assign, body, defers := w.heap.size } := ⟨_, rfl⟩
  obtain ⟨V, hV⟩ : ∃ V, V = (w.alloc (.deferred (some []))).alloc (.loop (R .ready none)) := ⟨_, rfl⟩
  have sL : V.heap[w.heap.size + 1]? = some (.loop (R .ready none)) := by
    have := World.alloc_heap_new (w.alloc (.deferred (some []))) (.loop (R .ready none))
    rw [World.size_alloc] at this
    rw [hV]; exact this
  have sD : V.heap[w.heap.size]? = some (.deferred (some [])) := by rw [hV]; exact (Below.heap_alloc _ _ _ (by simp)).trans (World.alloc_heap_new w _)
  have sI : I 0 V := by rw [hV]; exact hI.alloc _ (hI.alloc _ h0)
  have sB : Below w.heap.size w V := by rw [hV]; exact ((Below.refl _ w).alloc (Nat.le_refl _) _).alloc (by simp) _
  refine ⟨w.heap.size + 1, [{ target := .collected w.heap.size, args := #[] }], V, { target := .fn (.func gf) lb, args := #[.func (.yield (w.heap.size + 1)) #[] #[]] }, V, gf, #[.func (.yield (w.heap.size + 1)) #[] #[]] ++ lb, V, ?_, ?_, ?_, ?_, fun _ => h1, ?_⟩
  · rw [hV, hR]; exact run_enterLoop_outer _ _ _ _ _
  · simp only [resolve, hg]
    simp [go_sem]
  · intro f' hf'; simp [Target.leads] at hf'; subst hf'; trivial
  · simp [invoke, go_sem, eg]
  · refine (hseq (w.heap.size + 1) (fun k W => I k W ∧ W.heap[w.heap.size + 1]? = some (.loop (R .ready none)) ∧ W.heap[w.heap.size]? = some (.deferred (some [])))
      (fun k W => ∃ c, Ix c k W ∧ W.heap[w.heap.size + 1]? = some (.loop (R .done (some c))) ∧ W.heap[w.heap.size]? = some (.deferred (some []))) V sB (by rw [hV, World.size_alloc, World.size_alloc])
      (fun k A B h hab => ⟨hIA k A B h.1 hab, hAb hab h.2.1 rfl, hAb hab h.2.2 rfl⟩) (fun k A B h hab => by obtain ⟨c, h1, h2, h3⟩ := h; exact ⟨c, hXA c k A B h1 hab, hAb hab h2 rfl, hAb hab h3 rfl⟩) ?_ ⟨sI, sL, sD⟩).mono ?_
    · rintro k hk W ⟨hi, hl, hd⟩
      have hlt : w.heap.size + 1 < W.heap.size := (Array.getElem?_eq_some_iff.1 hl).1
      have hy := run_yield (P := P) (args := L[k]) hl (by rw [hR]; exact hps _ (List.getElem_mem hk))
      rw [hR] at hy
      refine ⟨fn, _, assign, body, hy, roundIn_of_wpIn hfn (hassign _ k hk W _ hi (fun a' W' hax hko hkp hi' => ?_))⟩
      have hl' := hko.same _ _ hl rfl
      have hd' := hko.same _ _ hd rfl
      have hlt : w.heap.size + 1 < W'.heap.size := (Array.getElem?_eq_some_iff.1 hl').1
      refine ⟨_, run_beginRound hl' (by rw [hR]), ?_⟩
      obtain ⟨U, hU⟩ : ∃ U, U = W'.putObj (w.heap.size + 1) (.loop { R .ready none with state := .busy }) := ⟨_, rfl⟩
      have uL : U.heap[w.heap.size + 1]? = some (.loop { R .ready none with state := .busy }) := by rw [hU]; exact World.putObj_heap_same hlt
      have uD : U.heap[w.heap.size]? = some (.deferred (some [])) := by rw [hU]; exact (World.putObj_heap_other (by omega)).trans hd'
      have uK : Kp W U := hKt hkp (by rw [hU]; exact hKb _ _ _ _ (by omega) hl' rfl rfl)
      have uI : I k U := by rw [hU]; exact hI.putObj _ hi' (by omega) hl' rfl
      have uX : Ax k a' U := by rw [hU]; exact hAx _ _ _ _ _ _ (by omega) hl' rfl hax
      rw [← hU]
      refine wpIn_mono (hbody _ k a' U hk uX uI) ?_
      have last : ∀ (jump : Option Code) (X : World), KeepsOthers U X → X.heap[w.heap.size + 1]? = some (.loop { R .ready none with state := .busy }) ∧ ∃ Y, Y = X.putObj (w.heap.size + 1) (.loop (R (if jump.isNone then .ready else .done) jump)) ∧ (Instr.endRound (w.heap.size + 1) jump).run P X = .ok (.bool jump.isNone) Y ∧
          Y.heap[w.heap.size + 1]? = some (.loop (R (if jump.isNone then .ready else .done) jump)) ∧ Y.heap[w.heap.size]? = some (.deferred (some [])) := fun jump X hx => by
        have xL := hx.same _ _ uL rfl
        have hr := run_endRound (P := P) jump xL
        refine ⟨xL, _, rfl, ?_, World.putObj_heap_same (Array.getElem?_eq_some_iff.1 xL).1, (World.putObj_heap_other (by omega)).trans (hx.same _ _ uD rfl)⟩
        rw [hR] at hr ⊢
        exact hr
      rintro e a3 X hp
      cases e with
      | normal =>
        obtain ⟨x1, x2, x3⟩ := hp
        obtain ⟨xL, Y, hY, hr, yL, yD⟩ := last none X x1
        exact ⟨_, _, hr, .inl ⟨rfl, ⟨by rw [hY]; exact hI.putObj _ x3 (by omega) xL rfl, yL, yD⟩, hKt (hKt uK x2) (by rw [hY]; exact hKb _ _ _ _ (by omega) xL rfl rfl)⟩⟩
      | ret =>
        obtain ⟨x1, x3⟩ := hp
        obtain ⟨xL, Y, hY, hr, yL, yD⟩ := last (some .ret) X x1
        exact ⟨_, _, hr, .inr ⟨rfl, .ret, by rw [hY]; exact (hIx _).putObj _ x3 (by omega) xL rfl, yL, yD⟩⟩
      | exit id =>
        obtain ⟨x1, x3⟩ := hp
        obtain ⟨xL, Y, hY, hr, yL, yD⟩ := last (some (.exit id)) X x1
        exact ⟨_, _, hr, .inr ⟨rfl, .exit id, by rw [hY]; exact (hIx _).putObj _ x3 (by omega) xL rfl, yL, yD⟩⟩
      | goto t => exact hp.elim
      | panic ch => exact hp.elim
      | outgrown => exact hp.elim
    · rintro e X ⟨⟨v, rfl⟩, (⟨hi, hl, hd⟩ | ⟨k, hk, c, hi, hl, hd⟩)⟩
      · have hr := run_endLoop (P := P) hl (by rw [hR]; simp)
        rw [hR] at hr
        exact ⟨none, _, hr, hdone _ _ (Nat.le_refl _) (hI.putObj _ hi (by omega) hl rfl) ((World.putObj_heap_other (by omega)).trans hd)⟩
      · have hr := run_endLoop (P := P) hl (by rw [hR]; simp)
        rw [hR] at hr
        exact ⟨some c, _, hr, hstop _ c k _ (Nat.le_refl _) hk ((hIx c).putObj _ hi (by omega) hl rfl) ((World.putObj_heap_other (by omega)).trans hd)⟩
end
end Go.Proofs.Ytfpkakedlapmkaa.Q
end
section
set_option linter.unusedSimpArgs false
set_option linter.unusedVariables false
namespace Go.Proofs.Ytfpkakedlapmkaa.Q
open Go.RowKit Go.Shelf Go.Proofs.YtfpkakedlapmkaaW.PrintWords Go.Proofs.YtfpkakedlapmkaaW.PrintLast
attribute [local go_sem] Oper.semAt_some
def flat37 (l : List S37) : List Value := l.flatMap fun p => [.string p.f0, .int .i64 p.f1]
theorem flat37_get : ∀ (l : List S37) (i : Nat), i < l.length → (flat37 l)[i * 2]? = some (.string (l.getD i z37).f0) ∧ (flat37 l)[i * 2 + 1]? = some (.int .i64 (l.getD i z37).f1)
  | [], i, h => absurd h (by simp)
  | x :: l, 0, _ => ⟨rfl, rfl⟩
  | x :: l, i + 1, h => by
    have h2 := flat37_get l i (by simpa using h)
    have e1 : (i + 1) * 2 = i * 2 + 1 + 1 := by omega
    have e : flat37 (x :: l) = .string x.f0 :: .int .i64 x.f1 :: flat37 l := rfl
    rw [e, e1]
    simpa using h2
/-- Between two rounds: what lay lies. -/
def AbA (A B : World) : Prop := Below A.heap.size A B
/-- A round keeps one block of words. -/
def KpB (b : Nat) (A B : World) : Prop := ∀ cells, A.heap[b]? = some (.cells cells 37 (0, 0)) → B.heap[b]? = some (.cells cells 37 (0, 0))
def pV (l : List S37) (k : Nat) : Array Value := #[.int .i64 k, .agg #[.string (l.getD k z37).f0, .int .i64 (l.getD k z37).f1]]
def primsV (l : List S37) : List (Array Value) := (List.range l.length).map (pV l)
set_option maxHeartbeats 2000000 in
set_option maxRecDepth 100000 in
theorem prims_seq1 (pl : List S37) (hlen : pl.length = 111) (HP : ∀ X, Calls Try.prog 14 #[] X fun e w' => e = .returned (.slice (some ⟨X.heap.size, 0, none⟩) 111 111) ∧ w' = X.alloc (.cells (flat37 pl).toArray 37 (0, 0))) (n : Nat) (hn : 2 ≤ n) (w : World) :
    SeqL n Try.prog 36 #[] AbA (KpB (w.heap.size + 2)) (primsV pl) w := by
  intro l J Jx W hW hsz hJ hJx hY h0
  have hu37 := Try.underlying37
  have hu34 := Try.underlying34
  have HP := Aside0.mk HP
  have hg := Aside0.mk (flat37_get pl)
  have hk0 : (primsV pl).length = 111 := by simp [primsV, hlen]
  have hJ0 := hJ 0 W (W.alloc (.cells (flat37 pl).toArray 37 (0, 0))) h0 (below_alloc (Below.refl _ _) _)
  have hb0 := blk_new W (.cells (flat37 pl).toArray 37 (0, 0))
  rw [← hsz] at hY
  clear hW h0 hsz
  refine callsIn_of_wp Try.func36 rfl trivial ?_ rfl
  simp only [Try.ntmps36, List.size_toArray, List.length_cons, List.length_nil, Nat.reduceAdd, Nat.reduceSub, Array.replicate_succ, Array.replicate_zero, List.push_toArray, List.append_toArray, List.nil_append, List.cons_append]
  have h1n : 1 ≤ n := by omega
  gi_wp2_with (refine ⟨trivial, ?_⟩; gi_at_call 14; refine (callsIn_wide.2 (HP.out _)).mono ?_; rintro e w1 ⟨rfl, rfl⟩)
  gi_loopw [6] (fun v wr => ∃ i : Nat, v = .int .i64 i ∧ i ≤ 111 ∧ J i wr ∧ wr.heap[W.heap.size]? = some (.cells (flat37 pl).toArray 37 (0, 0))) (fun v _ => 111 - (intOf v).toNat)
  case atStart => exact ⟨0, rfl, by omega, hJ0, hb0⟩
  case round =>
    obtain ⟨i, rfl, hi, hJi, hb⟩ := hrel
    clear hJ0 hb0
    by_cases h : i = 111
    · subst h
      gi_wp2
      go_end0
      exact ⟨⟨_, rfl⟩, .inl (hk0.symm ▸ hJi)⟩
    · have hlt : i < 111 := by omega
      have d1 : decide ((i : Int) < 111) = true := decide_eq_true (by omega)
      obtain ⟨g0, g1⟩ := hg.out i (by omega)
      have c0 := (blk_cell hb (i * 2)).trans ((by simpa using g0 : (flat37 pl).toArray[i * 2]? = _))
      have c1 := (blk_cell hb (i * 2 + 1)).trans ((by simpa using g1 : (flat37 pl).toArray[i * 2 + 1]? = _))
      have q1 : (0 ≤ (i : Int)) = True := eq_true (by omega)
      have q2 : ((i : Int) < 111) = True := eq_true (by omega)
      have q3 : ((i : Int)).toNat = i := by omega
      have hil : i < pl.length := by omega
      obtain ⟨x, hx⟩ : ∃ x, x = pl[i] := ⟨_, rfl⟩
      have hgx : (pl[i]?.getD z37) = x := by rw [hx]; simp [hil]
      have hki : i < (primsV pl).length := by omega
      have hL : (primsV pl)[i] = #[.int .i64 i, .agg #[.string x.f0, .int .i64 x.f1]] := by simp [primsV, pV, hgx, hil, hx]
      rw [hgx] at c0 c1
      obtain ⟨fn, tmps, assign, body, hy, hR⟩ := hY i hki (wr.alloc (.cells #[.string x.f0, .int .i64 x.f1] 37)) (hJ _ _ _ hJi (below_alloc (Below.refl _ _) _))
      rw [hL] at hy
      have hb2 := blk_alloc hb (.cells #[.string x.f0, .int .i64 x.f1] 37 (0, 0))
      have HI := Aside0.mk hki
      clear hx hgx hL g0 g1
      gi_wp2
      refine hR.mono ?_
      rintro e W3 (⟨rfl, hJ3, hk3⟩ | ⟨rfl, hJx3⟩)
      · have hb3 := hk3 _ hb2
        gi_wp2
        go_roundw
        case rel => exact ⟨i + 1, by first | rfl | simp, by omega, hJ3, hb3⟩
        case measure => simp [intOf]; omega
      · gi_wp2
        refine bodyPost_ret (results_none rfl _ _ _) rfl ?_
        exact ⟨⟨_, rfl⟩, .inr ⟨i + 1, HI.out, hJx3⟩⟩
end Go.Proofs.Ytfpkakedlapmkaa.Q
end
section
set_option linter.unusedSimpArgs false
set_option linter.unusedVariables false
namespace Go.Proofs.Ytfpkakedlapmkaa.Q
open Go.RowKit Go.Shelf Go.Proofs.YtfpkakedlapmkaaW.PrintWords Go.Proofs.YtfpkakedlapmkaaW.PrintLast
attribute [local go_sem] Oper.semAt_some
theorem kpB_t {b : Nat} {A B C : World} (h : KpB b A B) (k : KpB b B C) : KpB b A C := fun c e => k c (h c e)
theorem kpB_put {b l : Nat} {W : World} {o o' : Obj} (ho : W.heap[l]? = some o) (hc : o.isCells = false) : KpB b W (W.putObj l o') := fun c e => by
  have hne : l ≠ b := by
    intro h2
    subst h2
    rw [ho] at e
    cases e
    cases hc
  exact (World.putObj_heap_other (fun h2 => hne h2.symm)).trans e
theorem kpB_below {b : Nat} {A B : World} (h : Below A.heap.size A B) : KpB b A B := fun c e => (h.block b (Array.getElem?_eq_some_iff.1 e).1).trans e
theorem abA_keeps {A B : World} {i : Nat} {o : Obj} (h : AbA A B) (ho : A.heap[i]? = some o) (_ : o.isCells = false) : B.heap[i]? = some o := (h.block i (Array.getElem?_eq_some_iff.1 ho).1).trans ho
theorem boxed_below {A B : World} {b : Nat} {t : TypeId} {v : Value} (h : Boxed A b t v) (hab : Below A.heap.size A B) : Boxed B b t v := (hab.block b (Array.getElem?_eq_some_iff.1 h).1).trans h
theorem below_ab {w A B : World} (h : Below w.heap.size w A) (hab : Below A.heap.size A B) : Below w.heap.size w B := below_step h hab
def CodeI (pl : List S37) (c : Int) (w : World) (k : Nat) (W : World) : Prop :=
  ((∀ j, j < k → (pl.getD j z37).f1 ≠ c) ∧ Boxed W (w.heap.size + 1) 3 (.int .i64 c) ∧ Boxed W (w.heap.size + 1 + 1) 3 (.int .i64 0) ∧ Boxed W (w.heap.size + 1 + 1 + 1) 4 (.bool false)) ∧ Below w.heap.size w W
def CodeX (pl : List S37) (c : Int) (w : World) (cc : Code) (k : Nat) (W : World) : Prop :=
  ((cc = .ret ∧ ∃ i : Nat, i < 111 ∧ (pl.getD i z37).f1 = c ∧ (∀ j, j < i → (pl.getD j z37).f1 ≠ c) ∧ Boxed W (w.heap.size + 1 + 1) 3 (.int .i64 i)) ∧ Boxed W (w.heap.size + 1 + 1 + 1) 4 (.bool true)) ∧ Below w.heap.size w W
theorem codeI_own (pl : List S37) (c : Int) (w : World) (B : Nat) (hB : w.heap.size ≤ B) : OwnFrom B (CodeI pl c w) :=
  OwnFrom.and (OwnFrom.and (fun _ _ _ _ h _ _ => h) (OwnFrom.and (Own.from (boxed_own _ _ _) _) (OwnFrom.and (Own.from (boxed_own _ _ _) _) (Own.from (boxed_own _ _ _) _)))) (ownFrom_below (Nat.le_refl _) hB)
theorem codeX_own (pl : List S37) (c : Int) (w : World) (cc : Code) (B : Nat) (hB : w.heap.size ≤ B) : OwnFrom B (CodeX pl c w cc) :=
  OwnFrom.and (OwnFrom.and (fun s X Y row h hg hr => ⟨h.1, by obtain ⟨i, h1, h2, h3, h4⟩ := h.2; exact ⟨i, h1, h2, h3, (Own.from (boxed_own (β := Nat) _ _ (fun _ => .int .i64 i)) B) s X Y row h4 hg hr⟩⟩) (Own.from (boxed_own _ _ _) _)) (ownFrom_below (Nat.le_refl _) hB)
theorem codeI_abs (pl : List S37) (c : Int) (w : World) (k : Nat) (A B : World) (h : CodeI pl c w k A) (hab : AbA A B) : CodeI pl c w k B :=
  ⟨⟨h.1.1, boxed_below h.1.2.1 hab, boxed_below h.1.2.2.1 hab, boxed_below h.1.2.2.2 hab⟩, below_ab h.2 hab⟩
theorem codeX_abs (pl : List S37) (c : Int) (w : World) (cc : Code) (k : Nat) (A B : World) (h : CodeX pl c w cc k A) (hab : AbA A B) : CodeX pl c w cc k B := by
  obtain ⟨⟨⟨h0, i, h1, h2, h3, h4⟩, h5⟩, h6⟩ := h
  exact ⟨⟨⟨h0, i, h1, h2, h3, boxed_below h4 hab⟩, boxed_below h5 hab⟩, below_ab h6 hab⟩
/-- The loop's variables in a round: its number, its word in a box. -/
def AxP (pl : List S37) (n0 : Nat) (tm : Nat → Nat → S37 → Array Value) (k : Nat) (a' : Act) (W : World) : Prop :=
  ∃ b, n0 ≤ b ∧ W.heap[b]? = some (.cells #[.string (pl.getD k z37).f0, .int .i64 (pl.getD k z37).f1] 37 (0, 0)) ∧ a' = { tmps := tm k b (pl.getD k z37), defers := [] }
theorem axP_put (pl : List S37) (n0 : Nat) (tm : Nat → Nat → S37 → Array Value) (k : Nat) (a' : Act) (W : World) (l : Nat) (o o' : Obj) (ho : W.heap[l]? = some o) (hc : o.isCells = false) (h : AxP pl n0 tm k a' W) : AxP pl n0 tm k a' (W.putObj l o') := by
  obtain ⟨b, hb0, hb, rfl⟩ := h
  exact ⟨b, hb0, kpB_put ho hc _ hb, rfl⟩
def primIdx (pl : List S37) (c : Int) : Int × Bool := match pl.findIdx? (fun p => p.f1 == c) with
  | some i => ((i : Int), true)
  | none => (0, false)
theorem primIdx_none (pl : List S37) (c : Int) (h : ∀ j, j < pl.length → (pl.getD j z37).f1 ≠ c) : primIdx pl c = (0, false) := by
  have : pl.findIdx? (fun p => p.f1 == c) = none := by
    rw [List.findIdx?_eq_none_iff]
    intro x hx
    obtain ⟨j, hj, rfl⟩ := List.mem_iff_getElem.1 hx
    have := h j hj
    rw [List.getD_eq_getElem?_getD, List.getElem?_eq_getElem hj] at this
    simpa using this
  rw [primIdx, this]
theorem primIdx_some (pl : List S37) (c : Int) (i : Nat) (hi : i < pl.length) (h0 : (pl.getD i z37).f1 = c) (h : ∀ j, j < i → (pl.getD j z37).f1 ≠ c) : primIdx pl c = ((i : Int), true) := by
  have : pl.findIdx? (fun p => p.f1 == c) = some i := by
    rw [List.findIdx?_eq_some_iff_getElem]
    refine ⟨hi, ?_, ?_⟩
    · rw [List.getD_eq_getElem?_getD, List.getElem?_eq_getElem hi] at h0
      simpa using h0
    · intro j hj
      have := h j hj
      rw [List.getD_eq_getElem?_getD, List.getElem?_eq_getElem (by omega)] at this
      simpa using this
  rw [primIdx, this]
def codeF (codes : List Int) (c : Int) : Int × Bool := if c < 2048 then primIdx [] c else if c - 2048 < codes.length ∧ rd codes (c - 2048) ≠ -1 then (rd codes (c - 2048), true) else (0, false)
set_option maxRecDepth 100000 in
theorem cells_end (f : Nat) (F : Func) (hres : F.results = #[.cell 4 3, .cell 5 4]) (w X : World) (B2 B3 D : Nat) (hD : D ≠ B2 ∧ D ≠ B3 ∧ w.heap.size ≤ D) (tmps : Array Value) (i : Int) (bb : Bool) (ht2 : tmps.getD 4 undef = .pointer (some ⟨B2, 0, none⟩)) (ht3 : tmps.getD 5 undef = .pointer (some ⟨B3, 0, none⟩))
    (hK : X.heap[D]? = some (.deferred (some []))) (g1 : Boxed X B2 3 (.int .i64 i)) (g2 : Boxed X B3 4 (.bool bb)) (hB : Below w.heap.size w X) :
    bodyPostM Fence.wide 5 Try.prog F (fun e W' => e = .returned (.tuple #[.int .i64 i, .bool bb]) ∧ Below w.heap.size w W') Exit.ret { tmps := tmps, defers := [{ target := .collected D, args := #[] }] } X := by
  refine ⟨by simp, .inl ⟨_, _, rfl, run_takeDeferred hK, ?_⟩⟩
  have k1 : Boxed (X.putObj D (.deferred none)) B2 3 (.int .i64 i) := (World.putObj_heap_other (by omega)).trans g1
  have k2 : Boxed (X.putObj D (.deferred none)) B3 4 (.bool bb) := (World.putObj_heap_other (by omega)).trans g2
  have c1 := k1.cell
  have c2 := k2.cell
  refine ⟨_, ?_, rfl, hB.trans (belowK_b (w := w) (Nat.le_refl _) X D _ _ (by omega) hK rfl rfl)⟩
  rw [Array.getD_eq_getD_getElem?] at ht2 ht3
  simp [results, hres, go_sem, ht2, ht3, c1, c2]
set_option maxHeartbeats 4000000 in
set_option maxRecDepth 100000 in
theorem code_low (pl : List S37) (hlen : pl.length = 111) (HP : ∀ X, Calls Try.prog 14 #[] X fun e w' => e = .returned (.slice (some ⟨X.heap.size, 0, none⟩) 111 111) ∧ w' = X.alloc (.cells (flat37 pl).toArray 37 (0, 0)))
    (v0 v1 v2 v3 : Value) (a4 : Int) (v5 : Value) (a6 : Int) (v7 : Value) (a8 : Int) (a9 : ByteArray) (c : Int) (hc : c < 2048) (w : World) :
    Calls Try.prog 17 #[.agg #[v0, v1, v2, v3, .int .u32 a4, v5, .int .i64 a6, v7, .int .i64 a8, .string a9], .int .i64 c] w fun e w' => e = .returned (.tuple #[.int .i64 (primIdx pl c).1, .bool (primIdx pl c).2]) ∧ Below w.heap.size w w' := by
  refine (callsIn_wide (n := 5)).1 ?_
  have HSq := Aside0.mk (fun W0 : World => prims_seq1 pl hlen HP 4 (by decide) W0)
  obtain ⟨R, hR⟩ : ∃ R, R = primIdx pl c := ⟨_, rfl⟩
  rw [← hR]
  obtain ⟨r1, r2⟩ := R
  have HR := Aside0.mk hR
  clear HP hR
  refine callsIn_of_wp_marks Try.func17 rfl trivial ?_ rfl
  simp only [Try.ntmps17, List.size_toArray, List.length_cons, List.length_nil, Nat.reduceAdd, Nat.reduceSub, Array.replicate_succ, Array.replicate_zero, List.push_toArray, List.append_toArray, List.nil_append, List.cons_append]
  have d1 : decide (c < 2048) = true := decide_eq_true hc
  gi_wp2
  obtain ⟨W0, hW0⟩ : ∃ W0, W0 = (((w.alloc (.cells #[v0, v1, v2, v3, .int .u32 a4, v5, .int .i64 a6, v7, .int .i64 a8, .string a9] 32)).alloc (.cells #[.int .i64 c] 3)).alloc (.cells #[.int .i64 0] 3)).alloc (.cells #[.bool false] 4) := ⟨_, rfl⟩
  have b1 : Boxed W0 (w.heap.size + 1) 3 (.int .i64 c) := by
    rw [hW0]
    have h := (((Boxed.new (w.alloc (.cells #[v0, v1, v2, v3, .int .u32 a4, v5, .int .i64 a6, v7, .int .i64 a8, .string a9] 32)) 3 (.int .i64 c)).alloc (.cells #[.int .i64 0] 3)).alloc (.cells #[.bool false] 4))
    rw [World.size_alloc] at h
    exact h
  have b2 : Boxed W0 (w.heap.size + 1 + 1) 3 (.int .i64 0) := by
    rw [hW0]
    have h := (Boxed.new ((w.alloc (.cells #[v0, v1, v2, v3, .int .u32 a4, v5, .int .i64 a6, v7, .int .i64 a8, .string a9] 32)).alloc (.cells #[.int .i64 c] 3)) 3 (.int .i64 0)).alloc (.cells #[.bool false] 4)
    rw [World.size_alloc, World.size_alloc] at h
    exact h
  have b3 : Boxed W0 (w.heap.size + 1 + 1 + 1) 4 (.bool false) := by
    rw [hW0]
    have h := Boxed.new (((w.alloc (.cells #[v0, v1, v2, v3, .int .u32 a4, v5, .int .i64 a6, v7, .int .i64 a8, .string a9] 32)).alloc (.cells #[.int .i64 c] 3)).alloc (.cells #[.int .i64 0] 3)) 4 (.bool false)
    rw [World.size_alloc, World.size_alloc, World.size_alloc] at h
    exact h
  have hB0 : Below w.heap.size w W0 := by rw [hW0]; exact below_alloc (below_alloc (below_alloc (below_alloc (Below.refl _ _) _) _) _) _
  have hs0 : W0.heap.size = w.heap.size + 4 := by rw [hW0]; simp
  rw [← hW0]
  clear hW0
  have hLl : (primsV pl).length = 111 := by simp [primsV, hlen]
  refine wp_rangeL (by omega) (gf := 36) (lb := #[]) rfl (enters_of Try.func36 (by kernel_rfl) rfl)
    (HSq.out W0) abA_keeps kpB_t (fun W l o o' hl ho hoc _ => kpB_put ho hoc) ?hps
    (CodeI pl c w) (CodeX pl c w) (codeI_own pl c w _ (by omega)) (fun cc => codeX_own pl c w cc _ (by omega)) (codeI_abs pl c w) (codeX_abs pl c w)
    ⟨⟨fun j hj => absurd hj (by omega), b1, b2, b3⟩, hB0⟩
    (AxP pl w.heap.size (fun k b x => #[.agg #[v0, v1, v2, v3, .int .u32 a4, v5, .int .i64 a6, v7, .int .i64 a8, .string a9], .int .i64 c, .pointer (some ⟨w.heap.size, 0, none⟩), .pointer (some ⟨w.heap.size + 1, 0, none⟩), .pointer (some ⟨w.heap.size + 1 + 1, 0, none⟩), .pointer (some ⟨w.heap.size + 1 + 1 + 1, 0, none⟩), .int .i64 (k : Int), .pointer (some ⟨b, 0, none⟩), .int .i64 c, .bool true, .int .i64 (k : Int), .agg #[.string x.f0, .int .i64 x.f1], undef, undef, undef, undef, undef, undef, undef, undef, undef, undef, undef, undef, undef, undef, undef, undef, undef, undef, undef, undef, undef, undef, undef, undef, undef])) (fun k a' W l o o' hl ho hc h => axP_put _ _ _ k a' W l o o' ho hc h) ?assign ?body ?done ?stop
  case hps =>
    intro x hx
    obtain ⟨p, _, rfl⟩ := List.mem_map.1 hx
    rfl
  case assign =>
    intro l' k hk W K hI hK
    obtain ⟨x, hx⟩ : ∃ x, x = pl.getD k z37 := ⟨_, rfl⟩
    have e : (primsV pl)[k] = #[.int .i64 k, .agg #[.string x.f0, .int .i64 x.f1]] := by rw [hx]; simp [primsV, pV]
    rw [e]
    have hab : AbA W (W.alloc (.cells #[.string x.f0, .int .i64 x.f1] 37 (0, 0))) := below_alloc (Below.refl _ _) _
    have hK2 := hK _ (W.alloc (.cells #[.string x.f0, .int .i64 x.f1] 37 (0, 0))) ⟨W.heap.size, hI.2.size, by rw [← hx]; exact blk_new W _, rfl⟩ (KeepsOthers.alloc _ _) (kpB_below hab) (codeI_abs pl c w k _ _ hI hab)
    rw [← hx] at hK2
    clear e hx hK hI
    gi_wp2
    exact hK2
  case body =>
    rintro l' k a' W hk0 ⟨b, hb0, hbx, rfl⟩ ⟨⟨hne, h1, h2, h3⟩, hB⟩
    have hk : k < 111 := by omega
    obtain ⟨x, hx⟩ : ∃ x, x = pl.getD k z37 := ⟨_, rfl⟩
    rw [← hx] at hbx
    simp only [← hx]
    have cx := (blk_cell hbx 1).trans rfl
    have hc1 := h1.cell
    have hc2 := h2.cell
    have hf2 := h2.frozen
    have hc3 := h3.cell
    have hf3 := h3.frozen
    by_cases he : x.f1 = c
    · have d2 : (x.f1 == c) = true := by simp [he]
      have HX := Aside0.mk hx
      have HE := Aside0.mk he
      clear hx he hk0 hbx
      gi_wp2
      have hx := HX.out
      exact ⟨(KeepsOthers.setCell _ _ _).trans (KeepsOthers.setCell _ _ _), ⟨⟨⟨rfl, k, hk, by rw [← hx]; exact HE.out, hne, (h2.set _).other (by omega) _⟩, (h3.other (by omega) _).set _⟩, below_set (below_set hB (by omega)) (by omega)⟩⟩
    · have d2 : (x.f1 == c) = false := beq_false_of_ne he
      have HX := Aside0.mk hx
      have HE := Aside0.mk he
      clear hx he hk0 hbx
      gi_wp2
      have hx := HX.out
      exact ⟨KeepsOthers.refl _, fun _ h => h, ⟨fun j hj => by
        rcases Nat.lt_or_eq_of_le (Nat.le_of_lt_succ hj) with h | h
        · exact hne j h
        · rw [h, ← hx]; exact HE.out, h1, h2, h3⟩, hB⟩
  case done =>
    rintro D W hD ⟨⟨hne, h1, h2, h3⟩, hB⟩ hK
    have hpr := primIdx_none pl c (by rw [hlen, ← hLl]; exact hne)
    obtain ⟨rfl, rfl⟩ := Prod.mk.injEq .. ▸ (HR.out.trans hpr)
    have hc2 := h2.cell
    have hf2 := h2.frozen
    have hc3 := h3.cell
    have hf3 := h3.frozen
    clear hpr
    gi_wp2
    exact cells_end 17 _ Try.results17 w _ _ _ D ⟨by omega, by omega, by omega⟩ _ _ _ rfl rfl (((KeepsOthers.setCell _ _ _).trans (KeepsOthers.setCell _ _ _)).same D _ hK rfl) ((h2.set _).other (by omega) _) ((h3.other (by omega) _).set _) (below_set (below_set hB (by omega)) (by omega))
  case stop =>
    rintro D cc k W hD hkk ⟨⟨⟨rfl, i, hi, hx, hne, h2⟩, h3⟩, hB⟩ hK
    obtain ⟨rfl, rfl⟩ := Prod.mk.injEq .. ▸ (HR.out.trans (primIdx_some pl c i (by omega) hx hne))
    clear hx
    gi_wp2
    exact cells_end 17 _ Try.results17 w _ _ _ D ⟨by omega, by omega, by omega⟩ _ _ _ rfl rfl hK h2 h3 hB
end Go.Proofs.Ytfpkakedlapmkaa.Q
end
section
namespace Go.Proofs.Ytfpkakedlapmkaa.Q
open Go.RowKit Go.Proofs.YtfpkakedlapmkaaW.PrintWords Go.Proofs.YtfpkakedlapmkaaW.PrintLast
section
variable {P : Program} {ops : Array Oper} {Q : Exit → Act → World → Prop} {md : Region.Mode} {n lr : Nat}
theorem rowsIn_wide {row : String} {args : Array Value} {w : World} {R : Value → World → Prop} (h : Rows P row args w R) : RowsIn (Fence.wide.inRound lr) n P row args w R :=
  fun c cs _ => let ⟨v, w', r, s⟩ := h c cs; ⟨v, w', r, stepsIn_wide.2 s⟩
theorem oper_in {o : Oper} {a : Act} {w : World} {K : Act → World → Prop} (hnd : ∀ c, o.op ≠ .defer c) (h : o.wp P a w K Q) : o.wpIn (Fence.wide.inRound lr) n P a w K Q := by
  refine ⟨fun _ _ => trivial, ?_⟩
  rw [Oper.semAt_plain _ _ _ hnd]
  unfold Oper.wp at h
  generalize (execOp a.eval o).run P w = r at h ⊢
  cases r with
  | ok x w' =>
    cases x with
    | value v => exact h
    | skip => exact h
    | defer d => exact h
    | enter f args => exact ⟨(fun hd => by cases hd), CallsIn.inRound lr (callsIn_wide.2 h)⟩
    | row row args => exact ⟨(fun hd => by cases hd), rowsIn_wide h⟩
    | _ => exact h.elim
  | halt x w' =>
    cases x with
    | panic v => exact h
    | _ => exact h.elim
theorem op_in {i : Nat} {a : Act} {w : World} {K : Act → World → Prop} (hnd : ∀ (i : Nat) (o : Oper), ops[i]? = some o → ∀ c, o.op ≠ .defer c) (hlo : ¬ LetsOut Q) (h : wpOp P ops Q i K a w) : wpOpIn (Fence.wide.inRound lr) n P ops Q i K a w := by
  unfold wpOp at h
  unfold wpOpIn
  cases ho : ops[i]? with
  | none => rw [ho] at h; exact h
  | some o =>
    rw [ho] at h
    dsimp only at h ⊢
    split
    · rename_i hw
      rw [if_pos hw] at h
      rcases h with h | ⟨_, h⟩
      · exact oper_in (hnd i o ho) h
      · exact absurd h hlo
    · rename_i hw
      rw [if_neg hw] at h
      exact ⟨fun _ _ => trivial, h⟩
theorem any_in (hnd : ∀ (i : Nat) (o : Oper), ops[i]? = some o → ∀ c, o.op ≠ .defer c) (hlo : ¬ LetsOut Q) : ∀ (fuel : Nat) (listed : Array Bool) (a : Act) (w : World), wpAny P md ops Q fuel listed a w → wpAnyIn (Fence.wide.inRound lr) n P md ops Q fuel listed a w
  | 0, _, _, _, h => h
  | fuel + 1, _, _, _, h => ⟨h.1, fun i hi => wpOpIn_mono (fun a w h => any_in hnd hlo fuel _ a w h) (op_in hnd hlo (h.2 i hi))⟩
def noDefer (o : Oper) : Bool := match o.op with | .defer _ => false | _ => true
theorem noDefer_spec (h : ops.all noDefer = true) : ∀ (i : Nat) (o : Oper), ops[i]? = some o → ∀ c, o.op ≠ .defer c := fun i o ho c hc => by
  have := Array.all_eq_true_iff_forall_mem.1 h o (Array.mem_of_getElem? ho)
  unfold noDefer at this
  rw [hc] at this
  cases this
theorem start_in {S : World → Prop} {ds : List Nat} {id m : Nat} {a : Act} {w : World} (l : Array Bool) (hm : P.follows .mixedOrders = true) (hn : ops.size = m) (hl : Array.replicate m false = l) (hS : S w.drew) (hnd : ops.all noDefer = true) (hlo : ¬ LetsOut Q)
    (h : S w.drew → wpAnyLast P .any ops Q S ds m l a w.drew) : (Code.region id ops true).wpIn (Fence.wide.inRound lr) n P Q a w := by
  subst hn
  subst hl
  exact wpIn_region_any hm (any_in (noDefer_spec hnd) hlo _ _ _ _ (wpAny_of_last _ _ _ _ (h hS)))
end
end Go.Proofs.Ytfpkakedlapmkaa.Q
end
section
namespace Go.Proofs.Ytfpkakedlapmkaa.Q
open Go.RowKit Go.Proofs.YtfpkakedlapmkaaW.PrintWords Go.Proofs.YtfpkakedlapmkaaW.PrintLast Go.Proofs.YtfpkakedlapmkaaW.PrintMore
set_option linter.unusedVariables false
set_option linter.unusedSimpArgs false

attribute [local go_sem] max2_int min2_int max_two min_two max_three min_three max_four min_four
/-! ### tree_New: function 35 -/
def tree_New.f  : Option ((List (S91))) := some (([(⟨(⟨#[]⟩ : ByteArray), ([] : List Int), (-1), ([] : List (S106)), ([] : List Int)⟩ : S91)] : List (S91)))
set_option maxHeartbeats 8000000 in
set_option maxRecDepth 100000 in
theorem tree_New.calls  (r : List (S91)) (w : World) (h : tree_New.f  = some r) :
    Calls Try.prog 35 #[] w fun e w' => ∃ v0_ : Value, e = .returned (v0_) ∧ Kd.R k91 91 w' w.heap.size (fun _ => True) v0_ r ∧ Below w.heap.size w w' := by
  have hu91 := Try.underlying91
  have HB := Aside0.mk (Below.refl w.heap.size w)
  have H : (some (([(⟨(⟨#[]⟩ : ByteArray), ([] : List Int), (-1), ([] : List (S106)), ([] : List Int)⟩ : S91)] : List (S91)))) = some r := h
  clear h
  obtain ⟨y36001, hy36001⟩ : ∃ y_ : List (S91), y_ = (([(⟨(⟨#[]⟩ : ByteArray), ([] : List Int), (-1), ([] : List (S106)), ([] : List Int)⟩ : S91)] : List (S91))) := ⟨_, rfl⟩
  replace H : (some y36001) = some r := by first | (rw [hy36001]; with_reducible exact H) | (have H2_ := (Option.bind_some _ _).symm.trans H; rw [hy36001]; with_reducible exact H2_) | (have H2_ := (Option.bind_some _ _).symm.trans H; with_reducible exact H2_) | with_reducible exact H | (rw [hy36001]; exact H) | exact H
  have Ny36001 := Aside0.mk hy36001
  clear hy36001
  obtain rfl := Option.some.inj H
  go_enter Try.func35, Try.ntmps35
  go_wp2_with (first | ((with_reducible refine gate_dst (N := 2) rfl ?_); refine Kd.R_lit k91 _ 91 ?hg (N := 2) ?hd (xs := ([(⟨(⟨#[]⟩ : ByteArray), ([] : List Int), (-1), ([] : List (S106)), ([] : List Int)⟩ : S91)] : List (S91))) (inner := [.string (⟨#[]⟩ : ByteArray), .slice none 0 0, .int .i64 (-1), .slice none 0 0, .slice none 0 0]) (ok := fun _ => True) (okp := fun _ => True) ?hr ?hp (fun _ hk => hk) trivial (Below.refl _ _) (Nat.le_refl _) (by simp) ?_; (case hd => rfl); (case hg => rfl); (case hr => first | (go_simp; done) | (go_simp; rfl)); (case hp => exact (Reps.c5 (show Kd.M k91 _ _ _ (⟨(⟨#[]⟩ : ByteArray), ([] : List Int), (-1), ([] : List (S106)), ([] : List Int)⟩ : S91) [.string (⟨#[]⟩ : ByteArray), .slice none 0 0, .int .i64 (-1), .slice none 0 0, .slice none 0 0] from (k91_mkM _ _ _ (⟨(⟨#[]⟩ : ByteArray), ([] : List Int), (-1), ([] : List (S106)), ([] : List Int)⟩ : S91) (Kd.R_nil _ _ _ _ _) (Kd.R_nil _ _ _ _ _) (Kd.R_nil _ _ _ _ _))) (Reps.none _ _))); intro v36002 w1 ho2 hb hg_ hnew_; clear hg_ hnew_; (first | rw [← Ny36001.out] at ho2 | (simp only [Int.reduceToNat] at ho2; rw [← Ny36001.out] at ho2)); have n0_ := Aside0.mk (Kd.R_lower ho2 (below_size (by repeat (first | (with_reducible first | exact HB.out | apply below_alloc | apply pw_below_drewN | apply below_drew1) | exact HB.out)))); have n1_ := Aside0.mk (below_step (by repeat (first | (with_reducible first | exact HB.out | apply below_alloc | apply pw_below_drewN | apply below_drew1) | exact HB.out)) hb); clear HB; have HO36003 := n0_; have HB := n1_; clear n0_ n1_; clear hb ho2))
  go_ret
  exact ⟨_, by first | rfl | (simp [errW_none, errW_some] <;> rfl) | (simp [*, errW_none, errW_some] <;> rfl), by (with_reducible repeat (first | apply Kd.R_alloc | apply Kd.R_drewN | apply Kd.R_drew)); exact HO36003.out, by repeat (first | (with_reducible first | exact HB.out | apply below_alloc | apply pw_below_drewN | apply below_drew1) | exact HB.out)⟩

end Go.Proofs.Ytfpkakedlapmkaa.Q
end
section
set_option linter.unusedSimpArgs false
set_option linter.unusedVariables false
namespace Go.Proofs.Ytfpkakedlapmkaa.Q
open Go.RowKit Go.Shelf Go.Proofs.YtfpkakedlapmkaaW.PrintWords Go.Proofs.YtfpkakedlapmkaaW.PrintLast
attribute [local go_sem] Oper.semAt_some
theorem event_stepN {P : Program} {ops : Array Oper} {o : Oper} {a : Act} {Q : Exit → Act → World → Prop} {Kc : Act → World → Prop} {N : Option Tmp} {W w1 : World} {v : Value} (hw : Region.wanted o (yielded ops a.tmps) = true) (hN : o.dst = N) (hrun : (execOp a.eval o).run P W = .ok (.value v) w1) (h : Kc (a.put N v) w1) :
    if Region.wanted o (yielded ops a.tmps) = true then Oper.wp P o a W Kc Q else Kc (a.put N undef) W := by
  subst hN
  exact event_step hw hrun h
theorem skip_stepN {P : Program} {ops : Array Oper} {o : Oper} {a : Act} {Q : Exit → Act → World → Prop} {Kc : Act → World → Prop} {N : Option Tmp} {W w1 : World} (hw : Region.wanted o (yielded ops a.tmps) = true) (hN : o.dst = N) (hrun : (execOp a.eval o).run P W = .ok .skip w1) (h : Kc (a.put N undef) w1) :
    if Region.wanted o (yielded ops a.tmps) = true then Oper.wp P o a W Kc Q else Kc (a.put N undef) W := by
  subst hN
  rw [if_pos hw]
  unfold Oper.wp
  rw [hrun]
  exact h
theorem word_exact (a : ByteArray) (b : Int) (w : World) :
    Calls Try.prog 37 #[.agg #[.string a, .int .i64 b]] w fun e w' => e = .returned (.agg #[.string a, .int .i64 (-1), .int .i64 1, .int .u32 (b % 4294967296), .slice none 0 0]) ∧ Below w.heap.size w w' := by
  have hu37 := Try.underlying37
  have hu51 := Try.underlying51
  go_enter Try.func37, Try.ntmps37
  go_wp2
  have hb := blk_new (w.alloc (.cells #[.string a, .int .i64 b] 37 (0, 0))) (.cells #[.string a, .int .i64 (-1), .int .i64 1, .int .u32 (b % 4294967296), .slice none 0 0] 51 (0, 0))
  rw [World.size_alloc] at hb
  exact bodyPost_ret (results_cell_row rfl _ _ (w.heap.size + 1) 51 #[.string a, .int .i64 (-1), .int .i64 1, .int .u32 (b % 4294967296), .slice none 0 0] (0, 0) _ rfl hb hu51 rfl (by kernel_rfl)) rfl ⟨rfl, below_alloc (below_alloc (Below.refl _ _) _) _⟩
def wordOf (p : S37) : S51 := ⟨p.f0, -1, 1, p.f1 % 4294967296, []⟩
def wordsN (pl : List S37) (k : Nat) : List S51 := (pl.take k).map wordOf
theorem wordsN_succ (pl : List S37) (k : Nat) (h : k < pl.length) : wordsN pl (k + 1) = wordsN pl k ++ [wordOf (pl.getD k z37)] := by
  unfold wordsN
  rw [List.take_succ_eq_append_getElem h, List.map_append, List.getD_eq_getElem?_getD, List.getElem?_eq_getElem h]
  rfl
theorem wordsN_len (pl : List S37) (k : Nat) (h : k ≤ pl.length) : (wordsN pl k).length = k := by
  unfold wordsN
  rw [List.length_map, List.length_take]
  omega
def mcells (v v5 : Value) : Array Value := #[.slice none 0 0, .slice none 0 0, v, .slice none 0 0, .int .u32 16, v5, .int .i64 (-1), .slice none 0 0, .int .i64 (-1), .string ⟨#[]⟩]
def NewI (pl : List S37) (v5 : Value) (wt : World) (k : Nat) (W : World) : Prop :=
  (∃ v, W.heap[wt.heap.size]? = some (.cells (mcells v v5) 32 (0, 0)) ∧ Kd.R k51 51 W (wt.heap.size + 1) (fun _ => True) v (wordsN pl k)) ∧ Below wt.heap.size wt W
theorem R_keptN {α : Type} {d : Kd α} {e base : Nat} {v : Value} {xs : List α} {X Y : World} {row : Option Nat} (h : Kd.R d e X base (fun _ => True) v xs) (hg : X.grownBy Y row) (hr : ∀ r, row = some r → ∃ o : Obj, X.heap[r]? = some o ∧ o.isCells = false) : Kd.R d e Y base (fun _ => True) v xs := by
  obtain ⟨h0, inner, hown, hreps⟩ := h
  have hne : ∀ k, (∃ cells q, X.heap[k]? = some (.cells cells q (0, 0))) → some k ≠ row := fun k ⟨cells, q, hk⟩ e2 => by
    obtain ⟨o, ho, hc⟩ := hr k e2.symm
    rw [hk] at ho
    cases ho
    cases hc
  refine ⟨h0, inner, own_move hown fun k hk => ?_, hreps.imp_ fun p c hp => ?_⟩
  · obtain ⟨cells, hk2⟩ := own_typed hown k hk
    exact hg.block k (blk_lt hk2) (hne k ⟨cells, _, hk2⟩)
  · refine d.M_mono (fun _ hk => hk.1) (d.M_move (fun k hk => ?_) (d.M_bound hp))
    obtain ⟨_, _, _, q, _, cells, hk2⟩ := hk
    exact hg.block k (blk_lt hk2) (hne k ⟨cells, q, hk2⟩)
theorem R_putD {α : Type} {d : Kd α} {e base D : Nat} {v : Value} {xs : List α} {X : World} {o o' : Obj} (h : Kd.R d e X base (fun _ => True) v xs) (hD : X.heap[D]? = some o) (hc : o.isCells = false) : Kd.R d e (X.putObj D o') base (fun _ => True) v xs :=
  R_keptN h (grownBy_putObj' X D o') (fun r e => by cases e; exact ⟨o, hD, hc⟩)
theorem newI_own (pl : List S37) (v5 : Value) (wt : World) (B : Nat) (hB : wt.heap.size ≤ B) : OwnFrom B (NewI pl v5 wt) :=
  OwnFrom.and (fun s X Y row h hg hr => by
    obtain ⟨v, h1, h2⟩ := h
    refine ⟨v, blk_grown h1 hg (fun e => ?_), R_keptN h2 hg (fun r e => (hr r e).2)⟩
    obtain ⟨_, o, ho, hc⟩ := hr _ e.symm
    rw [h1] at ho
    cases ho
    cases hc) (ownFrom_below (Nat.le_refl _) hB)
theorem newI_abs (pl : List S37) (v5 : Value) (wt : World) (k : Nat) (A B : World) (h : NewI pl v5 wt k A) (hab : AbA A B) : NewI pl v5 wt k B := by
  obtain ⟨⟨v, h1, h2⟩, h3⟩ := h
  exact ⟨⟨v, blk_below h1 hab, Kd.R_below h2 hab⟩, below_ab h3 hab⟩
def setAll (W : World) (g : Nat) : List Value → Nat → World
  | [], _ => W
  | u :: us, i => setAll (W.setCell ⟨g, i, none⟩ u) g us (i + 1)
def setA (cs : Array Value) : List Value → Nat → Array Value
  | [], _ => cs
  | u :: us, i => setA (cs.setIfInBounds i u) us (i + 1)
theorem setAll_blk {g t : Nat} : ∀ (us : List Value) (i : Nat) (W : World) (cs : Array Value), W.heap[g]? = some (.cells cs t (0, 0)) → (setAll W g us i).heap[g]? = some (.cells (setA cs us i) t (0, 0))
  | [], _, _, _, h => h
  | u :: us, i, W, cs, h => setAll_blk us (i + 1) _ _ (blk_put h i u rfl)
theorem setAll_R {α : Type} {d : Kd α} {e base g t : Nat} {ok : Nat → Prop} {v : Value} {xs : List α} (ht : ∀ q, q ∈ e :: d.E → q ≠ t) : ∀ (us : List Value) (i : Nat) (W : World) (cs : Array Value), W.heap[g]? = some (.cells cs t (0, 0)) → Kd.R d e W base ok v xs → Kd.R d e (setAll W g us i) base ok v xs
  | [], _, _, _, _, h => h
  | u :: us, i, W, cs, hb, h => setAll_R ht us (i + 1) _ _ (blk_put hb i u rfl) (Kd.R_set h hb ht i u)
theorem setAll_below {g : Nat} {w : World} (hg : w.heap.size ≤ g) : ∀ (us : List Value) (i : Nat) (W : World), Below w.heap.size w W → Below w.heap.size w (setAll W g us i)
  | [], _, _, h => h
  | u :: us, i, W, h => setAll_below hg us (i + 1) _ (below_set h hg)
theorem setAll_keeps {g : Nat} {A : World} : ∀ (us : List Value) (i : Nat) (W : World), KeepsOthers A W → KeepsOthers A (setAll W g us i)
  | [], _, _, h => h
  | u :: us, i, W, h => setAll_keeps us (i + 1) _ (h.trans (KeepsOthers.setCell _ _ _))
set_option maxRecDepth 100000 in
theorem new_end (pl : List S37) (w W X : World) (D : Nat) (hD : w.heap.size < D) (Av : Option Addr) (cv : Nat) (A5 : Option Addr) (c5 : Nat) (tmps : Array Value) (h0 : tmps.getD 0 undef = .pointer (some ⟨w.heap.size, 0, none⟩)) (hK : W.heap[D]? = some (.deferred (some [])))
    (hz : W.heap[w.heap.size]? = some (.cells #[.slice none 0 0, .slice none 0 0, .slice none 0 0, .slice none 0 0, .int .u32 0, .slice none 0 0, .int .i64 0, .slice none 0 0, .int .i64 0, .string ⟨#[]⟩] 32 (0, 0)))
    (hr1 : Kd.R k51 51 W w.heap.size (fun _ => True) (.slice Av 111 cv) (wordsN pl 111)) (hr2 : Kd.R k91 91 W w.heap.size (fun _ => True) (.slice A5 1 c5) [⟨⟨#[]⟩, [], -1, [], []⟩]) (hb : Below w.heap.size w W) (hX : X = setAll W w.heap.size [.slice none 0 0, .slice none 0 0, .slice Av 111 cv, .slice none 0 0, .int .u32 16, .slice A5 1 c5, .int .i64 (-1), .slice none 0 0, .int .i64 (-1), .string ⟨#[]⟩] 0) :
    bodyPostM Fence.wide 5 Try.prog Try.f12 (fun e w' => ∃ v v5, e = .returned (.agg (mcells v v5)) ∧ Kd.R k51 51 w' w.heap.size (fun _ => True) v (wordsN pl 111) ∧ Kd.R k91 91 w' w.heap.size (fun _ => True) v5 [⟨⟨#[]⟩, [], -1, [], []⟩] ∧ Below w.heap.size w w') Exit.ret { tmps := tmps, defers := [{ target := .collected D, args := #[] }] } X := by
  have g0 : X.heap[w.heap.size]? = some (.cells (mcells (.slice Av 111 cv) (.slice A5 1 c5)) 32 (0, 0)) := by
    have h := setAll_blk [.slice none 0 0, .slice none 0 0, .slice Av 111 cv, .slice none 0 0, .int .u32 16, .slice A5 1 c5, .int .i64 (-1), .slice none 0 0, .int .i64 (-1), .string ⟨#[]⟩] 0 W _ hz
    rw [← hX] at h
    rw [h]
    simp [setA, mcells]
  have g1 : Kd.R k51 51 X w.heap.size (fun _ => True) (.slice Av 111 cv) (wordsN pl 111) := by rw [hX]; exact setAll_R (by decide) _ 0 W _ hz hr1
  have g2 : Kd.R k91 91 X w.heap.size (fun _ => True) (.slice A5 1 c5) [⟨⟨#[]⟩, [], -1, [], []⟩] := by rw [hX]; exact setAll_R (by decide) _ 0 W _ hz hr2
  have g3 : Below w.heap.size w X := by rw [hX]; exact setAll_below (Nat.le_refl _) _ 0 W hb
  have g4 : X.heap[D]? = some (.deferred (some [])) := by rw [hX]; exact (setAll_keeps (g := w.heap.size) _ 0 W (KeepsOthers.refl W)).same D _ hK rfl
  clear hX hz hr1 hr2 hb hK
  have hu32 := Try.underlying32
  refine ⟨by simp, .inl ⟨_, _, rfl, run_takeDeferred g4, ?_⟩⟩
  have hne : w.heap.size ≠ D := by omega
  refine ⟨.agg (mcells (.slice Av 111 cv) (.slice A5 1 c5)), ?_, .slice Av 111 cv, .slice A5 1 c5, rfl, R_putD g1 g4 rfl, R_putD g2 g4 rfl, g3.trans (belowK_b (w := w) (Nat.le_refl _) X D _ _ (by omega) g4 rfl rfl)⟩
  exact results_cell_row Try.results12 tmps _ w.heap.size 32 (mcells (.slice Av 111 cv) (.slice A5 1 c5)) (0, 0) _ h0 ((World.putObj_heap_other hne).trans g0) hu32 rfl (by kernel_rfl)
set_option maxHeartbeats 4000000 in
set_option maxRecDepth 100000 in
theorem new_calls (pl : List S37) (hlen : pl.length = 111) (HP : ∀ X, Calls Try.prog 14 #[] X fun e w' => e = .returned (.slice (some ⟨X.heap.size, 0, none⟩) 111 111) ∧ w' = X.alloc (.cells (flat37 pl).toArray 37 (0, 0))) (w : World) :
    Calls Try.prog 12 #[] w fun e w' => ∃ v v5, e = .returned (.agg (mcells v v5)) ∧ Kd.R k51 51 w' w.heap.size (fun _ => True) v (wordsN pl 111) ∧ Kd.R k91 91 w' w.heap.size (fun _ => True) v5 [⟨⟨#[]⟩, [], -1, [], []⟩] ∧ Below w.heap.size w w' := by
  refine (callsIn_wide (n := 5)).1 ?_
  have hu32 := Try.underlying32
  have hu37 := Try.underlying37
  have hu51 := Try.underlying51
  have hu26 := Try.underlying26
  have mixed : Try.prog.follows Departure.mixedOrders = true := by kernel_rfl
  have HSq := Aside0.mk (fun W0 : World => prims_seq1 pl hlen HP 4 (by decide) W0)
  have HTN := Aside0.mk (fun X : World => tree_New.calls _ X rfl)
  clear HP
  have hLl : (primsV pl).length = 111 := by simp [primsV, hlen]
  refine callsIn_of_wp_marks Try.func12 rfl trivial ?_ rfl
  simp only [Try.ntmps12, List.size_toArray, List.length_cons, List.length_nil, Nat.reduceAdd, Nat.reduceSub, Array.replicate_succ, Array.replicate_zero, List.push_toArray, List.append_toArray, List.nil_append, List.cons_append]
  gi_wp2_with (refine ⟨trivial, ?_⟩; gi_at_call 35; refine (callsIn_wide.2 (HTN.out _)).mono ?_; rintro e wt ⟨v5, rfl, hT, hbt⟩; obtain ⟨A5, c5, hv5⟩ := Kd.R_slice hT; subst hv5; have HT := Aside0.mk hT; have HBT := Aside0.mk hbt; clear hT hbt)
  obtain ⟨v5, hv5⟩ : ∃ v5 : Value, v5 = .slice A5 1 c5 := ⟨_, rfl⟩
  have HTS := Aside0.mk HBT.out.size
  obtain ⟨W0, hW0⟩ : ∃ W0, W0 = wt.alloc (.cells (mcells (.slice none 0 0) v5) 32 (0, 0)) := ⟨_, rfl⟩
  have b1 : W0.heap[wt.heap.size]? = some (.cells (mcells (.slice none 0 0) v5) 32 (0, 0)) := by rw [hW0]; exact blk_new _ _
  have hB0 : Below wt.heap.size wt W0 := by rw [hW0]; exact below_alloc (Below.refl _ _) _
  have hs0 : W0.heap.size = wt.heap.size + 1 := by rw [hW0]; simp
  have e0 : wt.alloc (.cells #[.slice none 0 0, .slice none 0 0, .slice none 0 0, .slice none 0 0, .int .u32 16, .slice A5 1 c5, .int .i64 (-1), .slice none 0 0, .int .i64 (-1), .string ⟨#[]⟩] 32 (0, 0)) = W0 := by rw [hW0, hv5]; rfl
  rw [e0]
  clear hW0 e0
  refine wp_rangeL (by omega) (gf := 36) (lb := #[]) rfl (enters_of Try.func36 (by kernel_rfl) rfl)
    (HSq.out W0) abA_keeps kpB_t (fun W l o o' hl ho hoc _ => kpB_put ho hoc) ?hps
    (NewI pl v5 wt) (fun _ _ _ => False) (newI_own pl v5 wt _ (by omega)) (fun cc => fun _ _ _ _ h _ _ => h) (newI_abs pl v5 wt) (fun _ _ _ _ h _ => h)
    ⟨⟨.slice none 0 0, b1, Kd.R_nil _ _ _ _ _⟩, hB0⟩
    (AxP pl wt.heap.size (fun k b x => #[.pointer (some ⟨w.heap.size, 0, none⟩), .pointer (some ⟨wt.heap.size, 0, none⟩), undef, .pointer (some ⟨b, 0, none⟩), .slice A5 1 c5, .agg #[.slice none 0 0, .slice none 0 0, .slice none 0 0, .slice none 0 0, .int .u32 16, .slice A5 1 c5, .int .i64 (-1), .slice none 0 0, .int .i64 (-1), .string ⟨#[]⟩], .int .i64 (k : Int), .agg #[.string x.f0, .int .i64 x.f1], undef, undef, undef, undef, undef, undef, undef, undef])) (fun k a' W l o o' hl ho hc h => axP_put _ _ _ k a' W l o o' ho hc h) ?assign ?body ?done ?stop
  case hps =>
    intro x hx
    obtain ⟨p, _, rfl⟩ := List.mem_map.1 hx
    rfl
  case assign =>
    intro l' k hk W K hI hK
    obtain ⟨x, hx⟩ : ∃ x, x = pl.getD k z37 := ⟨_, rfl⟩
    have e : (primsV pl)[k] = #[.int .i64 k, .agg #[.string x.f0, .int .i64 x.f1]] := by rw [hx]; simp [primsV, pV]
    rw [e]
    have hab : AbA W (W.alloc (.cells #[.string x.f0, .int .i64 x.f1] 37 (0, 0))) := below_alloc (Below.refl _ _) _
    have hK2 := hK _ (W.alloc (.cells #[.string x.f0, .int .i64 x.f1] 37 (0, 0))) ⟨W.heap.size, hI.2.size, by rw [← hx]; exact blk_new W _, rfl⟩ (KeepsOthers.alloc _ _) (kpB_below hab) (newI_abs pl v5 wt k _ _ hI hab)
    rw [← hx] at hK2
    clear e hx hK hI
    gi_wp2
    exact hK2
  case body =>
    rintro l' k a' W hk0 ⟨b, hb0, hbx, rfl⟩ ⟨⟨v, h1, hRv⟩, hB⟩
    have hk : k < 111 := by omega
    obtain ⟨x, hx⟩ : ∃ x, x = pl.getD k z37 := ⟨_, rfl⟩
    rw [← hx] at hbx
    simp only [← hx]
    have HX := Aside0.mk hx
    obtain ⟨Av, cv, hv⟩ := Kd.R_slice hRv
    obtain ⟨xs, hxs⟩ : ∃ xs, xs = wordsN pl k := ⟨_, rfl⟩
    rw [← hxs] at hRv hv
    have HXS := Aside0.mk hxs
    have HXL := Aside0.mk (show xs.length = k by rw [hxs]; exact wordsN_len pl k (by omega))
    subst hv
    clear hx hxs
    have HS := Aside0.mk (show ∀ Y : World, Below W.heap.size W Y → Y.cell? ⟨wt.heap.size, 2, none⟩ = some (.slice Av xs.length cv) ∧ Y.cell? ⟨b, 0, none⟩ = some (.string x.f0) ∧ Y.cell? ⟨b, 1, none⟩ = some (.int .i64 x.f1) from fun Y hY => ⟨(blk_cell (blk_below h1 hY) 2).trans rfl, (blk_cell (blk_below hbx hY) 0).trans rfl, (blk_cell (blk_below hbx hY) 1).trans rfl⟩)
    have hHeld0 := below_drew1 (Below.refl W.heap.size W)
    gi_wp2
    refine start_in (m := 8) (S := fun w' => Below W.heap.size W w') (ds := [5, 7]) #[false, false, false, false, false, false, false, false] (by kernel_rfl) rfl rfl hHeld0 (by kernel_rfl) (fun ⟨_, _, h⟩ => h) (fun hHeld => ?_)
    refine pure_ (i := 0) (N := some 8) (v := ?_) (a' := ?_) #[true, false, false, false, false, false, false, false] rfl rfl (by kernel_rfl) (fun _ _ _ h => h) (Or.inl ⟨by rfl, ?_⟩) ?_ ?_
    rotate_left
    · intro w'
      go_simp
      with_reducible rfl
    rotate_left
    · simp only [Act.put, List.setIfInBounds_toArray, List.set_cons_zero, List.set_cons_succ]
      rfl
    refine take_ (i := 1) (N := some 9) (v := .slice Av xs.length cv) (a' := ?_) #[true, true, false, false, false, false, false, false] rfl rfl (by kernel_rfl) (fun _ _ _ h => h) (Or.inl ⟨by rfl, ?_⟩) hHeld ?_ ?_
    rotate_left
    rotate_left
    · simp only [Act.put, List.setIfInBounds_toArray, List.set_cons_zero, List.set_cons_succ]
      rfl
    rotate_left
    · rintro w' s0
      have y := (HS.out _ s0).1
      go_simp
    refine take_ (i := 2) (N := some 10) (v := .agg #[.string x.f0, .int .i64 x.f1]) (a' := ?_) #[true, true, true, false, false, false, false, false] rfl rfl (by kernel_rfl) (fun _ _ _ h => h) (Or.inl ⟨by rfl, ?_⟩) hHeld ?_ ?_
    rotate_left
    rotate_left
    · simp only [Act.put, List.setIfInBounds_toArray, List.set_cons_zero, List.set_cons_succ]
      rfl
    rotate_left
    · rintro w' s0
      have y0 := (HS.out _ s0).2.1
      have y1 := (HS.out _ s0).2.2
      go_simp
    refine one_ (i := 3) (N := some 11) #[true, true, true, true, false, false, false, false] rfl rfl (by kernel_rfl) (by decide) (fun K hK => ?_)
    refine goes_ Try.func37 (by kernel_rfl) rfl #[.agg #[.string x.f0, .int .i64 x.f1]] (by rfl) rfl rfl (by first | rfl | (simp only [List.map_toArray, List.map_cons, List.map_nil]; rfl)) ?_
    refine (word_exact x.f0 x.f1 _).mono ?_
    rintro e X ⟨rfl, hbX⟩
    have hHX : Below W.heap.size W X := below_step hHeld hbX
    refine ⟨_, rfl, hK.out _ _ hHX (fun hHeld => ?_)⟩
    clear hK K
    simp only [Act.put, List.setIfInBounds_toArray, List.set_cons_zero, List.set_cons_succ]
    refine one_ (i := 4) (N := some 12) #[true, true, true, true, true, false, false, false] rfl rfl (by kernel_rfl) (by decide) (fun K hK => ?_)
    refine event_stepN (by rfl) rfl (v := .slice (some ⟨X.heap.size, 0, none⟩) 1 1) (w1 := X.alloc (.cells #[.string x.f0, .int .i64 (-1), .int .i64 1, .int .u32 (x.f1 % 4294967296), .slice none 0 0] 51 (0, 0))) (by first | (go_simp; done) | (go_simp; rfl)) (hK.out _ _ (below_alloc hHX _) (fun hHeld => ?_))
    clear hK K
    simp only [Act.put, List.setIfInBounds_toArray, List.set_cons_zero, List.set_cons_succ]
    have hRX : Kd.R k51 51 X (wt.heap.size + 1) (fun _ => True) (.slice Av xs.length cv) xs := Kd.R_below hRv hHX
    have hBX : Below wt.heap.size wt X := below_step hB hHX
    refine last_ (i := 5) (N := some 13) #[true, true, true, true, true, true, false, false] rfl rfl (by kernel_rfl) (by decide) (fun K hK => ?_)
    refine Kd.R_append_step k51 (w0 := X) (wt.heap.size + 1) (by rfl) (.tmp 9) (.tmp 12) 26 51 _ 64 rfl hu26 info51 rfl (by decide) (by decide) (.slice Av xs.length cv) xs (wordOf x) [.string x.f0, .int .i64 (-1), .int .i64 1, .int .u32 (x.f1 % 4294967296), .slice none 0 0] (fun _ => True) (fun _ => False) rfl rfl (k51_mkM _ _ _ (wordOf x) (Kd.R_nil _ _ _ _ _)) (fun _ h => h.elim) (fun _ _ => trivial) hRX (Below.refl _ _) ?_ (by have := HXL.out; omega) ?_
    · have := blk_lt (blk_below h1 hHX); omega
    intro v1 w1 ho hb hg hat
    refine hK.out _ _ ?_
    clear hK K
    simp only [Act.put, List.getElem_toArray, List.getElem_cons_succ, List.getElem_cons_zero, List.setIfInBounds_toArray, List.set_cons_zero, List.set_cons_succ]
    have hty : ∀ g, some g = (Value.slice Av xs.length cv).ownBlock → ∃ cells, X.heap[g]? = some (.cells cells 51 (0, 0)) := fun g e => (by obtain ⟨_, inner, hown, _⟩ := hRX; exact own_typed hown g e.symm)
    have h1X := blk_below h1 hHX
    have h1w : w1.heap[wt.heap.size]? = some (.cells (mcells (.slice Av xs.length cv) v5) 32 (0, 0)) := blk_grown h1X hg (fun e => by obtain ⟨cc, hcc⟩ := hty _ e; rw [h1X] at hcc; cases hcc)
    have hc1 := (blk_cell h1w 2).trans rfl
    have hf1 := blk_frozen h1w 2
    have HO := Aside0.mk ho
    clear ho
    refine pure_ (i := 6) (N := some 14) (v := ?_) (a' := ?_) #[true, true, true, true, true, true, true, false] rfl rfl (by kernel_rfl) (fun _ _ _ h => h) (Or.inl ⟨by rfl, ?_⟩) ?_ ?_
    rotate_left
    · intro w'
      go_simp
      with_reducible rfl
    rotate_left
    · simp only [Act.put, List.setIfInBounds_toArray, List.set_cons_zero, List.set_cons_succ]
      rfl
    refine last_ (i := 7) (N := none) #[true, true, true, true, true, true, true, true] rfl rfl (by kernel_rfl) (by decide) (fun K hK => ?_)
    refine skip_stepN (by rfl) rfl (w1 := w1.setCell ⟨wt.heap.size, 2, none⟩ v1) ?_ (hK.out _ _ ?_)
    · obtain ⟨Aw, cw, rfl⟩ := Kd.R_slice HO.out
      first | (go_simp; done) | (go_simp; rfl)
    clear hK K
    refine done_ (n := 0) (by kernel_rfl) ?_
    refine ⟨?_, fun cc e => ?_, ⟨v1, blk_put h1w 2 v1 rfl, ?_⟩, below_set (hBX.trans (hb.mono (Nat.le_succ _))) (Nat.le_refl _)⟩
    · exact ((KeepsOthers.of_grownBy (grown_of_below hHX none) (fun _ _ h => by cases h)).trans (KeepsOthers.of_grownBy hg (fun j o hj hjo => by obtain ⟨cc, hcc⟩ := hty j hj.symm; rw [hcc] at hjo; cases hjo; rfl))).trans (KeepsOthers.setCell _ _ _)
    · exact blk_far (blk_grown (blk_below e hHX) hg (fun e2 => by obtain ⟨c3, hcc⟩ := hty _ e2; rw [blk_below e hHX] at hcc; cases hcc)) (by show W0.heap.size + 2 ≠ wt.heap.size; omega) _
    · rw [wordsN_succ pl k (by omega), ← HX.out, ← HXS.out]
      exact Kd.R_set HO.out h1w (by decide) 2 v1
  case done =>
    rintro D W hD ⟨⟨v, h1, hRv⟩, hB⟩ hK
    have h0 := blk_below (blk_below (blk_new w (.cells #[.slice none 0 0, .slice none 0 0, .slice none 0 0, .slice none 0 0, .int .u32 0, .slice none 0 0, .int .i64 0, .slice none 0 0, .int .i64 0, .string ⟨#[]⟩] 32 (0, 0))) HBT.out) hB
    have hT := Kd.R_below HT.out hB
    rw [hLl] at hRv
    have HRV := Aside0.mk hRv
    have HTT := Aside0.mk hT
    have H0 := Aside0.mk h0
    obtain ⟨Av, cv, hv⟩ := Kd.R_slice hRv
    have hlw : (wordsN pl 111).length = 111 := wordsN_len pl 111 (by omega)
    rw [hlw] at hv
    have HLW := Aside0.mk hlw
    subst hv
    subst hv5
    have z0 : W.cell? ⟨wt.heap.size, 0, none⟩ = some (.slice none 0 0) := (blk_cell h1 0).trans rfl
    have z1 : W.cell? ⟨wt.heap.size, 1, none⟩ = some (.slice none 0 0) := (blk_cell h1 1).trans rfl
    have z2 : W.cell? ⟨wt.heap.size, 2, none⟩ = some (.slice Av 111 cv) := (blk_cell h1 2).trans rfl
    have z3 : W.cell? ⟨wt.heap.size, 3, none⟩ = some (.slice none 0 0) := (blk_cell h1 3).trans rfl
    have z4 : W.cell? ⟨wt.heap.size, 4, none⟩ = some (.int .u32 16) := (blk_cell h1 4).trans rfl
    have z5 : W.cell? ⟨wt.heap.size, 5, none⟩ = some (.slice A5 1 c5) := (blk_cell h1 5).trans rfl
    have z6 : W.cell? ⟨wt.heap.size, 6, none⟩ = some (.int .i64 (-1)) := (blk_cell h1 6).trans rfl
    have z7 : W.cell? ⟨wt.heap.size, 7, none⟩ = some (.slice none 0 0) := (blk_cell h1 7).trans rfl
    have z8 : W.cell? ⟨wt.heap.size, 8, none⟩ = some (.int .i64 (-1)) := (blk_cell h1 8).trans rfl
    have z9 : W.cell? ⟨wt.heap.size, 9, none⟩ = some (.string ⟨#[]⟩) := (blk_cell h1 9).trans rfl
    have y0 := (blk_cell h0 0).trans rfl
    have f0 := blk_frozen h0 0
    have y1 := (blk_cell h0 1).trans rfl
    have f1 := blk_frozen h0 1
    have y2 := (blk_cell h0 2).trans rfl
    have f2 := blk_frozen h0 2
    have y3 := (blk_cell h0 3).trans rfl
    have f3 := blk_frozen h0 3
    have y4 := (blk_cell h0 4).trans rfl
    have f4 := blk_frozen h0 4
    have y5 := (blk_cell h0 5).trans rfl
    have f5 := blk_frozen h0 5
    have y6 := (blk_cell h0 6).trans rfl
    have f6 := blk_frozen h0 6
    have y7 := (blk_cell h0 7).trans rfl
    have f7 := blk_frozen h0 7
    have y8 := (blk_cell h0 8).trans rfl
    have f8 := blk_frozen h0 8
    have y9 := (blk_cell h0 9).trans rfl
    have f9 := blk_frozen h0 9
    clear hlw hRv hT
    gi_wp2
    have hsz := HBT.out.size
    rw [World.size_alloc] at hsz
    have hb9 : Below w.heap.size w W := (below_alloc (Below.refl w.heap.size w) _).trans ((HBT.out.mono (by rw [World.size_alloc]; exact Nat.le_succ _)).trans (hB.mono (by omega)))
    exact new_end pl w W _ D (by omega) Av cv A5 c5 _ rfl hK H0.out (Kd.R_lower HRV.out (by omega)) (Kd.R_lower HTT.out (by rw [World.size_alloc]; omega)) hb9 rfl
  case stop =>
    rintro D cc k W hD hkk h hK
    exact h.elim
end Go.Proofs.Ytfpkakedlapmkaa.Q
end
