/- Contracts of Go functions and plain facts, of several texts, one behind the other; no condition. -/
import Derived.Test.YtfpkakedlapmkaaProg
import Derived.Below
import Derived.Deep.Draws
import Derived.Deep.AppendLies
import Derived.Maps.AppendAt
import Derived.OwnWalk
import Derived.Laws.BytesArg
import Derived.Laws.MakeOwn
import Derived.Laws.OwnMore
import Derived.Deep.OwnRows
import Derived.Tactics
import Derived.Lib.ConvBytes
import Derived.Laws.Slices
import Derived.WalkKit
import Derived.KernelRfl
import Derived.RowKit3
import Derived.Deep.LoopGhost
import Derived.Deep.QuietTactic
import Derived.BigQuiet
import Derived.WideLaws
import Derived.Deep.DeepCutAuto
import Derived.Deep.CutBlock
import Derived.Deep.RegionHeld3
import Derived.Laws.Rows
import Derived.Lib.AppendStr
import Derived.ArgAppend
import Derived.Laws.IdiomCopy
import Derived.OrdersHeld
import Derived.Laws.BitsLemmas
import Derived.RowKit
import Derived.Test.YtfpkakedlapmkaaMDictForms1
import Derived.RangeFuncNested
import Derived.RangeFuncBound
import Derived.RangeFuncCalls
import Derived.RangeFuncLeaves
import Derived.OwnWalkIn
import Derived.OrdersIn
import Derived.Shelf.Abstract
import Derived.WalkSpells
import Derived.Laws.CopyOwn
import Derived.TacticsInMore
import Derived.LoopNIn
import Derived.LoopIn
import Derived.Sort.QuietIn
import Derived.RangeFuncWrites
import Derived.RangeFuncBox
section
namespace Go.Proofs.Ytfpkakedlapmkaa.Q
open Go.RowKit Go.Proofs.YtfpkakedlapmkaaW.PrintWords Go.Proofs.YtfpkakedlapmkaaW.PrintLast Go.Proofs.YtfpkakedlapmkaaW.PrintMore
set_option linter.unusedVariables false
set_option linter.unusedSimpArgs false

def errW : Option Int → Value
 | none => .nilIface
 | some c => .iface 0 (.int .i64 c)
theorem errW_none : errW none = .nilIface := rfl
theorem errW_some (c : Int) : errW (some c) = .iface 0 (.int .i64 c) := rfl

theorem info3 : (Try.prog.info? 3).map (fun i => (i.zero, i.size, i.bytes)) = some (some (.int .i64 0), 1, 8) := by kernel_rfl
theorem info5 : (Try.prog.info? 5).map (fun i => (i.zero, i.size, i.bytes)) = some (some (.int .u8 0), 1, 1) := by kernel_rfl
theorem info28 : (Try.prog.info? 28).map (fun i => (i.zero, i.size, i.bytes)) = some (some (.int .u32 0), 1, 4) := by kernel_rfl
theorem info51 : (Try.prog.info? 51).map (fun i => (i.zero, i.size, i.bytes)) = some (some (.agg #[(.string ⟨#[]⟩), (.int .i64 0), (.int .i64 0), (.int .u32 0), (.slice none 0 0)]), 5, 64) := by kernel_rfl
theorem info69 : (Try.prog.info? 69).map (fun i => (i.zero, i.size, i.bytes)) = some (some (.agg #[(.int .i64 0), (.int .u32 0)]), 2, 16) := by kernel_rfl
theorem info82 : (Try.prog.info? 82).map (fun i => (i.zero, i.size, i.bytes)) = some (some (.agg #[(.int .i64 0), (.int .i64 0), (.string ⟨#[]⟩), (.slice none 0 0)]), 4, 56) := by kernel_rfl
theorem info91 : (Try.prog.info? 91).map (fun i => (i.zero, i.size, i.bytes)) = some (some (.agg #[(.string ⟨#[]⟩), (.slice none 0 0), (.int .i64 0), (.slice none 0 0), (.slice none 0 0)]), 5, 96) := by kernel_rfl
theorem info106 : (Try.prog.info? 106).map (fun i => (i.zero, i.size, i.bytes)) = some (some (.agg #[(.string ⟨#[]⟩), (.slice none 0 0)]), 2, 40) := by kernel_rfl
-- the values' own types
/-! #### struct type 7 -/
structure S7 where
 f0 : Int
 f1 : Int
 f2 : Bool
 f3 : Int
def z7 : S7 := ⟨(0 : Int), (0 : Int), false, (0 : Int)⟩
def k7 : Kd S7 := Kd.iso (Kd.pair (Kd.int .i64) (Kd.pair (Kd.int .i64) (Kd.pair Kd.bool (Kd.int .u8)))) (fun x : S7 => (x.f0, x.f1, x.f2, x.f3))
def rd_T7 (xs : List S7) (i : Int) : S7 := xs.getD i.toNat z7

/-! #### struct type 8 -/
structure S8 where
 f0 : Int
 f1 : Int
 f2 : Bool
 f3 : Int
def z8 : S8 := ⟨(0 : Int), (0 : Int), false, (0 : Int)⟩
def k8 : Kd S8 := Kd.iso (Kd.pair (Kd.int .i64) (Kd.pair (Kd.int .i64) (Kd.pair Kd.bool (Kd.int .u8)))) (fun x : S8 => (x.f0, x.f1, x.f2, x.f3))
def rd_T8 (xs : List S8) (i : Int) : S8 := xs.getD i.toNat z8

/-! #### struct type 13 -/
structure S13 where
 f0 : ByteArray
 f1 : Int
def z13 : S13 := ⟨(⟨#[]⟩ : ByteArray), (0 : Int)⟩
def k13 : Kd S13 := Kd.iso (Kd.pair Kd.string (Kd.int .u64)) (fun x : S13 => (x.f0, x.f1))
def rd_T13 (xs : List S13) (i : Int) : S13 := xs.getD i.toNat z13

/-! #### struct type 14 -/
structure S14 where
 f0 : ByteArray
 f1 : Int
def z14 : S14 := ⟨(⟨#[]⟩ : ByteArray), (0 : Int)⟩
def k14 : Kd S14 := Kd.iso (Kd.pair Kd.string (Kd.int .u64)) (fun x : S14 => (x.f0, x.f1))
def rd_T14 (xs : List S14) (i : Int) : S14 := xs.getD i.toNat z14

def rd_L11 (xs : List (List Int)) (i : Int) : (List Int) := xs.getD i.toNat ([] : List Int)

def rd_L12 (xs : List (List Int)) (i : Int) : (List Int) := xs.getD i.toNat ([] : List Int)

/-! #### struct type 69 -/
structure S69 where
 f0 : Int
 f1 : Int
def z69 : S69 := ⟨(0 : Int), (0 : Int)⟩
def k69 : Kd S69 := Kd.iso (Kd.pair (Kd.int .i64) (Kd.int .u32)) (fun x : S69 => (x.f0, x.f1))
theorem k69_open {w : World} {x : S69} {cs : List Value} (h : k69.K w x cs) : cs = [.int .i64 x.f0, .int .u32 x.f1] := by
 obtain ⟨_, _, rfl, rfl, rfl⟩ := h
 exact rfl
def rd_T69 (xs : List S69) (i : Int) : S69 := xs.getD i.toNat z69
theorem at_T69 {w : World} {A : Option Addr} {n : Nat} {xs : List S69} (h : Kd.C k69 w A n xs) (i : Int) (h0 : 0 ≤ i) (h1 : i < n) : ∃ ad , A = some ad ∧ w.cell? (ad.add (i.toNat * 2)) = some (.int .i64 (rd_T69 xs i).f0) ∧ w.cell? ⟨(ad.add (i.toNat * 2)).block, (ad.add (i.toNat * 2)).off + 1, none⟩ = some (.int .u32 (rd_T69 xs i).f1) := by
 obtain ⟨ad, c, e, _, hK, hc0⟩ := Kd.C_get h z69 i h0 h1
 have hc : ∀ j u, c[j]? = some u → w.cell? (ad.add (i.toNat * 2 + j)) = some u := hc0
 obtain rfl := k69_open hK
 exact ⟨ad, e, hc 0 _ rfl, by rw [← add_field _ _ 1 (by omega)]; exact hc 1 _ rfl⟩

def rd_L14 (xs : List (List S69)) (i : Int) : (List S69) := xs.getD i.toNat ([] : List S69)

/-! #### struct type 51 -/
structure S51 where
 f0 : ByteArray
 f1 : Int
 f2 : Int
 f3 : Int
 f4 : (List S69)
def z51 : S51 := ⟨(⟨#[]⟩ : ByteArray), (0 : Int), (0 : Int), (0 : Int), ([] : List S69)⟩
def k51 : Kd S51 := Kd.iso (Kd.pair Kd.string (Kd.pair (Kd.int .i64) (Kd.pair (Kd.int .i64) (Kd.pair (Kd.int .u32) (Kd.slice 69 k69))))) (fun x : S51 => (x.f0, x.f1, x.f2, x.f3, x.f4))
theorem k51_open {w : World} {x : S51} {cs : List Value} (h : k51.K w x cs) : ∃ A4 c4, cs = [.string x.f0, .int .i64 x.f1, .int .i64 x.f2, .int .u32 x.f3, .slice A4 x.f4.length c4] ∧ x.f4.length ≤ c4 ∧ k69.C w A4 x.f4.length x.f4 := by
 obtain ⟨_, _, rfl, rfl, ⟨_, _, rfl, rfl, ⟨_, _, rfl, rfl, ⟨_, _, rfl, rfl, ⟨A4, c4, rfl, l4, g4⟩⟩⟩⟩⟩ := h
 exact ⟨A4, c4, rfl, l4, g4⟩
theorem k51_mkM (w : World) (base : Nat) (ok : Nat → Prop) (x : S51) {v4 : Value} (g4 : k69.R 69 w base ok v4 x.f4) : k51.M w base ok x [.string x.f0, .int .i64 x.f1, .int .i64 x.f2, .int .u32 x.f3, v4] := ⟨[.string x.f0], [.int .i64 x.f1, .int .i64 x.f2, .int .u32 x.f3, v4], rfl, rfl, ⟨[.int .i64 x.f1], [.int .i64 x.f2, .int .u32 x.f3, v4], rfl, rfl, ⟨[.int .i64 x.f2], [.int .u32 x.f3, v4], rfl, rfl, ⟨[.int .u32 x.f3], [v4], rfl, rfl, ⟨v4, rfl, g4⟩⟩⟩⟩⟩
def rd_T51 (xs : List S51) (i : Int) : S51 := xs.getD i.toNat z51
theorem at_T51 {w : World} {A : Option Addr} {n : Nat} {xs : List S51} (h : Kd.C k51 w A n xs) (i : Int) (h0 : 0 ≤ i) (h1 : i < n) : ∃ ad A4 c4, A = some ad ∧ w.cell? (ad.add (i.toNat * 5)) = some (.string (rd_T51 xs i).f0) ∧ w.cell? ⟨(ad.add (i.toNat * 5)).block, (ad.add (i.toNat * 5)).off + 1, none⟩ = some (.int .i64 (rd_T51 xs i).f1) ∧ w.cell? ⟨(ad.add (i.toNat * 5)).block, (ad.add (i.toNat * 5)).off + 2, none⟩ = some (.int .i64 (rd_T51 xs i).f2) ∧ w.cell? ⟨(ad.add (i.toNat * 5)).block, (ad.add (i.toNat * 5)).off + 3, none⟩ = some (.int .u32 (rd_T51 xs i).f3) ∧ w.cell? ⟨(ad.add (i.toNat * 5)).block, (ad.add (i.toNat * 5)).off + 4, none⟩ = some (.slice A4 (rd_T51 xs i).f4.length c4) ∧ (rd_T51 xs i).f4.length ≤ c4 ∧ k69.C w A4 (rd_T51 xs i).f4.length (rd_T51 xs i).f4 := by
 obtain ⟨ad, c, e, _, hK, hc0⟩ := Kd.C_get h z51 i h0 h1
 have hc : ∀ j u, c[j]? = some u → w.cell? (ad.add (i.toNat * 5 + j)) = some u := hc0
 obtain ⟨A4, c4, rfl, l4, g4⟩ := k51_open hK
 exact ⟨ad, A4, c4, e, hc 0 _ rfl, by rw [← add_field _ _ 1 (by omega)]; exact hc 1 _ rfl, by rw [← add_field _ _ 2 (by omega)]; exact hc 2 _ rfl, by rw [← add_field _ _ 3 (by omega)]; exact hc 3 _ rfl, by rw [← add_field _ _ 4 (by omega)]; exact hc 4 _ rfl, l4, g4⟩

def rd_L16 (xs : List (List S51)) (i : Int) : (List S51) := xs.getD i.toNat ([] : List S51)

def rd_L17 (xs : List (List Int)) (i : Int) : (List Int) := xs.getD i.toNat ([] : List Int)

/-! #### struct type 106 -/
structure S106 where
 f0 : ByteArray
 f1 : (List Int)
def z106 : S106 := ⟨(⟨#[]⟩ : ByteArray), ([] : List Int)⟩
def k106 : Kd S106 := Kd.iso (Kd.pair Kd.string (Kd.slice 5 (Kd.int .u8))) (fun x : S106 => (x.f0, x.f1))
theorem k106_open {w : World} {x : S106} {cs : List Value} (h : k106.K w x cs) : ∃ A1 c1, cs = [.string x.f0, .slice A1 x.f1.length c1] ∧ x.f1.length ≤ c1 ∧ (Kd.int .u8).C w A1 x.f1.length x.f1 := by
 obtain ⟨_, _, rfl, rfl, ⟨A1, c1, rfl, l1, g1⟩⟩ := h
 exact ⟨A1, c1, rfl, l1, g1⟩
theorem k106_mkM (w : World) (base : Nat) (ok : Nat → Prop) (x : S106) {v1 : Value} (g1 : (Kd.int .u8).R 5 w base ok v1 x.f1) : k106.M w base ok x [.string x.f0, v1] := ⟨[.string x.f0], [v1], rfl, rfl, ⟨v1, rfl, g1⟩⟩
def rd_T106 (xs : List S106) (i : Int) : S106 := xs.getD i.toNat z106
theorem at_T106 {w : World} {A : Option Addr} {n : Nat} {xs : List S106} (h : Kd.C k106 w A n xs) (i : Int) (h0 : 0 ≤ i) (h1 : i < n) : ∃ ad A1 c1, A = some ad ∧ w.cell? (ad.add (i.toNat * 2)) = some (.string (rd_T106 xs i).f0) ∧ w.cell? ⟨(ad.add (i.toNat * 2)).block, (ad.add (i.toNat * 2)).off + 1, none⟩ = some (.slice A1 (rd_T106 xs i).f1.length c1) ∧ (rd_T106 xs i).f1.length ≤ c1 ∧ (Kd.int .u8).C w A1 (rd_T106 xs i).f1.length (rd_T106 xs i).f1 := by
 obtain ⟨ad, c, e, _, hK, hc0⟩ := Kd.C_get h z106 i h0 h1
 have hc : ∀ j u, c[j]? = some u → w.cell? (ad.add (i.toNat * 2 + j)) = some u := hc0
 obtain ⟨A1, c1, rfl, l1, g1⟩ := k106_open hK
 exact ⟨ad, A1, c1, e, hc 0 _ rfl, by rw [← add_field _ _ 1 (by omega)]; exact hc 1 _ rfl, l1, g1⟩

def rd_L19 (xs : List (List S106)) (i : Int) : (List S106) := xs.getD i.toNat ([] : List S106)

/-! #### struct type 91 -/
structure S91 where
 f0 : ByteArray
 f1 : (List Int)
 f2 : Int
 f3 : (List S106)
 f4 : (List Int)
def z91 : S91 := ⟨(⟨#[]⟩ : ByteArray), ([] : List Int), (0 : Int), ([] : List S106), ([] : List Int)⟩
def k91 : Kd S91 := Kd.iso (Kd.pair Kd.string (Kd.pair (Kd.slice 28 (Kd.int .u32)) (Kd.pair (Kd.int .i64) (Kd.pair (Kd.slice 106 k106) (Kd.slice 28 (Kd.int .u32)))))) (fun x : S91 => (x.f0, x.f1, x.f2, x.f3, x.f4))
theorem k91_open {w : World} {x : S91} {cs : List Value} (h : k91.K w x cs) : ∃ A1 c1 A3 c3 A4 c4, cs = [.string x.f0, .slice A1 x.f1.length c1, .int .i64 x.f2, .slice A3 x.f3.length c3, .slice A4 x.f4.length c4] ∧ x.f1.length ≤ c1 ∧ (Kd.int .u32).C w A1 x.f1.length x.f1 ∧ x.f3.length ≤ c3 ∧ k106.C w A3 x.f3.length x.f3 ∧ x.f4.length ≤ c4 ∧ (Kd.int .u32).C w A4 x.f4.length x.f4 := by
 obtain ⟨_, _, rfl, rfl, ⟨_, _, rfl, ⟨A1, c1, rfl, l1, g1⟩, ⟨_, _, rfl, rfl, ⟨_, _, rfl, ⟨A3, c3, rfl, l3, g3⟩, ⟨A4, c4, rfl, l4, g4⟩⟩⟩⟩⟩ := h
 exact ⟨A1, c1, A3, c3, A4, c4, rfl, l1, g1, l3, g3, l4, g4⟩
theorem k91_mkM (w : World) (base : Nat) (ok : Nat → Prop) (x : S91) {v1 : Value} (g1 : (Kd.int .u32).R 28 w base ok v1 x.f1) {v3 : Value} (g3 : k106.R 106 w base ok v3 x.f3) {v4 : Value} (g4 : (Kd.int .u32).R 28 w base ok v4 x.f4) : k91.M w base ok x [.string x.f0, v1, .int .i64 x.f2, v3, v4] := ⟨[.string x.f0], [v1, .int .i64 x.f2, v3, v4], rfl, rfl, ⟨[v1], [.int .i64 x.f2, v3, v4], rfl, ⟨v1, rfl, g1⟩, ⟨[.int .i64 x.f2], [v3, v4], rfl, rfl, ⟨[v3], [v4], rfl, ⟨v3, rfl, g3⟩, ⟨v4, rfl, g4⟩⟩⟩⟩⟩
def rd_T91 (xs : List S91) (i : Int) : S91 := xs.getD i.toNat z91
theorem at_T91 {w : World} {A : Option Addr} {n : Nat} {xs : List S91} (h : Kd.C k91 w A n xs) (i : Int) (h0 : 0 ≤ i) (h1 : i < n) : ∃ ad A1 c1 A3 c3 A4 c4, A = some ad ∧ w.cell? (ad.add (i.toNat * 5)) = some (.string (rd_T91 xs i).f0) ∧ w.cell? ⟨(ad.add (i.toNat * 5)).block, (ad.add (i.toNat * 5)).off + 1, none⟩ = some (.slice A1 (rd_T91 xs i).f1.length c1) ∧ w.cell? ⟨(ad.add (i.toNat * 5)).block, (ad.add (i.toNat * 5)).off + 2, none⟩ = some (.int .i64 (rd_T91 xs i).f2) ∧ w.cell? ⟨(ad.add (i.toNat * 5)).block, (ad.add (i.toNat * 5)).off + 3, none⟩ = some (.slice A3 (rd_T91 xs i).f3.length c3) ∧ w.cell? ⟨(ad.add (i.toNat * 5)).block, (ad.add (i.toNat * 5)).off + 4, none⟩ = some (.slice A4 (rd_T91 xs i).f4.length c4) ∧ (rd_T91 xs i).f1.length ≤ c1 ∧ (Kd.int .u32).C w A1 (rd_T91 xs i).f1.length (rd_T91 xs i).f1 ∧ (rd_T91 xs i).f3.length ≤ c3 ∧ k106.C w A3 (rd_T91 xs i).f3.length (rd_T91 xs i).f3 ∧ (rd_T91 xs i).f4.length ≤ c4 ∧ (Kd.int .u32).C w A4 (rd_T91 xs i).f4.length (rd_T91 xs i).f4 := by
 obtain ⟨ad, c, e, _, hK, hc0⟩ := Kd.C_get h z91 i h0 h1
 have hc : ∀ j u, c[j]? = some u → w.cell? (ad.add (i.toNat * 5 + j)) = some u := hc0
 obtain ⟨A1, c1, A3, c3, A4, c4, rfl, l1, g1, l3, g3, l4, g4⟩ := k91_open hK
 exact ⟨ad, A1, c1, A3, c3, A4, c4, e, hc 0 _ rfl, by rw [← add_field _ _ 1 (by omega)]; exact hc 1 _ rfl, by rw [← add_field _ _ 2 (by omega)]; exact hc 2 _ rfl, by rw [← add_field _ _ 3 (by omega)]; exact hc 3 _ rfl, by rw [← add_field _ _ 4 (by omega)]; exact hc 4 _ rfl, l1, g1, l3, g3, l4, g4⟩

def rd_L21 (xs : List (List S91)) (i : Int) : (List S91) := xs.getD i.toNat ([] : List S91)

/-! #### struct type 82 -/
structure S82 where
 f0 : Int
 f1 : Int
 f2 : ByteArray
 f3 : (List Int)
def z82 : S82 := ⟨(0 : Int), (0 : Int), (⟨#[]⟩ : ByteArray), ([] : List Int)⟩
def k82 : Kd S82 := Kd.iso (Kd.pair (Kd.int .i64) (Kd.pair (Kd.int .i64) (Kd.pair Kd.string (Kd.slice 28 (Kd.int .u32))))) (fun x : S82 => (x.f0, x.f1, x.f2, x.f3))
theorem k82_open {w : World} {x : S82} {cs : List Value} (h : k82.K w x cs) : ∃ A3 c3, cs = [.int .i64 x.f0, .int .i64 x.f1, .string x.f2, .slice A3 x.f3.length c3] ∧ x.f3.length ≤ c3 ∧ (Kd.int .u32).C w A3 x.f3.length x.f3 := by
 obtain ⟨_, _, rfl, rfl, ⟨_, _, rfl, rfl, ⟨_, _, rfl, rfl, ⟨A3, c3, rfl, l3, g3⟩⟩⟩⟩ := h
 exact ⟨A3, c3, rfl, l3, g3⟩
theorem k82_mkM (w : World) (base : Nat) (ok : Nat → Prop) (x : S82) {v3 : Value} (g3 : (Kd.int .u32).R 28 w base ok v3 x.f3) : k82.M w base ok x [.int .i64 x.f0, .int .i64 x.f1, .string x.f2, v3] := ⟨[.int .i64 x.f0], [.int .i64 x.f1, .string x.f2, v3], rfl, rfl, ⟨[.int .i64 x.f1], [.string x.f2, v3], rfl, rfl, ⟨[.string x.f2], [v3], rfl, rfl, ⟨v3, rfl, g3⟩⟩⟩⟩
def rd_T82 (xs : List S82) (i : Int) : S82 := xs.getD i.toNat z82
theorem at_T82 {w : World} {A : Option Addr} {n : Nat} {xs : List S82} (h : Kd.C k82 w A n xs) (i : Int) (h0 : 0 ≤ i) (h1 : i < n) : ∃ ad A3 c3, A = some ad ∧ w.cell? (ad.add (i.toNat * 4)) = some (.int .i64 (rd_T82 xs i).f0) ∧ w.cell? ⟨(ad.add (i.toNat * 4)).block, (ad.add (i.toNat * 4)).off + 1, none⟩ = some (.int .i64 (rd_T82 xs i).f1) ∧ w.cell? ⟨(ad.add (i.toNat * 4)).block, (ad.add (i.toNat * 4)).off + 2, none⟩ = some (.string (rd_T82 xs i).f2) ∧ w.cell? ⟨(ad.add (i.toNat * 4)).block, (ad.add (i.toNat * 4)).off + 3, none⟩ = some (.slice A3 (rd_T82 xs i).f3.length c3) ∧ (rd_T82 xs i).f3.length ≤ c3 ∧ (Kd.int .u32).C w A3 (rd_T82 xs i).f3.length (rd_T82 xs i).f3 := by
 obtain ⟨ad, c, e, _, hK, hc0⟩ := Kd.C_get h z82 i h0 h1
 have hc : ∀ j u, c[j]? = some u → w.cell? (ad.add (i.toNat * 4 + j)) = some u := hc0
 obtain ⟨A3, c3, rfl, l3, g3⟩ := k82_open hK
 exact ⟨ad, A3, c3, e, hc 0 _ rfl, by rw [← add_field _ _ 1 (by omega)]; exact hc 1 _ rfl, by rw [← add_field _ _ 2 (by omega)]; exact hc 2 _ rfl, by rw [← add_field _ _ 3 (by omega)]; exact hc 3 _ rfl, l3, g3⟩

def rd_L23 (xs : List (List S82)) (i : Int) : (List S82) := xs.getD i.toNat ([] : List S82)

/-! #### struct type 31 -/
structure S31 where
 f0 : (List Int)
 f1 : (List Int)
 f2 : (List S51)
 f3 : (List Int)
 f4 : Int
 f5 : (List S91)
 f6 : Int
 f7 : (List S82)
 f8 : Int
 f9 : ByteArray
def z31 : S31 := ⟨([] : List Int), ([] : List Int), ([] : List S51), ([] : List Int), (0 : Int), ([] : List S91), (0 : Int), ([] : List S82), (0 : Int), (⟨#[]⟩ : ByteArray)⟩
def k31 : Kd S31 := Kd.iso (Kd.pair (Kd.slice 28 (Kd.int .u32)) (Kd.pair (Kd.slice 5 (Kd.int .u8)) (Kd.pair (Kd.slice 51 k51) (Kd.pair (Kd.slice 3 (Kd.int .i64)) (Kd.pair (Kd.int .u32) (Kd.pair (Kd.slice 91 k91) (Kd.pair (Kd.int .i64) (Kd.pair (Kd.slice 82 k82) (Kd.pair (Kd.int .i64) Kd.string))))))))) (fun x : S31 => (x.f0, x.f1, x.f2, x.f3, x.f4, x.f5, x.f6, x.f7, x.f8, x.f9))
def rd_T31 (xs : List S31) (i : Int) : S31 := xs.getD i.toNat z31

/-! #### struct type 32 -/
structure S32 where
 f0 : (List Int)
 f1 : (List Int)
 f2 : (List S51)
 f3 : (List Int)
 f4 : Int
 f5 : (List S91)
 f6 : Int
 f7 : (List S82)
 f8 : Int
 f9 : ByteArray
def z32 : S32 := ⟨([] : List Int), ([] : List Int), ([] : List S51), ([] : List Int), (0 : Int), ([] : List S91), (0 : Int), ([] : List S82), (0 : Int), (⟨#[]⟩ : ByteArray)⟩
def k32 : Kd S32 := Kd.iso (Kd.pair (Kd.slice 28 (Kd.int .u32)) (Kd.pair (Kd.slice 5 (Kd.int .u8)) (Kd.pair (Kd.slice 51 k51) (Kd.pair (Kd.slice 3 (Kd.int .i64)) (Kd.pair (Kd.int .u32) (Kd.pair (Kd.slice 91 k91) (Kd.pair (Kd.int .i64) (Kd.pair (Kd.slice 82 k82) (Kd.pair (Kd.int .i64) Kd.string))))))))) (fun x : S32 => (x.f0, x.f1, x.f2, x.f3, x.f4, x.f5, x.f6, x.f7, x.f8, x.f9))
theorem k32_open {w : World} {x : S32} {cs : List Value} (h : k32.K w x cs) : ∃ A0 c0 A1 c1 A2 c2 A3 c3 A5 c5 A7 c7, cs = [.slice A0 x.f0.length c0, .slice A1 x.f1.length c1, .slice A2 x.f2.length c2, .slice A3 x.f3.length c3, .int .u32 x.f4, .slice A5 x.f5.length c5, .int .i64 x.f6, .slice A7 x.f7.length c7, .int .i64 x.f8, .string x.f9] ∧ x.f0.length ≤ c0 ∧ (Kd.int .u32).C w A0 x.f0.length x.f0 ∧ x.f1.length ≤ c1 ∧ (Kd.int .u8).C w A1 x.f1.length x.f1 ∧ x.f2.length ≤ c2 ∧ k51.C w A2 x.f2.length x.f2 ∧ x.f3.length ≤ c3 ∧ (Kd.int .i64).C w A3 x.f3.length x.f3 ∧ x.f5.length ≤ c5 ∧ k91.C w A5 x.f5.length x.f5 ∧ x.f7.length ≤ c7 ∧ k82.C w A7 x.f7.length x.f7 := by
 obtain ⟨_, _, rfl, ⟨A0, c0, rfl, l0, g0⟩, ⟨_, _, rfl, ⟨A1, c1, rfl, l1, g1⟩, ⟨_, _, rfl, ⟨A2, c2, rfl, l2, g2⟩, ⟨_, _, rfl, ⟨A3, c3, rfl, l3, g3⟩, ⟨_, _, rfl, rfl, ⟨_, _, rfl, ⟨A5, c5, rfl, l5, g5⟩, ⟨_, _, rfl, rfl, ⟨_, _, rfl, ⟨A7, c7, rfl, l7, g7⟩, ⟨_, _, rfl, rfl, rfl⟩⟩⟩⟩⟩⟩⟩⟩⟩ := h
 exact ⟨A0, c0, A1, c1, A2, c2, A3, c3, A5, c5, A7, c7, rfl, l0, g0, l1, g1, l2, g2, l3, g3, l5, g5, l7, g7⟩
def rd_T32 (xs : List S32) (i : Int) : S32 := xs.getD i.toNat z32

/-! #### struct type 37 -/
structure S37 where
 f0 : ByteArray
 f1 : Int
def z37 : S37 := ⟨(⟨#[]⟩ : ByteArray), (0 : Int)⟩
def k37 : Kd S37 := Kd.iso (Kd.pair Kd.string (Kd.int .i64)) (fun x : S37 => (x.f0, x.f1))
theorem k37_open {w : World} {x : S37} {cs : List Value} (h : k37.K w x cs) : cs = [.string x.f0, .int .i64 x.f1] := by
 obtain ⟨_, _, rfl, rfl, rfl⟩ := h
 exact rfl
theorem k37_mkM (w : World) (base : Nat) (ok : Nat → Prop) (x : S37)  : k37.M w base ok x [.string x.f0, .int .i64 x.f1] := ⟨[.string x.f0], [.int .i64 x.f1], rfl, rfl, rfl⟩
def rd_T37 (xs : List S37) (i : Int) : S37 := xs.getD i.toNat z37
theorem at_T37 {w : World} {A : Option Addr} {n : Nat} {xs : List S37} (h : Kd.C k37 w A n xs) (i : Int) (h0 : 0 ≤ i) (h1 : i < n) : ∃ ad , A = some ad ∧ w.cell? (ad.add (i.toNat * 2)) = some (.string (rd_T37 xs i).f0) ∧ w.cell? ⟨(ad.add (i.toNat * 2)).block, (ad.add (i.toNat * 2)).off + 1, none⟩ = some (.int .i64 (rd_T37 xs i).f1) := by
 obtain ⟨ad, c, e, _, hK, hc0⟩ := Kd.C_get h z37 i h0 h1
 have hc : ∀ j u, c[j]? = some u → w.cell? (ad.add (i.toNat * 2 + j)) = some u := hc0
 obtain rfl := k37_open hK
 exact ⟨ad, e, hc 0 _ rfl, by rw [← add_field _ _ 1 (by omega)]; exact hc 1 _ rfl⟩

def rd_L27 (xs : List (List S37)) (i : Int) : (List S37) := xs.getD i.toNat ([] : List S37)

/-! #### struct type 36 -/
structure S36 where
 f0 : ByteArray
 f1 : Int
def z36 : S36 := ⟨(⟨#[]⟩ : ByteArray), (0 : Int)⟩
def k36 : Kd S36 := Kd.iso (Kd.pair Kd.string (Kd.int .i64)) (fun x : S36 => (x.f0, x.f1))
def rd_T36 (xs : List S36) (i : Int) : S36 := xs.getD i.toNat z36

/-! #### struct type 50 -/
structure S50 where
 f0 : ByteArray
 f1 : Int
 f2 : Int
 f3 : Int
 f4 : (List S69)
def z50 : S50 := ⟨(⟨#[]⟩ : ByteArray), (0 : Int), (0 : Int), (0 : Int), ([] : List S69)⟩
def k50 : Kd S50 := Kd.iso (Kd.pair Kd.string (Kd.pair (Kd.int .i64) (Kd.pair (Kd.int .i64) (Kd.pair (Kd.int .u32) (Kd.slice 69 k69))))) (fun x : S50 => (x.f0, x.f1, x.f2, x.f3, x.f4))
def rd_T50 (xs : List S50) (i : Int) : S50 := xs.getD i.toNat z50

/-! #### struct type 56 -/
structure S56 where
 f0 : Int
 f1 : Int
def z56 : S56 := ⟨(0 : Int), (0 : Int)⟩
def k56 : Kd S56 := Kd.iso (Kd.pair (Kd.int .i64) (Kd.int .i64)) (fun x : S56 => (x.f0, x.f1))
def rd_T56 (xs : List S56) (i : Int) : S56 := xs.getD i.toNat z56

/-! #### struct type 68 -/
structure S68 where
 f0 : Int
 f1 : Int
def z68 : S68 := ⟨(0 : Int), (0 : Int)⟩
def k68 : Kd S68 := Kd.iso (Kd.pair (Kd.int .i64) (Kd.int .u32)) (fun x : S68 => (x.f0, x.f1))
def rd_T68 (xs : List S68) (i : Int) : S68 := xs.getD i.toNat z68

/-! #### struct type 81 -/
structure S81 where
 f0 : Int
 f1 : Int
 f2 : ByteArray
 f3 : (List Int)
def z81 : S81 := ⟨(0 : Int), (0 : Int), (⟨#[]⟩ : ByteArray), ([] : List Int)⟩
def k81 : Kd S81 := Kd.iso (Kd.pair (Kd.int .i64) (Kd.pair (Kd.int .i64) (Kd.pair Kd.string (Kd.slice 28 (Kd.int .u32))))) (fun x : S81 => (x.f0, x.f1, x.f2, x.f3))
def rd_T81 (xs : List S81) (i : Int) : S81 := xs.getD i.toNat z81

/-! #### struct type 90 -/
structure S90 where
 f0 : ByteArray
 f1 : (List Int)
 f2 : Int
 f3 : (List S106)
 f4 : (List Int)
def z90 : S90 := ⟨(⟨#[]⟩ : ByteArray), ([] : List Int), (0 : Int), ([] : List S106), ([] : List Int)⟩
def k90 : Kd S90 := Kd.iso (Kd.pair Kd.string (Kd.pair (Kd.slice 28 (Kd.int .u32)) (Kd.pair (Kd.int .i64) (Kd.pair (Kd.slice 106 k106) (Kd.slice 28 (Kd.int .u32)))))) (fun x : S90 => (x.f0, x.f1, x.f2, x.f3, x.f4))
def rd_T90 (xs : List S90) (i : Int) : S90 := xs.getD i.toNat z90

/-! #### struct type 105 -/
structure S105 where
 f0 : ByteArray
 f1 : (List Int)
def z105 : S105 := ⟨(⟨#[]⟩ : ByteArray), ([] : List Int)⟩
def k105 : Kd S105 := Kd.iso (Kd.pair Kd.string (Kd.slice 5 (Kd.int .u8))) (fun x : S105 => (x.f0, x.f1))
def rd_T105 (xs : List S105) (i : Int) : S105 := xs.getD i.toNat z105

end Go.Proofs.Ytfpkakedlapmkaa.Q
end
section
namespace Go.Proofs.Ytfpkakedlapmkaa.Q
open Go.RowKit Go.Shelf
/-- How a round may be left. -/
def RoundPost (Kp : World → World → Prop) (I : Nat → World → Prop) (Ix : Code → Nat → World → Prop) (k : Nat) (W : World) : Exit → Act → World → Prop
 | .normal, _, W' => KeepsOthers W W' ∧ Kp W W' ∧ I k W'
 | .ret, _, W' => KeepsOthers W W' ∧ Ix .ret k W'
 | .exit id, _, W' => KeepsOthers W W' ∧ Ix (.exit id) k W'
 | _, _, _ => False
/-- The iterator hands on the list L, one by one; between two rounds it goes by Ab; a round that goes on keeps Kp. -/
def SeqL (n : Nat) (P : Program) (gf : Nat) (lb : Array Value) (Ab Kp : World → World → Prop) (L : List (Array Value)) (w : World) : Prop :=
 ∀ (l : Nat) (J Jx : Nat → World → Prop) (W : World), Below w.heap.size w W → W.heap.size = w.heap.size + 2 → (∀ k A B, J k A → Ab A B → J k B) → (∀ k A B, Jx k A → Ab A B → Jx k B) →
  (∀ (k : Nat) (hk : k < L.length) (A : World), J k A → YieldAt Fence.wide (n - 1) P l L[k] A fun e B => (e = .returned (.bool true) ∧ J (k + 1) B ∧ Kp A B) ∨ (e = .returned (.bool false) ∧ Jx (k + 1) B)) →
  J 0 W → CallsIn Fence.wide n P gf (#[.func (.yield l) #[] #[]] ++ lb) W fun e B => (∃ v, e = .returned v) ∧ (J L.length B ∨ ∃ k, k ≤ L.length ∧ Jx k B)
section
variable {n : Nat} {P : Program}
theorem wp_rangeL {g : Operand} {ps : Array Tmp} {assign body : Code} {Q : Exit → Act → World → Prop} {a : Act} {w : World} (h1 : 1 ≤ n) {gf : Nat} {lb : Array Value} (hg : a.eval g = .func (.func gf) #[] lb) (eg : ∀ args w, (callFunc gf args).run P w = .ok (.enter gf args) w)
  {Ab Kp : World → World → Prop} {L : List (Array Value)} (hseq : SeqL (n - 1) P gf lb Ab Kp L w) (hAb : ∀ {A B : World} {i : Nat} {o : Obj}, Ab A B → A.heap[i]? = some o → o.isCells = false → B.heap[i]? = some o)
  (hKt : ∀ {A B C : World}, Kp A B → Kp B C → Kp A C) (hKb : ∀ (W : World) (l : Nat) (o o' : Obj), w.heap.size ≤ l → W.heap[l]? = some o → o.isCells = false → o.isWalk = false → Kp W (W.putObj l o')) (hps : ∀ x ∈ L, x.size = ps.size)
  (I : Nat → World → Prop) (Ix : Code → Nat → World → Prop) (hI : OwnFrom w.heap.size I) (hIx : ∀ c, OwnFrom w.heap.size (Ix c)) (hIA : ∀ k A B, I k A → Ab A B → I k B) (hXA : ∀ c k A B, Ix c k A → Ab A B → Ix c k B) (h0 : I 0 w) (Ax : Nat → Act → World → Prop) (hAx : ∀ (k : Nat) (a' : Act) (W : World) (l : Nat) (o o' : Obj), w.heap.size ≤ l → W.heap[l]? = some o → o.isCells = false → Ax k a' W → Ax k a' (W.putObj l o'))
  (hassign : ∀ (l k : Nat) (hk : k < L.length) (W : World) (K : Act → World → Prop), I k W → (∀ a' W', Ax k a' W' → KeepsOthers W W' → Kp W W' → I k W' → K a' W') →
   assign.wpIn (Fence.wide.inRound l) (n - 1 - 1) P (Exit.then K (fun _ _ _ => False)) { tmps := (ps.zip L[k]).foldl (fun t (p, v) => t.setIfInBounds p v) a.tmps, defers := [] } W)
  (hbody : ∀ (l k : Nat) (a' : Act) (W : World), k < L.length → Ax k a' W → I k W → body.wpIn (Fence.wide.inRound l) (n - 1 - 1) P (RoundPost Kp I Ix (k + 1) W) a' W)
  (hdone : ∀ (D : Nat) (W : World), w.heap.size ≤ D → I L.length W → W.heap[D]? = some (.deferred (some [])) → Q .normal { a with defers := { target := .collected D, args := #[] } :: a.defers } W)
  (hstop : ∀ (D : Nat) (c : Code) (k : Nat) (W : World), w.heap.size ≤ D → k ≤ L.length → Ix c k W → W.heap[D]? = some (.deferred (some [])) → c.wpIn Fence.wide n P Q { a with defers := { target := .collected D, args := #[] } :: a.defers } W) :
  (Code.rangeFunc g ps assign body).wpIn Fence.wide n P Q a w := by
 refine wpIn_rangeFunc ?_
 intro fn hfn
 obtain ⟨R, hR⟩ : ∃ R : LoopState → Option Code → Loop, R = fun st pe => { state := st, pending := pe, fn, tmps := a.tmps, params := ps, assign, body, defers := w.heap.size } := ⟨_, rfl⟩
 obtain ⟨V, hV⟩ : ∃ V, V = (w.alloc (.deferred (some []))).alloc (.loop (R .ready none)) := ⟨_, rfl⟩
 have sL : V.heap[w.heap.size + 1]? = some (.loop (R .ready none)) := by
  have := World.alloc_heap_new (w.alloc (.deferred (some []))) (.loop (R .ready none))
  rw [World.size_alloc] at this
  rw [hV]; exact this
 have sD : V.heap[w.heap.size]? = some (.deferred (some [])) := by rw [hV]; exact (Below.heap_alloc _ _ _ (by simp)).trans (World.alloc_heap_new w _)
 have sI : I 0 V := by rw [hV]; exact hI.alloc _ (hI.alloc _ h0)
 have sB : Below w.heap.size w V := by rw [hV]; exact ((Below.refl _ w).alloc (Nat.le_refl _) _).alloc (by simp) _
 refine ⟨w.heap.size + 1, [{ target := .collected w.heap.size, args := #[] }], V, { target := .fn (.func gf) lb, args := #[.func (.yield (w.heap.size + 1)) #[] #[]] }, V, gf, #[.func (.yield (w.heap.size + 1)) #[] #[]] ++ lb, V, ?_, ?_, ?_, ?_, fun _ => h1, ?_⟩
 ·rw [hV, hR]; exact run_enterLoop_outer _ _ _ _ _
 ·simp only [resolve, hg]
  simp [go_sem]
 ·intro f' hf'; simp [Target.leads] at hf'; subst hf'; trivial
 ·simp [invoke, go_sem, eg]
 ·refine (hseq (w.heap.size + 1) (fun k W => I k W ∧ W.heap[w.heap.size + 1]? = some (.loop (R .ready none)) ∧ W.heap[w.heap.size]? = some (.deferred (some [])))
   (fun k W => ∃ c, Ix c k W ∧ W.heap[w.heap.size + 1]? = some (.loop (R .done (some c))) ∧ W.heap[w.heap.size]? = some (.deferred (some []))) V sB (by rw [hV, World.size_alloc, World.size_alloc])
   (fun k A B h hab => ⟨hIA k A B h.1 hab, hAb hab h.2.1 rfl, hAb hab h.2.2 rfl⟩) (fun k A B h hab => by obtain ⟨c, h1, h2, h3⟩ := h; exact ⟨c, hXA c k A B h1 hab, hAb hab h2 rfl, hAb hab h3 rfl⟩) ?_ ⟨sI, sL, sD⟩).mono ?_
  ·rintro k hk W ⟨hi, hl, hd⟩
   have hlt : w.heap.size + 1 < W.heap.size := (Array.getElem?_eq_some_iff.1 hl).1
   have hy := run_yield (P := P) (args := L[k]) hl (by rw [hR]; exact hps _ (List.getElem_mem hk))
   rw [hR] at hy
   refine ⟨fn, _, assign, body, hy, roundIn_of_wpIn hfn (hassign _ k hk W _ hi (fun a' W' hax hko hkp hi' => ?_))⟩
   have hl' := hko.same _ _ hl rfl
   have hd' := hko.same _ _ hd rfl
   have hlt : w.heap.size + 1 < W'.heap.size := (Array.getElem?_eq_some_iff.1 hl').1
   refine ⟨_, run_beginRound hl' (by rw [hR]), ?_⟩
   obtain ⟨U, hU⟩ : ∃ U, U = W'.putObj (w.heap.size + 1) (.loop { R .ready none with state := .busy }) := ⟨_, rfl⟩
   have uL : U.heap[w.heap.size + 1]? = some (.loop { R .ready none with state := .busy }) := by rw [hU]; exact World.putObj_heap_same hlt
   have uD : U.heap[w.heap.size]? = some (.deferred (some [])) := by rw [hU]; exact (World.putObj_heap_other (by omega)).trans hd'
   have uK : Kp W U := hKt hkp (by rw [hU]; exact hKb _ _ _ _ (by omega) hl' rfl rfl)
   have uI : I k U := by rw [hU]; exact hI.putObj _ hi' (by omega) hl' rfl
   have uX : Ax k a' U := by rw [hU]; exact hAx _ _ _ _ _ _ (by omega) hl' rfl hax
   rw [← hU]
   refine wpIn_mono (hbody _ k a' U hk uX uI) ?_
   have last : ∀ (jump : Option Code) (X : World), KeepsOthers U X → X.heap[w.heap.size + 1]? = some (.loop { R .ready none with state := .busy }) ∧ ∃ Y, Y = X.putObj (w.heap.size + 1) (.loop (R (if jump.isNone then .ready else .done) jump)) ∧ (Instr.endRound (w.heap.size + 1) jump).run P X = .ok (.bool jump.isNone) Y ∧
     Y.heap[w.heap.size + 1]? = some (.loop (R (if jump.isNone then .ready else .done) jump)) ∧ Y.heap[w.heap.size]? = some (.deferred (some [])) := fun jump X hx => by
    have xL := hx.same _ _ uL rfl
    have hr := run_endRound (P := P) jump xL
    refine ⟨xL, _, rfl, ?_, World.putObj_heap_same (Array.getElem?_eq_some_iff.1 xL).1, (World.putObj_heap_other (by omega)).trans (hx.same _ _ uD rfl)⟩
    rw [hR] at hr ⊢
    exact hr
   rintro e a3 X hp
   cases e with
   | normal =>
    obtain ⟨x1, x2, x3⟩ := hp
    obtain ⟨xL, Y, hY, hr, yL, yD⟩ := last none X x1
    exact ⟨_, _, hr, .inl ⟨rfl, ⟨by rw [hY]; exact hI.putObj _ x3 (by omega) xL rfl, yL, yD⟩, hKt (hKt uK x2) (by rw [hY]; exact hKb _ _ _ _ (by omega) xL rfl rfl)⟩⟩
   | ret =>
    obtain ⟨x1, x3⟩ := hp
    obtain ⟨xL, Y, hY, hr, yL, yD⟩ := last (some .ret) X x1
    exact ⟨_, _, hr, .inr ⟨rfl, .ret, by rw [hY]; exact (hIx _).putObj _ x3 (by omega) xL rfl, yL, yD⟩⟩
   | exit id =>
    obtain ⟨x1, x3⟩ := hp
    obtain ⟨xL, Y, hY, hr, yL, yD⟩ := last (some (.exit id)) X x1
    exact ⟨_, _, hr, .inr ⟨rfl, .exit id, by rw [hY]; exact (hIx _).putObj _ x3 (by omega) xL rfl, yL, yD⟩⟩
   | goto t => exact hp.elim
   | panic ch => exact hp.elim
   | outgrown => exact hp.elim
  ·rintro e X ⟨⟨v, rfl⟩, (⟨hi, hl, hd⟩ | ⟨k, hk, c, hi, hl, hd⟩)⟩
   ·have hr := run_endLoop (P := P) hl (by rw [hR]; simp)
    rw [hR] at hr
    exact ⟨none, _, hr, hdone _ _ (Nat.le_refl _) (hI.putObj _ hi (by omega) hl rfl) ((World.putObj_heap_other (by omega)).trans hd)⟩
   ·have hr := run_endLoop (P := P) hl (by rw [hR]; simp)
    rw [hR] at hr
    exact ⟨some c, _, hr, hstop _ c k _ (Nat.le_refl _) hk ((hIx c).putObj _ hi (by omega) hl rfl) ((World.putObj_heap_other (by omega)).trans hd)⟩
end
end Go.Proofs.Ytfpkakedlapmkaa.Q
end
section
namespace Go.Proofs.Ytfpkakedlapmkaa.Q
open Go.RowKit Go.Proofs.YtfpkakedlapmkaaW.PrintWords Go.Proofs.YtfpkakedlapmkaaW.PrintLast Go.Proofs.YtfpkakedlapmkaaW.PrintMore
/-- A literal without elements is a row of the call's own. -/
theorem R_empty {α : Type} (d : Kd α) (e : Nat) (W : World) (base : Nat) (hb : base ≤ W.heap.size) : d.R e (W.alloc (.cells #[] e)) base (fun _ => True) (.slice (some ⟨W.heap.size, 0, none⟩) 0 0) [] :=
 ⟨fun _ _ => trivial, [], by have h := World.ownsRow_lit (base := base) (e := e) (size := d.sz) W #[] 0 hb (Nat.zero_le _) (by simp); simpa using h, Reps.none _ _⟩
theorem C_nil_eq {α : Type} {d : Kd α} {w : World} {n : Nat} {xs : List α} (h : d.C w none n xs) : xs = [] := by
 rcases Nat.eq_zero_or_pos n with h0 | h0
 ·exact List.eq_nil_of_length_eq_zero (h.1.trans h0)
 ·obtain ⟨ad, he, _⟩ := h.2.2 h0
  cases he
theorem Addr_add_zero (a : Addr) : a.add 0 = a := by
 cases a with | mk b o s => unfold Addr.add; split <;> simp_all
/-- Where a cut from 'lo' on begins. -/
def cutAt (A : Option Addr) (cap lo sz : Nat) : Option Addr := if cap = lo then A else A.map (·.add (lo * sz))
theorem sliced_eq (A : Option Addr) (lo hi cap s : Nat) : sliced A lo hi cap s = .slice (cutAt A cap lo s) (hi - lo) (cap - lo) := by
 simp [sliced, cutAt]
section
variable {P : Program} {t e : TypeId} {sz : Nat}
theorem run_size (hi : (P.info? e).map (·.size) = some sz) (W : World) : (sizeOf e).run P W = .ok sz W := by
 obtain ⟨i, h1, h2⟩ := Option.map_eq_some_iff.1 hi
 subst h2
 rw [run_sizeOf W h1]; simp [Program.cellsOf, h1]
theorem run_cut_hi (ht : P.underlying t = some (.slice e)) (hi : (P.info? e).map (·.size) = some sz) (A : Option Addr) (n c : Nat) (j : Int) (h0 : 0 ≤ j) (hm : j ≤ c) (W : World) :
  (Instr.slice t (.slice A n c) none (some (.int .i64 j)) none).run P W = .ok (.slice A j.toNat c) W := by
 have hel : P.elem t = e := by simp [Program.elem, ht]
 rw [run_slice_h W t A n c (by rw [hel]; exact ht) .i64 j h0 hm, hel, run_size hi]
 simp [Result.andThen, sliced_eq, cutAt]
 intro _
 cases A <;> simp [Addr_add_zero]
end
theorem C_cut {α : Type} {d : Kd α} {w : World} {A : Option Addr} {n c : Nat} {xs : List α} (h : d.C w A n xs) (hc : n ≤ c) (lo m : Nat) (hm : lo + m ≤ n) : d.C w (cutAt A c lo d.sz) m ((xs.drop lo).take m) := by
 have hl : xs.length = n := h.1
 refine ⟨by simp [hl]; omega, by have := h.2.1; omega, fun hp => ?_⟩
 obtain ⟨ad, rfl, hcell⟩ := h.2.2 (by omega)
 refine ⟨ad.add (lo * d.sz), by unfold cutAt; rw [if_neg (by omega)]; rfl, fun j p hj => ?_⟩
 have hjm : j < m := by
  have := (List.getElem?_eq_some_iff.1 hj).1
  simp at this; omega
 have hj' : xs[lo + j]? = some p := by
  rw [List.getElem?_take, if_pos hjm, List.getElem?_drop] at hj
  exact hj
 obtain ⟨cs, h1, h2, h3⟩ := hcell (lo + j) p hj'
 refine ⟨cs, h1, h2, fun i u hu => ?_⟩
 have := h3 i u hu
 rw [show (lo + j) * d.sz + i = lo * d.sz + (j * d.sz + i) by rw [Nat.add_mul]; omega] at this
 rw [add_add]
 exact this
/-! copy -/
section
variable {P : Program} {ops : Array Oper} {rest : List Oper} {o : Oper} {a : Act} {Q : Exit → Act → World → Prop}
end
/-! rows whose elements lead nowhere -/
section
variable {α : Type} {d : Kd α} {e base : Nat} {ok : Nat → Prop} {W w1 : World} {v : Value} {xs : List α}
end
end Go.Proofs.Ytfpkakedlapmkaa.Q
end
section
set_option linter.unusedSimpArgs false
set_option linter.unusedVariables false
namespace Go.Proofs.Ytfpkakedlapmkaa.Q
open Go.RowKit Go.Shelf Go.Proofs.YtfpkakedlapmkaaW.PrintWords Go.Proofs.YtfpkakedlapmkaaW.PrintLast
attribute [local go_sem] Oper.semAt_some
def flat37 (l : List S37) : List Value := l.flatMap fun p => [.string p.f0, .int .i64 p.f1]
theorem flat37_get : ∀ (l : List S37) (i : Nat), i < l.length → (flat37 l)[i * 2]? = some (.string (l.getD i z37).f0) ∧ (flat37 l)[i * 2 + 1]? = some (.int .i64 (l.getD i z37).f1)
 | [], i, h => absurd h (by simp)
 | x :: l, 0, _ => ⟨rfl, rfl⟩
 | x :: l, i + 1, h => by
  have h2 := flat37_get l i (by simpa using h)
  have e1 : (i + 1) * 2 = i * 2 + 1 + 1 := by omega
  have e : flat37 (x :: l) = .string x.f0 :: .int .i64 x.f1 :: flat37 l := rfl
  rw [e, e1]
  simpa using h2
/-- Between two rounds: what lay lies. -/
def AbA (A B : World) : Prop := Below A.heap.size A B
/-- A round keeps one block of words. -/
def KpB (b : Nat) (A B : World) : Prop := ∀ cells, A.heap[b]? = some (.cells cells 37 (0, 0)) → B.heap[b]? = some (.cells cells 37 (0, 0))
def pV (l : List S37) (k : Nat) : Array Value := #[.int .i64 k, .agg #[.string (l.getD k z37).f0, .int .i64 (l.getD k z37).f1]]
def primsV (l : List S37) : List (Array Value) := (List.range l.length).map (pV l)
set_option maxHeartbeats 2000000 in
set_option maxRecDepth 100000 in
theorem prims_seq1 (pl : List S37) (hlen : pl.length = 111) (HP : ∀ X, Calls Try.prog 14 #[] X fun e w' => e = .returned (.slice (some ⟨X.heap.size, 0, none⟩) 111 111) ∧ w' = X.alloc (.cells (flat37 pl).toArray 37 (0, 0))) (n : Nat) (hn : 2 ≤ n) (w : World) :
  SeqL n Try.prog 36 #[] AbA (KpB (w.heap.size + 2)) (primsV pl) w := by
 intro l J Jx W hW hsz hJ hJx hY h0
 have hu37 := Try.underlying37
 have hu34 := Try.underlying34
 have HP := Aside0.mk HP
 have hg := Aside0.mk (flat37_get pl)
 have hk0 : (primsV pl).length = 111 := by simp [primsV, hlen]
 have hJ0 := hJ 0 W (W.alloc (.cells (flat37 pl).toArray 37 (0, 0))) h0 (below_alloc (Below.refl _ _) _)
 have hb0 := blk_new W (.cells (flat37 pl).toArray 37 (0, 0))
 rw [← hsz] at hY
 clear hW h0 hsz
 refine callsIn_of_wp Try.func36 rfl trivial ?_ rfl
 simp only [Try.ntmps36, List.size_toArray, List.length_cons, List.length_nil, Nat.reduceAdd, Nat.reduceSub, Array.replicate_succ, Array.replicate_zero, List.push_toArray, List.append_toArray, List.nil_append, List.cons_append]
 have h1n : 1 ≤ n := by omega
 gi_wp2_with (refine ⟨trivial, ?_⟩; gi_at_call 14; refine (callsIn_wide.2 (HP.out _)).mono ?_; rintro e w1 ⟨rfl, rfl⟩)
 gi_loopw [6] (fun v wr => ∃ i : Nat, v = .int .i64 i ∧ i ≤ 111 ∧ J i wr ∧ wr.heap[W.heap.size]? = some (.cells (flat37 pl).toArray 37 (0, 0))) (fun v _ => 111 - (intOf v).toNat)
 case atStart => exact ⟨0, rfl, by omega, hJ0, hb0⟩
 case round =>
  obtain ⟨i, rfl, hi, hJi, hb⟩ := hrel
  clear hJ0 hb0
  by_cases h : i = 111
  ·subst h
   gi_wp2
   go_end0
   exact ⟨⟨_, rfl⟩, .inl (hk0.symm ▸ hJi)⟩
  ·have hlt : i < 111 := by omega
   have d1 : decide ((i : Int) < 111) = true := decide_eq_true (by omega)
   obtain ⟨g0, g1⟩ := hg.out i (by omega)
   have c0 := (blk_cell hb (i * 2)).trans ((by simpa using g0 : (flat37 pl).toArray[i * 2]? = _))
   have c1 := (blk_cell hb (i * 2 + 1)).trans ((by simpa using g1 : (flat37 pl).toArray[i * 2 + 1]? = _))
   have q1 : (0 ≤ (i : Int)) = True := eq_true (by omega)
   have q2 : ((i : Int) < 111) = True := eq_true (by omega)
   have q3 : ((i : Int)).toNat = i := by omega
   have hil : i < pl.length := by omega
   obtain ⟨x, hx⟩ : ∃ x, x = pl[i] := ⟨_, rfl⟩
   have hgx : (pl[i]?.getD z37) = x := by rw [hx]; simp [hil]
   have hki : i < (primsV pl).length := by omega
   have hL : (primsV pl)[i] = #[.int .i64 i, .agg #[.string x.f0, .int .i64 x.f1]] := by simp [primsV, pV, hgx, hil, hx]
   rw [hgx] at c0 c1
   obtain ⟨fn, tmps, assign, body, hy, hR⟩ := hY i hki (wr.alloc (.cells #[.string x.f0, .int .i64 x.f1] 37)) (hJ _ _ _ hJi (below_alloc (Below.refl _ _) _))
   rw [hL] at hy
   have hb2 := blk_alloc hb (.cells #[.string x.f0, .int .i64 x.f1] 37 (0, 0))
   have HI := Aside0.mk hki
   clear hx hgx hL g0 g1
   gi_wp2
   refine hR.mono ?_
   rintro e W3 (⟨rfl, hJ3, hk3⟩ | ⟨rfl, hJx3⟩)
   ·have hb3 := hk3 _ hb2
    gi_wp2
    go_roundw
    case rel => exact ⟨i + 1, by first | rfl | simp, by omega, hJ3, hb3⟩
    case measure => simp [intOf]; omega
   ·gi_wp2
    refine bodyPost_ret (results_none rfl _ _ _) rfl ?_
    exact ⟨⟨_, rfl⟩, .inr ⟨i + 1, HI.out, hJx3⟩⟩
end Go.Proofs.Ytfpkakedlapmkaa.Q
end
section
set_option linter.unusedSimpArgs false
set_option linter.unusedVariables false
namespace Go.Proofs.Ytfpkakedlapmkaa.Q
open Go.RowKit Go.Shelf Go.Proofs.YtfpkakedlapmkaaW.PrintWords Go.Proofs.YtfpkakedlapmkaaW.PrintLast
attribute [local go_sem] Oper.semAt_some
theorem kpB_t {b : Nat} {A B C : World} (h : KpB b A B) (k : KpB b B C) : KpB b A C := fun c e => k c (h c e)
theorem kpB_put {b l : Nat} {W : World} {o o' : Obj} (ho : W.heap[l]? = some o) (hc : o.isCells = false) : KpB b W (W.putObj l o') := fun c e => by
 have hne : l ≠ b := by
  intro h2
  subst h2
  rw [ho] at e
  cases e
  cases hc
 exact (World.putObj_heap_other (fun h2 => hne h2.symm)).trans e
theorem kpB_below {b : Nat} {A B : World} (h : Below A.heap.size A B) : KpB b A B := fun c e => (h.block b (Array.getElem?_eq_some_iff.1 e).1).trans e
theorem abA_keeps {A B : World} {i : Nat} {o : Obj} (h : AbA A B) (ho : A.heap[i]? = some o) (_ : o.isCells = false) : B.heap[i]? = some o := (h.block i (Array.getElem?_eq_some_iff.1 ho).1).trans ho
theorem boxed_below {A B : World} {b : Nat} {t : TypeId} {v : Value} (h : Boxed A b t v) (hab : Below A.heap.size A B) : Boxed B b t v := (hab.block b (Array.getElem?_eq_some_iff.1 h).1).trans h
theorem below_ab {w A B : World} (h : Below w.heap.size w A) (hab : Below A.heap.size A B) : Below w.heap.size w B := below_step h hab
def CodeI (pl : List S37) (c : Int) (w : World) (k : Nat) (W : World) : Prop :=
 ((∀ j, j < k → (pl.getD j z37).f1 ≠ c) ∧ Boxed W (w.heap.size + 1) 3 (.int .i64 c) ∧ Boxed W (w.heap.size + 1 + 1) 3 (.int .i64 0) ∧ Boxed W (w.heap.size + 1 + 1 + 1) 4 (.bool false)) ∧ Below w.heap.size w W
def CodeX (pl : List S37) (c : Int) (w : World) (cc : Code) (k : Nat) (W : World) : Prop :=
 ((cc = .ret ∧ ∃ i : Nat, i < 111 ∧ (pl.getD i z37).f1 = c ∧ (∀ j, j < i → (pl.getD j z37).f1 ≠ c) ∧ Boxed W (w.heap.size + 1 + 1) 3 (.int .i64 i)) ∧ Boxed W (w.heap.size + 1 + 1 + 1) 4 (.bool true)) ∧ Below w.heap.size w W
theorem codeI_own (pl : List S37) (c : Int) (w : World) (B : Nat) (hB : w.heap.size ≤ B) : OwnFrom B (CodeI pl c w) :=
 OwnFrom.and (OwnFrom.and (fun _ _ _ _ h _ _ => h) (OwnFrom.and (Own.from (boxed_own _ _ _) _) (OwnFrom.and (Own.from (boxed_own _ _ _) _) (Own.from (boxed_own _ _ _) _)))) (ownFrom_below (Nat.le_refl _) hB)
theorem codeX_own (pl : List S37) (c : Int) (w : World) (cc : Code) (B : Nat) (hB : w.heap.size ≤ B) : OwnFrom B (CodeX pl c w cc) :=
 OwnFrom.and (OwnFrom.and (fun s X Y row h hg hr => ⟨h.1, by obtain ⟨i, h1, h2, h3, h4⟩ := h.2; exact ⟨i, h1, h2, h3, (Own.from (boxed_own (β := Nat) _ _ (fun _ => .int .i64 i)) B) s X Y row h4 hg hr⟩⟩) (Own.from (boxed_own _ _ _) _)) (ownFrom_below (Nat.le_refl _) hB)
theorem codeI_abs (pl : List S37) (c : Int) (w : World) (k : Nat) (A B : World) (h : CodeI pl c w k A) (hab : AbA A B) : CodeI pl c w k B :=
 ⟨⟨h.1.1, boxed_below h.1.2.1 hab, boxed_below h.1.2.2.1 hab, boxed_below h.1.2.2.2 hab⟩, below_ab h.2 hab⟩
theorem codeX_abs (pl : List S37) (c : Int) (w : World) (cc : Code) (k : Nat) (A B : World) (h : CodeX pl c w cc k A) (hab : AbA A B) : CodeX pl c w cc k B := by
 obtain ⟨⟨⟨h0, i, h1, h2, h3, h4⟩, h5⟩, h6⟩ := h
 exact ⟨⟨⟨h0, i, h1, h2, h3, boxed_below h4 hab⟩, boxed_below h5 hab⟩, below_ab h6 hab⟩
/-- The loop's variables in a round: its number, its word in a box. -/
def AxP (pl : List S37) (n0 : Nat) (tm : Nat → Nat → S37 → Array Value) (k : Nat) (a' : Act) (W : World) : Prop :=
 ∃ b, n0 ≤ b ∧ W.heap[b]? = some (.cells #[.string (pl.getD k z37).f0, .int .i64 (pl.getD k z37).f1] 37 (0, 0)) ∧ a' = { tmps := tm k b (pl.getD k z37), defers := [] }
theorem axP_put (pl : List S37) (n0 : Nat) (tm : Nat → Nat → S37 → Array Value) (k : Nat) (a' : Act) (W : World) (l : Nat) (o o' : Obj) (ho : W.heap[l]? = some o) (hc : o.isCells = false) (h : AxP pl n0 tm k a' W) : AxP pl n0 tm k a' (W.putObj l o') := by
 obtain ⟨b, hb0, hb, rfl⟩ := h
 exact ⟨b, hb0, kpB_put ho hc _ hb, rfl⟩
def primIdx (pl : List S37) (c : Int) : Int × Bool := match pl.findIdx? (fun p => p.f1 == c) with
 | some i => ((i : Int), true)
 | none => (0, false)
theorem primIdx_none (pl : List S37) (c : Int) (h : ∀ j, j < pl.length → (pl.getD j z37).f1 ≠ c) : primIdx pl c = (0, false) := by
 have : pl.findIdx? (fun p => p.f1 == c) = none := by
  rw [List.findIdx?_eq_none_iff]
  intro x hx
  obtain ⟨j, hj, rfl⟩ := List.mem_iff_getElem.1 hx
  have := h j hj
  rw [List.getD_eq_getElem?_getD, List.getElem?_eq_getElem hj] at this
  simpa using this
 rw [primIdx, this]
theorem primIdx_some (pl : List S37) (c : Int) (i : Nat) (hi : i < pl.length) (h0 : (pl.getD i z37).f1 = c) (h : ∀ j, j < i → (pl.getD j z37).f1 ≠ c) : primIdx pl c = ((i : Int), true) := by
 have : pl.findIdx? (fun p => p.f1 == c) = some i := by
  rw [List.findIdx?_eq_some_iff_getElem]
  refine ⟨hi, ?_, ?_⟩
  ·rw [List.getD_eq_getElem?_getD, List.getElem?_eq_getElem hi] at h0
   simpa using h0
  ·intro j hj
   have := h j hj
   rw [List.getD_eq_getElem?_getD, List.getElem?_eq_getElem (by omega)] at this
   simpa using this
 rw [primIdx, this]
def codeF (codes : List Int) (c : Int) : Int × Bool := if c < 2048 then primIdx [] c else if c - 2048 < codes.length ∧ rd codes (c - 2048) ≠ -1 then (rd codes (c - 2048), true) else (0, false)
set_option maxRecDepth 100000 in
theorem cells_end (f : Nat) (F : Func) (hres : F.results = #[.cell 4 3, .cell 5 4]) (w X : World) (B2 B3 D : Nat) (hD : D ≠ B2 ∧ D ≠ B3 ∧ w.heap.size ≤ D) (tmps : Array Value) (i : Int) (bb : Bool) (ht2 : tmps.getD 4 undef = .pointer (some ⟨B2, 0, none⟩)) (ht3 : tmps.getD 5 undef = .pointer (some ⟨B3, 0, none⟩))
  (hK : X.heap[D]? = some (.deferred (some []))) (g1 : Boxed X B2 3 (.int .i64 i)) (g2 : Boxed X B3 4 (.bool bb)) (hB : Below w.heap.size w X) :
  bodyPostM Fence.wide 5 Try.prog F (fun e W' => e = .returned (.tuple #[.int .i64 i, .bool bb]) ∧ Below w.heap.size w W') Exit.ret { tmps := tmps, defers := [{ target := .collected D, args := #[] }] } X := by
 refine ⟨by simp, .inl ⟨_, _, rfl, run_takeDeferred hK, ?_⟩⟩
 have k1 : Boxed (X.putObj D (.deferred none)) B2 3 (.int .i64 i) := (World.putObj_heap_other (by omega)).trans g1
 have k2 : Boxed (X.putObj D (.deferred none)) B3 4 (.bool bb) := (World.putObj_heap_other (by omega)).trans g2
 have c1 := k1.cell
 have c2 := k2.cell
 refine ⟨_, ?_, rfl, hB.trans (belowK_b (w := w) (Nat.le_refl _) X D _ _ (by omega) hK rfl rfl)⟩
 rw [Array.getD_eq_getD_getElem?] at ht2 ht3
 simp [results, hres, go_sem, ht2, ht3, c1, c2]
set_option maxHeartbeats 4000000 in
set_option maxRecDepth 100000 in
theorem code_low (pl : List S37) (hlen : pl.length = 111) (HP : ∀ X, Calls Try.prog 14 #[] X fun e w' => e = .returned (.slice (some ⟨X.heap.size, 0, none⟩) 111 111) ∧ w' = X.alloc (.cells (flat37 pl).toArray 37 (0, 0)))
  (v0 v1 v2 v3 : Value) (a4 : Int) (v5 : Value) (a6 : Int) (v7 : Value) (a8 : Int) (a9 : ByteArray) (c : Int) (hc : c < 2048) (w : World) :
  Calls Try.prog 17 #[.agg #[v0, v1, v2, v3, .int .u32 a4, v5, .int .i64 a6, v7, .int .i64 a8, .string a9], .int .i64 c] w fun e w' => e = .returned (.tuple #[.int .i64 (primIdx pl c).1, .bool (primIdx pl c).2]) ∧ Below w.heap.size w w' := by
 refine (callsIn_wide (n := 5)).1 ?_
 have HSq := Aside0.mk (fun W0 : World => prims_seq1 pl hlen HP 4 (by decide) W0)
 obtain ⟨R, hR⟩ : ∃ R, R = primIdx pl c := ⟨_, rfl⟩
 rw [← hR]
 obtain ⟨r1, r2⟩ := R
 have HR := Aside0.mk hR
 clear HP hR
 refine callsIn_of_wp_marks Try.func17 rfl trivial ?_ rfl
 simp only [Try.ntmps17, List.size_toArray, List.length_cons, List.length_nil, Nat.reduceAdd, Nat.reduceSub, Array.replicate_succ, Array.replicate_zero, List.push_toArray, List.append_toArray, List.nil_append, List.cons_append]
 have d1 : decide (c < 2048) = true := decide_eq_true hc
 gi_wp2
 obtain ⟨W0, hW0⟩ : ∃ W0, W0 = (((w.alloc (.cells #[v0, v1, v2, v3, .int .u32 a4, v5, .int .i64 a6, v7, .int .i64 a8, .string a9] 32)).alloc (.cells #[.int .i64 c] 3)).alloc (.cells #[.int .i64 0] 3)).alloc (.cells #[.bool false] 4) := ⟨_, rfl⟩
 have b1 : Boxed W0 (w.heap.size + 1) 3 (.int .i64 c) := by
  rw [hW0]
  have h := (((Boxed.new (w.alloc (.cells #[v0, v1, v2, v3, .int .u32 a4, v5, .int .i64 a6, v7, .int .i64 a8, .string a9] 32)) 3 (.int .i64 c)).alloc (.cells #[.int .i64 0] 3)).alloc (.cells #[.bool false] 4))
  rw [World.size_alloc] at h
  exact h
 have b2 : Boxed W0 (w.heap.size + 1 + 1) 3 (.int .i64 0) := by
  rw [hW0]
  have h := (Boxed.new ((w.alloc (.cells #[v0, v1, v2, v3, .int .u32 a4, v5, .int .i64 a6, v7, .int .i64 a8, .string a9] 32)).alloc (.cells #[.int .i64 c] 3)) 3 (.int .i64 0)).alloc (.cells #[.bool false] 4)
  rw [World.size_alloc, World.size_alloc] at h
  exact h
 have b3 : Boxed W0 (w.heap.size + 1 + 1 + 1) 4 (.bool false) := by
  rw [hW0]
  have h := Boxed.new (((w.alloc (.cells #[v0, v1, v2, v3, .int .u32 a4, v5, .int .i64 a6, v7, .int .i64 a8, .string a9] 32)).alloc (.cells #[.int .i64 c] 3)).alloc (.cells #[.int .i64 0] 3)) 4 (.bool false)
  rw [World.size_alloc, World.size_alloc, World.size_alloc] at h
  exact h
 have hB0 : Below w.heap.size w W0 := by rw [hW0]; exact below_alloc (below_alloc (below_alloc (below_alloc (Below.refl _ _) _) _) _) _
 have hs0 : W0.heap.size = w.heap.size + 4 := by rw [hW0]; simp
 rw [← hW0]
 clear hW0
 have hLl : (primsV pl).length = 111 := by simp [primsV, hlen]
 refine wp_rangeL (by omega) (gf := 36) (lb := #[]) rfl (enters_of Try.func36 (by kernel_rfl) rfl)
  (HSq.out W0) abA_keeps kpB_t (fun W l o o' hl ho hoc _ => kpB_put ho hoc) ?hps
  (CodeI pl c w) (CodeX pl c w) (codeI_own pl c w _ (by omega)) (fun cc => codeX_own pl c w cc _ (by omega)) (codeI_abs pl c w) (codeX_abs pl c w)
  ⟨⟨fun j hj => absurd hj (by omega), b1, b2, b3⟩, hB0⟩
  (AxP pl w.heap.size (fun k b x => #[.agg #[v0, v1, v2, v3, .int .u32 a4, v5, .int .i64 a6, v7, .int .i64 a8, .string a9], .int .i64 c, .pointer (some ⟨w.heap.size, 0, none⟩), .pointer (some ⟨w.heap.size + 1, 0, none⟩), .pointer (some ⟨w.heap.size + 1 + 1, 0, none⟩), .pointer (some ⟨w.heap.size + 1 + 1 + 1, 0, none⟩), .int .i64 (k : Int), .pointer (some ⟨b, 0, none⟩), .int .i64 c, .bool true, .int .i64 (k : Int), .agg #[.string x.f0, .int .i64 x.f1], undef, undef, undef, undef, undef, undef, undef, undef, undef, undef, undef, undef, undef, undef, undef, undef, undef, undef, undef, undef, undef, undef, undef, undef, undef])) (fun k a' W l o o' hl ho hc h => axP_put _ _ _ k a' W l o o' ho hc h) ?assign ?body ?done ?stop
 case hps =>
  intro x hx
  obtain ⟨p, _, rfl⟩ := List.mem_map.1 hx
  rfl
 case assign =>
  intro l' k hk W K hI hK
  obtain ⟨x, hx⟩ : ∃ x, x = pl.getD k z37 := ⟨_, rfl⟩
  have e : (primsV pl)[k] = #[.int .i64 k, .agg #[.string x.f0, .int .i64 x.f1]] := by rw [hx]; simp [primsV, pV]
  rw [e]
  have hab : AbA W (W.alloc (.cells #[.string x.f0, .int .i64 x.f1] 37 (0, 0))) := below_alloc (Below.refl _ _) _
  have hK2 := hK _ (W.alloc (.cells #[.string x.f0, .int .i64 x.f1] 37 (0, 0))) ⟨W.heap.size, hI.2.size, by rw [← hx]; exact blk_new W _, rfl⟩ (KeepsOthers.alloc _ _) (kpB_below hab) (codeI_abs pl c w k _ _ hI hab)
  rw [← hx] at hK2
  clear e hx hK hI
  gi_wp2
  exact hK2
 case body =>
  rintro l' k a' W hk0 ⟨b, hb0, hbx, rfl⟩ ⟨⟨hne, h1, h2, h3⟩, hB⟩
  have hk : k < 111 := by omega
  obtain ⟨x, hx⟩ : ∃ x, x = pl.getD k z37 := ⟨_, rfl⟩
  rw [← hx] at hbx
  simp only [← hx]
  have cx := (blk_cell hbx 1).trans rfl
  have hc1 := h1.cell
  have hc2 := h2.cell
  have hf2 := h2.frozen
  have hc3 := h3.cell
  have hf3 := h3.frozen
  by_cases he : x.f1 = c
  ·have d2 : (x.f1 == c) = true := by simp [he]
   have HX := Aside0.mk hx
   have HE := Aside0.mk he
   clear hx he hk0 hbx
   gi_wp2
   have hx := HX.out
   exact ⟨(KeepsOthers.setCell _ _ _).trans (KeepsOthers.setCell _ _ _), ⟨⟨⟨rfl, k, hk, by rw [← hx]; exact HE.out, hne, (h2.set _).other (by omega) _⟩, (h3.other (by omega) _).set _⟩, below_set (below_set hB (by omega)) (by omega)⟩⟩
  ·have d2 : (x.f1 == c) = false := beq_false_of_ne he
   have HX := Aside0.mk hx
   have HE := Aside0.mk he
   clear hx he hk0 hbx
   gi_wp2
   have hx := HX.out
   exact ⟨KeepsOthers.refl _, fun _ h => h, ⟨fun j hj => by
    rcases Nat.lt_or_eq_of_le (Nat.le_of_lt_succ hj) with h | h
    ·exact hne j h
    ·rw [h, ← hx]; exact HE.out, h1, h2, h3⟩, hB⟩
 case done =>
  rintro D W hD ⟨⟨hne, h1, h2, h3⟩, hB⟩ hK
  have hpr := primIdx_none pl c (by rw [hlen, ← hLl]; exact hne)
  obtain ⟨rfl, rfl⟩ := Prod.mk.injEq .. ▸ (HR.out.trans hpr)
  have hc2 := h2.cell
  have hf2 := h2.frozen
  have hc3 := h3.cell
  have hf3 := h3.frozen
  clear hpr
  gi_wp2
  exact cells_end 17 _ Try.results17 w _ _ _ D ⟨by omega, by omega, by omega⟩ _ _ _ rfl rfl (((KeepsOthers.setCell _ _ _).trans (KeepsOthers.setCell _ _ _)).same D _ hK rfl) ((h2.set _).other (by omega) _) ((h3.other (by omega) _).set _) (below_set (below_set hB (by omega)) (by omega))
 case stop =>
  rintro D cc k W hD hkk ⟨⟨⟨rfl, i, hi, hx, hne, h2⟩, h3⟩, hB⟩ hK
  obtain ⟨rfl, rfl⟩ := Prod.mk.injEq .. ▸ (HR.out.trans (primIdx_some pl c i (by omega) hx hne))
  clear hx
  gi_wp2
  exact cells_end 17 _ Try.results17 w _ _ _ D ⟨by omega, by omega, by omega⟩ _ _ _ rfl rfl hK h2 h3 hB
end Go.Proofs.Ytfpkakedlapmkaa.Q
end
section
namespace Go.Proofs.Ytfpkakedlapmkaa.Q
open Go.RowKit Go.Proofs.YtfpkakedlapmkaaW.PrintWords Go.Proofs.YtfpkakedlapmkaaW.PrintLast
section
variable {P : Program} {ops : Array Oper} {Q : Exit → Act → World → Prop} {md : Region.Mode} {n lr : Nat}
theorem rowsIn_wide {row : String} {args : Array Value} {w : World} {R : Value → World → Prop} (h : Rows P row args w R) : RowsIn (Fence.wide.inRound lr) n P row args w R :=
 fun c cs _ => let ⟨v, w', r, s⟩ := h c cs; ⟨v, w', r, stepsIn_wide.2 s⟩
theorem oper_in {o : Oper} {a : Act} {w : World} {K : Act → World → Prop} (hnd : ∀ c, o.op ≠ .defer c) (h : o.wp P a w K Q) : o.wpIn (Fence.wide.inRound lr) n P a w K Q := by
 refine ⟨fun _ _ => trivial, ?_⟩
 rw [Oper.semAt_plain _ _ _ hnd]
 unfold Oper.wp at h
 generalize (execOp a.eval o).run P w = r at h ⊢
 cases r with
 | ok x w' =>
  cases x with
  | value v => exact h
  | skip => exact h
  | defer d => exact h
  | enter f args => exact ⟨(fun hd => by cases hd), CallsIn.inRound lr (callsIn_wide.2 h)⟩
  | row row args => exact ⟨(fun hd => by cases hd), rowsIn_wide h⟩
  | _ => exact h.elim
 | halt x w' =>
  cases x with
  | panic v => exact h
  | _ => exact h.elim
theorem op_in {i : Nat} {a : Act} {w : World} {K : Act → World → Prop} (hnd : ∀ (i : Nat) (o : Oper), ops[i]? = some o → ∀ c, o.op ≠ .defer c) (hlo : ¬ LetsOut Q) (h : wpOp P ops Q i K a w) : wpOpIn (Fence.wide.inRound lr) n P ops Q i K a w := by
 unfold wpOp at h
 unfold wpOpIn
 cases ho : ops[i]? with
 | none => rw [ho] at h; exact h
 | some o =>
  rw [ho] at h
  dsimp only at h ⊢
  split
  ·rename_i hw
   rw [if_pos hw] at h
   rcases h with h | ⟨_, h⟩
   ·exact oper_in (hnd i o ho) h
   ·exact absurd h hlo
  ·rename_i hw
   rw [if_neg hw] at h
   exact ⟨fun _ _ => trivial, h⟩
theorem any_in (hnd : ∀ (i : Nat) (o : Oper), ops[i]? = some o → ∀ c, o.op ≠ .defer c) (hlo : ¬ LetsOut Q) : ∀ (fuel : Nat) (listed : Array Bool) (a : Act) (w : World), wpAny P md ops Q fuel listed a w → wpAnyIn (Fence.wide.inRound lr) n P md ops Q fuel listed a w
 | 0, _, _, _, h => h
 | fuel + 1, _, _, _, h => ⟨h.1, fun i hi => wpOpIn_mono (fun a w h => any_in hnd hlo fuel _ a w h) (op_in hnd hlo (h.2 i hi))⟩
def noDefer (o : Oper) : Bool := match o.op with | .defer _ => false | _ => true
theorem noDefer_spec (h : ops.all noDefer = true) : ∀ (i : Nat) (o : Oper), ops[i]? = some o → ∀ c, o.op ≠ .defer c := fun i o ho c hc => by
 have := Array.all_eq_true_iff_forall_mem.1 h o (Array.mem_of_getElem? ho)
 unfold noDefer at this
 rw [hc] at this
 cases this
theorem start_in {S : World → Prop} {ds : List Nat} {id m : Nat} {a : Act} {w : World} (l : Array Bool) (hm : P.follows .mixedOrders = true) (hn : ops.size = m) (hl : Array.replicate m false = l) (hS : S w.drew) (hnd : ops.all noDefer = true) (hlo : ¬ LetsOut Q)
  (h : S w.drew → wpAnyLast P .any ops Q S ds m l a w.drew) : (Code.region id ops true).wpIn (Fence.wide.inRound lr) n P Q a w := by
 subst hn
 subst hl
 exact wpIn_region_any hm (any_in (noDefer_spec hnd) hlo _ _ _ _ (wpAny_of_last _ _ _ _ (h hS)))
end
end Go.Proofs.Ytfpkakedlapmkaa.Q
end
section
namespace Go.Proofs.Ytfpkakedlapmkaa.Q
open Go.RowKit Go.Proofs.YtfpkakedlapmkaaW.PrintWords Go.Proofs.YtfpkakedlapmkaaW.PrintLast Go.Proofs.YtfpkakedlapmkaaW.PrintMore
set_option linter.unusedVariables false
set_option linter.unusedSimpArgs false

attribute [local go_sem] max2_int min2_int max_two min_two max_three min_three max_four min_four
/-! ### tree_New: function 35 -/
def tree_New.f  : Option ((List (S91))) := some (([(⟨(⟨#[]⟩ : ByteArray), ([] : List Int), (-1), ([] : List (S106)), ([] : List Int)⟩ : S91)] : List (S91)))
set_option maxHeartbeats 8000000 in
set_option maxRecDepth 100000 in
theorem tree_New.calls  (r : List (S91)) (w : World) (h : tree_New.f  = some r) :
  Calls Try.prog 35 #[] w fun e w' => ∃ v0_ : Value, e = .returned (v0_) ∧ Kd.R k91 91 w' w.heap.size (fun _ => True) v0_ r ∧ Below w.heap.size w w' := by
 have hu91 := Try.underlying91
 have HB := Aside0.mk (Below.refl w.heap.size w)
 have H : (some (([(⟨(⟨#[]⟩ : ByteArray), ([] : List Int), (-1), ([] : List (S106)), ([] : List Int)⟩ : S91)] : List (S91)))) = some r := h
 clear h
 obtain ⟨y36001, hy36001⟩ : ∃ y_ : List (S91), y_ = (([(⟨(⟨#[]⟩ : ByteArray), ([] : List Int), (-1), ([] : List (S106)), ([] : List Int)⟩ : S91)] : List (S91))) := ⟨_, rfl⟩
 replace H : (some y36001) = some r := by first | (rw [hy36001]; with_reducible exact H) | (have H2_ := (Option.bind_some _ _).symm.trans H; rw [hy36001]; with_reducible exact H2_) | (have H2_ := (Option.bind_some _ _).symm.trans H; with_reducible exact H2_) | with_reducible exact H | (rw [hy36001]; exact H) | exact H
 have Ny36001 := Aside0.mk hy36001
 clear hy36001
 obtain rfl := Option.some.inj H
 go_enter Try.func35, Try.ntmps35
 go_wp2_with (first | ((with_reducible refine gate_dst (N := 2) rfl ?_); refine Kd.R_lit k91 _ 91 ?hg (N := 2) ?hd (xs := ([(⟨(⟨#[]⟩ : ByteArray), ([] : List Int), (-1), ([] : List (S106)), ([] : List Int)⟩ : S91)] : List (S91))) (inner := [.string (⟨#[]⟩ : ByteArray), .slice none 0 0, .int .i64 (-1), .slice none 0 0, .slice none 0 0]) (ok := fun _ => True) (okp := fun _ => True) ?hr ?hp (fun _ hk => hk) trivial (Below.refl _ _) (Nat.le_refl _) (by simp) ?_; (case hd => rfl); (case hg => rfl); (case hr => first | (go_simp; done) | (go_simp; rfl)); (case hp => exact (Reps.c5 (show Kd.M k91 _ _ _ (⟨(⟨#[]⟩ : ByteArray), ([] : List Int), (-1), ([] : List (S106)), ([] : List Int)⟩ : S91) [.string (⟨#[]⟩ : ByteArray), .slice none 0 0, .int .i64 (-1), .slice none 0 0, .slice none 0 0] from (k91_mkM _ _ _ (⟨(⟨#[]⟩ : ByteArray), ([] : List Int), (-1), ([] : List (S106)), ([] : List Int)⟩ : S91) (Kd.R_nil _ _ _ _ _) (Kd.R_nil _ _ _ _ _) (Kd.R_nil _ _ _ _ _))) (Reps.none _ _))); intro v36002 w1 ho2 hb hg_ hnew_; clear hg_ hnew_; (first | rw [← Ny36001.out] at ho2 | (simp only [Int.reduceToNat] at ho2; rw [← Ny36001.out] at ho2)); have n0_ := Aside0.mk (Kd.R_lower ho2 (below_size (by repeat (first | (with_reducible first | exact HB.out | apply below_alloc | apply pw_below_drewN | apply below_drew1) | exact HB.out)))); have n1_ := Aside0.mk (below_step (by repeat (first | (with_reducible first | exact HB.out | apply below_alloc | apply pw_below_drewN | apply below_drew1) | exact HB.out)) hb); clear HB; have HO36003 := n0_; have HB := n1_; clear n0_ n1_; clear hb ho2))
 go_ret
 exact ⟨_, by first | rfl | (simp [errW_none, errW_some] <;> rfl) | (simp [*, errW_none, errW_some] <;> rfl), by (with_reducible repeat (first | apply Kd.R_alloc | apply Kd.R_drewN | apply Kd.R_drew)); exact HO36003.out, by repeat (first | (with_reducible first | exact HB.out | apply below_alloc | apply pw_below_drewN | apply below_drew1) | exact HB.out)⟩

end Go.Proofs.Ytfpkakedlapmkaa.Q
end
section
set_option linter.unusedSimpArgs false
set_option linter.unusedVariables false
namespace Go.Proofs.Ytfpkakedlapmkaa.Q
open Go.RowKit Go.Shelf Go.Proofs.YtfpkakedlapmkaaW.PrintWords Go.Proofs.YtfpkakedlapmkaaW.PrintLast
attribute [local go_sem] Oper.semAt_some
theorem event_stepN {P : Program} {ops : Array Oper} {o : Oper} {a : Act} {Q : Exit → Act → World → Prop} {Kc : Act → World → Prop} {N : Option Tmp} {W w1 : World} {v : Value} (hw : Region.wanted o (yielded ops a.tmps) = true) (hN : o.dst = N) (hrun : (execOp a.eval o).run P W = .ok (.value v) w1) (h : Kc (a.put N v) w1) :
  if Region.wanted o (yielded ops a.tmps) = true then Oper.wp P o a W Kc Q else Kc (a.put N undef) W := by
 subst hN
 exact event_step hw hrun h
theorem skip_stepN {P : Program} {ops : Array Oper} {o : Oper} {a : Act} {Q : Exit → Act → World → Prop} {Kc : Act → World → Prop} {N : Option Tmp} {W w1 : World} (hw : Region.wanted o (yielded ops a.tmps) = true) (hN : o.dst = N) (hrun : (execOp a.eval o).run P W = .ok .skip w1) (h : Kc (a.put N undef) w1) :
  if Region.wanted o (yielded ops a.tmps) = true then Oper.wp P o a W Kc Q else Kc (a.put N undef) W := by
 subst hN
 rw [if_pos hw]
 unfold Oper.wp
 rw [hrun]
 exact h
theorem word_exact (a : ByteArray) (b : Int) (w : World) :
  Calls Try.prog 37 #[.agg #[.string a, .int .i64 b]] w fun e w' => e = .returned (.agg #[.string a, .int .i64 (-1), .int .i64 1, .int .u32 (b % 4294967296), .slice none 0 0]) ∧ Below w.heap.size w w' := by
 have hu37 := Try.underlying37
 have hu51 := Try.underlying51
 go_enter Try.func37, Try.ntmps37
 go_wp2
 have hb := blk_new (w.alloc (.cells #[.string a, .int .i64 b] 37 (0, 0))) (.cells #[.string a, .int .i64 (-1), .int .i64 1, .int .u32 (b % 4294967296), .slice none 0 0] 51 (0, 0))
 rw [World.size_alloc] at hb
 exact bodyPost_ret (results_cell_row rfl _ _ (w.heap.size + 1) 51 #[.string a, .int .i64 (-1), .int .i64 1, .int .u32 (b % 4294967296), .slice none 0 0] (0, 0) _ rfl hb hu51 rfl (by kernel_rfl)) rfl ⟨rfl, below_alloc (below_alloc (Below.refl _ _) _) _⟩
def wordOf (p : S37) : S51 := ⟨p.f0, -1, 1, p.f1 % 4294967296, []⟩
def wordsN (pl : List S37) (k : Nat) : List S51 := (pl.take k).map wordOf
theorem wordsN_succ (pl : List S37) (k : Nat) (h : k < pl.length) : wordsN pl (k + 1) = wordsN pl k ++ [wordOf (pl.getD k z37)] := by
 unfold wordsN
 rw [List.take_succ_eq_append_getElem h, List.map_append, List.getD_eq_getElem?_getD, List.getElem?_eq_getElem h]
 rfl
theorem wordsN_len (pl : List S37) (k : Nat) (h : k ≤ pl.length) : (wordsN pl k).length = k := by
 unfold wordsN
 rw [List.length_map, List.length_take]
 omega
def mcells (v v5 : Value) : Array Value := #[.slice none 0 0, .slice none 0 0, v, .slice none 0 0, .int .u32 16, v5, .int .i64 (-1), .slice none 0 0, .int .i64 (-1), .string ⟨#[]⟩]
def NewI (pl : List S37) (v5 : Value) (wt : World) (k : Nat) (W : World) : Prop :=
 (∃ v, W.heap[wt.heap.size]? = some (.cells (mcells v v5) 32 (0, 0)) ∧ Kd.R k51 51 W (wt.heap.size + 1) (fun _ => True) v (wordsN pl k)) ∧ Below wt.heap.size wt W
theorem R_keptN {α : Type} {d : Kd α} {e base : Nat} {v : Value} {xs : List α} {X Y : World} {row : Option Nat} (h : Kd.R d e X base (fun _ => True) v xs) (hg : X.grownBy Y row) (hr : ∀ r, row = some r → ∃ o : Obj, X.heap[r]? = some o ∧ o.isCells = false) : Kd.R d e Y base (fun _ => True) v xs := by
 obtain ⟨h0, inner, hown, hreps⟩ := h
 have hne : ∀ k, (∃ cells q, X.heap[k]? = some (.cells cells q (0, 0))) → some k ≠ row := fun k ⟨cells, q, hk⟩ e2 => by
  obtain ⟨o, ho, hc⟩ := hr k e2.symm
  rw [hk] at ho
  cases ho
  cases hc
 refine ⟨h0, inner, own_move hown fun k hk => ?_, hreps.imp_ fun p c hp => ?_⟩
 ·obtain ⟨cells, hk2⟩ := own_typed hown k hk
  exact hg.block k (blk_lt hk2) (hne k ⟨cells, _, hk2⟩)
 ·refine d.M_mono (fun _ hk => hk.1) (d.M_move (fun k hk => ?_) (d.M_bound hp))
  obtain ⟨_, _, _, q, _, cells, hk2⟩ := hk
  exact hg.block k (blk_lt hk2) (hne k ⟨cells, q, hk2⟩)
theorem R_putD {α : Type} {d : Kd α} {e base D : Nat} {v : Value} {xs : List α} {X : World} {o o' : Obj} (h : Kd.R d e X base (fun _ => True) v xs) (hD : X.heap[D]? = some o) (hc : o.isCells = false) : Kd.R d e (X.putObj D o') base (fun _ => True) v xs :=
 R_keptN h (grownBy_putObj' X D o') (fun r e => by cases e; exact ⟨o, hD, hc⟩)
theorem newI_own (pl : List S37) (v5 : Value) (wt : World) (B : Nat) (hB : wt.heap.size ≤ B) : OwnFrom B (NewI pl v5 wt) :=
 OwnFrom.and (fun s X Y row h hg hr => by
  obtain ⟨v, h1, h2⟩ := h
  refine ⟨v, blk_grown h1 hg (fun e => ?_), R_keptN h2 hg (fun r e => (hr r e).2)⟩
  obtain ⟨_, o, ho, hc⟩ := hr _ e.symm
  rw [h1] at ho
  cases ho
  cases hc) (ownFrom_below (Nat.le_refl _) hB)
theorem newI_abs (pl : List S37) (v5 : Value) (wt : World) (k : Nat) (A B : World) (h : NewI pl v5 wt k A) (hab : AbA A B) : NewI pl v5 wt k B := by
 obtain ⟨⟨v, h1, h2⟩, h3⟩ := h
 exact ⟨⟨v, blk_below h1 hab, Kd.R_below h2 hab⟩, below_ab h3 hab⟩
def setAll (W : World) (g : Nat) : List Value → Nat → World
 | [], _ => W
 | u :: us, i => setAll (W.setCell ⟨g, i, none⟩ u) g us (i + 1)
def setA (cs : Array Value) : List Value → Nat → Array Value
 | [], _ => cs
 | u :: us, i => setA (cs.setIfInBounds i u) us (i + 1)
theorem setAll_blk {g t : Nat} : ∀ (us : List Value) (i : Nat) (W : World) (cs : Array Value), W.heap[g]? = some (.cells cs t (0, 0)) → (setAll W g us i).heap[g]? = some (.cells (setA cs us i) t (0, 0))
 | [], _, _, _, h => h
 | u :: us, i, W, cs, h => setAll_blk us (i + 1) _ _ (blk_put h i u rfl)
theorem setAll_R {α : Type} {d : Kd α} {e base g t : Nat} {ok : Nat → Prop} {v : Value} {xs : List α} (ht : ∀ q, q ∈ e :: d.E → q ≠ t) : ∀ (us : List Value) (i : Nat) (W : World) (cs : Array Value), W.heap[g]? = some (.cells cs t (0, 0)) → Kd.R d e W base ok v xs → Kd.R d e (setAll W g us i) base ok v xs
 | [], _, _, _, _, h => h
 | u :: us, i, W, cs, hb, h => setAll_R ht us (i + 1) _ _ (blk_put hb i u rfl) (Kd.R_set h hb ht i u)
theorem setAll_below {g : Nat} {w : World} (hg : w.heap.size ≤ g) : ∀ (us : List Value) (i : Nat) (W : World), Below w.heap.size w W → Below w.heap.size w (setAll W g us i)
 | [], _, _, h => h
 | u :: us, i, W, h => setAll_below hg us (i + 1) _ (below_set h hg)
theorem setAll_keeps {g : Nat} {A : World} : ∀ (us : List Value) (i : Nat) (W : World), KeepsOthers A W → KeepsOthers A (setAll W g us i)
 | [], _, _, h => h
 | u :: us, i, W, h => setAll_keeps us (i + 1) _ (h.trans (KeepsOthers.setCell _ _ _))
set_option maxRecDepth 100000 in
theorem new_end (pl : List S37) (w W X : World) (D : Nat) (hD : w.heap.size < D) (Av : Option Addr) (cv : Nat) (A5 : Option Addr) (c5 : Nat) (tmps : Array Value) (h0 : tmps.getD 0 undef = .pointer (some ⟨w.heap.size, 0, none⟩)) (hK : W.heap[D]? = some (.deferred (some [])))
  (hz : W.heap[w.heap.size]? = some (.cells #[.slice none 0 0, .slice none 0 0, .slice none 0 0, .slice none 0 0, .int .u32 0, .slice none 0 0, .int .i64 0, .slice none 0 0, .int .i64 0, .string ⟨#[]⟩] 32 (0, 0)))
  (hr1 : Kd.R k51 51 W w.heap.size (fun _ => True) (.slice Av 111 cv) (wordsN pl 111)) (hr2 : Kd.R k91 91 W w.heap.size (fun _ => True) (.slice A5 1 c5) [⟨⟨#[]⟩, [], -1, [], []⟩]) (hb : Below w.heap.size w W) (hX : X = setAll W w.heap.size [.slice none 0 0, .slice none 0 0, .slice Av 111 cv, .slice none 0 0, .int .u32 16, .slice A5 1 c5, .int .i64 (-1), .slice none 0 0, .int .i64 (-1), .string ⟨#[]⟩] 0) :
  bodyPostM Fence.wide 5 Try.prog Try.f12 (fun e w' => ∃ v v5, e = .returned (.agg (mcells v v5)) ∧ Kd.R k51 51 w' w.heap.size (fun _ => True) v (wordsN pl 111) ∧ Kd.R k91 91 w' w.heap.size (fun _ => True) v5 [⟨⟨#[]⟩, [], -1, [], []⟩] ∧ Below w.heap.size w w') Exit.ret { tmps := tmps, defers := [{ target := .collected D, args := #[] }] } X := by
 have g0 : X.heap[w.heap.size]? = some (.cells (mcells (.slice Av 111 cv) (.slice A5 1 c5)) 32 (0, 0)) := by
  have h := setAll_blk [.slice none 0 0, .slice none 0 0, .slice Av 111 cv, .slice none 0 0, .int .u32 16, .slice A5 1 c5, .int .i64 (-1), .slice none 0 0, .int .i64 (-1), .string ⟨#[]⟩] 0 W _ hz
  rw [← hX] at h
  rw [h]
  simp [setA, mcells]
 have g1 : Kd.R k51 51 X w.heap.size (fun _ => True) (.slice Av 111 cv) (wordsN pl 111) := by rw [hX]; exact setAll_R (by decide) _ 0 W _ hz hr1
 have g2 : Kd.R k91 91 X w.heap.size (fun _ => True) (.slice A5 1 c5) [⟨⟨#[]⟩, [], -1, [], []⟩] := by rw [hX]; exact setAll_R (by decide) _ 0 W _ hz hr2
 have g3 : Below w.heap.size w X := by rw [hX]; exact setAll_below (Nat.le_refl _) _ 0 W hb
 have g4 : X.heap[D]? = some (.deferred (some [])) := by rw [hX]; exact (setAll_keeps (g := w.heap.size) _ 0 W (KeepsOthers.refl W)).same D _ hK rfl
 clear hX hz hr1 hr2 hb hK
 have hu32 := Try.underlying32
 refine ⟨by simp, .inl ⟨_, _, rfl, run_takeDeferred g4, ?_⟩⟩
 have hne : w.heap.size ≠ D := by omega
 refine ⟨.agg (mcells (.slice Av 111 cv) (.slice A5 1 c5)), ?_, .slice Av 111 cv, .slice A5 1 c5, rfl, R_putD g1 g4 rfl, R_putD g2 g4 rfl, g3.trans (belowK_b (w := w) (Nat.le_refl _) X D _ _ (by omega) g4 rfl rfl)⟩
 exact results_cell_row Try.results12 tmps _ w.heap.size 32 (mcells (.slice Av 111 cv) (.slice A5 1 c5)) (0, 0) _ h0 ((World.putObj_heap_other hne).trans g0) hu32 rfl (by kernel_rfl)
set_option maxHeartbeats 4000000 in
set_option maxRecDepth 100000 in
theorem new_calls (pl : List S37) (hlen : pl.length = 111) (HP : ∀ X, Calls Try.prog 14 #[] X fun e w' => e = .returned (.slice (some ⟨X.heap.size, 0, none⟩) 111 111) ∧ w' = X.alloc (.cells (flat37 pl).toArray 37 (0, 0))) (w : World) :
  Calls Try.prog 12 #[] w fun e w' => ∃ v v5, e = .returned (.agg (mcells v v5)) ∧ Kd.R k51 51 w' w.heap.size (fun _ => True) v (wordsN pl 111) ∧ Kd.R k91 91 w' w.heap.size (fun _ => True) v5 [⟨⟨#[]⟩, [], -1, [], []⟩] ∧ Below w.heap.size w w' := by
 refine (callsIn_wide (n := 5)).1 ?_
 have hu32 := Try.underlying32
 have hu37 := Try.underlying37
 have hu51 := Try.underlying51
 have hu26 := Try.underlying26
 have mixed : Try.prog.follows Departure.mixedOrders = true := by kernel_rfl
 have HSq := Aside0.mk (fun W0 : World => prims_seq1 pl hlen HP 4 (by decide) W0)
 have HTN := Aside0.mk (fun X : World => tree_New.calls _ X rfl)
 clear HP
 have hLl : (primsV pl).length = 111 := by simp [primsV, hlen]
 refine callsIn_of_wp_marks Try.func12 rfl trivial ?_ rfl
 simp only [Try.ntmps12, List.size_toArray, List.length_cons, List.length_nil, Nat.reduceAdd, Nat.reduceSub, Array.replicate_succ, Array.replicate_zero, List.push_toArray, List.append_toArray, List.nil_append, List.cons_append]
 gi_wp2_with (refine ⟨trivial, ?_⟩; gi_at_call 35; refine (callsIn_wide.2 (HTN.out _)).mono ?_; rintro e wt ⟨v5, rfl, hT, hbt⟩; obtain ⟨A5, c5, hv5⟩ := Kd.R_slice hT; subst hv5; have HT := Aside0.mk hT; have HBT := Aside0.mk hbt; clear hT hbt)
 obtain ⟨v5, hv5⟩ : ∃ v5 : Value, v5 = .slice A5 1 c5 := ⟨_, rfl⟩
 have HTS := Aside0.mk HBT.out.size
 obtain ⟨W0, hW0⟩ : ∃ W0, W0 = wt.alloc (.cells (mcells (.slice none 0 0) v5) 32 (0, 0)) := ⟨_, rfl⟩
 have b1 : W0.heap[wt.heap.size]? = some (.cells (mcells (.slice none 0 0) v5) 32 (0, 0)) := by rw [hW0]; exact blk_new _ _
 have hB0 : Below wt.heap.size wt W0 := by rw [hW0]; exact below_alloc (Below.refl _ _) _
 have hs0 : W0.heap.size = wt.heap.size + 1 := by rw [hW0]; simp
 have e0 : wt.alloc (.cells #[.slice none 0 0, .slice none 0 0, .slice none 0 0, .slice none 0 0, .int .u32 16, .slice A5 1 c5, .int .i64 (-1), .slice none 0 0, .int .i64 (-1), .string ⟨#[]⟩] 32 (0, 0)) = W0 := by rw [hW0, hv5]; rfl
 rw [e0]
 clear hW0 e0
 refine wp_rangeL (by omega) (gf := 36) (lb := #[]) rfl (enters_of Try.func36 (by kernel_rfl) rfl)
  (HSq.out W0) abA_keeps kpB_t (fun W l o o' hl ho hoc _ => kpB_put ho hoc) ?hps
  (NewI pl v5 wt) (fun _ _ _ => False) (newI_own pl v5 wt _ (by omega)) (fun cc => fun _ _ _ _ h _ _ => h) (newI_abs pl v5 wt) (fun _ _ _ _ h _ => h)
  ⟨⟨.slice none 0 0, b1, Kd.R_nil _ _ _ _ _⟩, hB0⟩
  (AxP pl wt.heap.size (fun k b x => #[.pointer (some ⟨w.heap.size, 0, none⟩), .pointer (some ⟨wt.heap.size, 0, none⟩), undef, .pointer (some ⟨b, 0, none⟩), .slice A5 1 c5, .agg #[.slice none 0 0, .slice none 0 0, .slice none 0 0, .slice none 0 0, .int .u32 16, .slice A5 1 c5, .int .i64 (-1), .slice none 0 0, .int .i64 (-1), .string ⟨#[]⟩], .int .i64 (k : Int), .agg #[.string x.f0, .int .i64 x.f1], undef, undef, undef, undef, undef, undef, undef, undef])) (fun k a' W l o o' hl ho hc h => axP_put _ _ _ k a' W l o o' ho hc h) ?assign ?body ?done ?stop
 case hps =>
  intro x hx
  obtain ⟨p, _, rfl⟩ := List.mem_map.1 hx
  rfl
 case assign =>
  intro l' k hk W K hI hK
  obtain ⟨x, hx⟩ : ∃ x, x = pl.getD k z37 := ⟨_, rfl⟩
  have e : (primsV pl)[k] = #[.int .i64 k, .agg #[.string x.f0, .int .i64 x.f1]] := by rw [hx]; simp [primsV, pV]
  rw [e]
  have hab : AbA W (W.alloc (.cells #[.string x.f0, .int .i64 x.f1] 37 (0, 0))) := below_alloc (Below.refl _ _) _
  have hK2 := hK _ (W.alloc (.cells #[.string x.f0, .int .i64 x.f1] 37 (0, 0))) ⟨W.heap.size, hI.2.size, by rw [← hx]; exact blk_new W _, rfl⟩ (KeepsOthers.alloc _ _) (kpB_below hab) (newI_abs pl v5 wt k _ _ hI hab)
  rw [← hx] at hK2
  clear e hx hK hI
  gi_wp2
  exact hK2
 case body =>
  rintro l' k a' W hk0 ⟨b, hb0, hbx, rfl⟩ ⟨⟨v, h1, hRv⟩, hB⟩
  have hk : k < 111 := by omega
  obtain ⟨x, hx⟩ : ∃ x, x = pl.getD k z37 := ⟨_, rfl⟩
  rw [← hx] at hbx
  simp only [← hx]
  have HX := Aside0.mk hx
  obtain ⟨Av, cv, hv⟩ := Kd.R_slice hRv
  obtain ⟨xs, hxs⟩ : ∃ xs, xs = wordsN pl k := ⟨_, rfl⟩
  rw [← hxs] at hRv hv
  have HXS := Aside0.mk hxs
  have HXL := Aside0.mk (show xs.length = k by rw [hxs]; exact wordsN_len pl k (by omega))
  subst hv
  clear hx hxs
  have HS := Aside0.mk (show ∀ Y : World, Below W.heap.size W Y → Y.cell? ⟨wt.heap.size, 2, none⟩ = some (.slice Av xs.length cv) ∧ Y.cell? ⟨b, 0, none⟩ = some (.string x.f0) ∧ Y.cell? ⟨b, 1, none⟩ = some (.int .i64 x.f1) from fun Y hY => ⟨(blk_cell (blk_below h1 hY) 2).trans rfl, (blk_cell (blk_below hbx hY) 0).trans rfl, (blk_cell (blk_below hbx hY) 1).trans rfl⟩)
  have hHeld0 := below_drew1 (Below.refl W.heap.size W)
  gi_wp2
  refine start_in (m := 8) (S := fun w' => Below W.heap.size W w') (ds := [5, 7]) #[false, false, false, false, false, false, false, false] (by kernel_rfl) rfl rfl hHeld0 (by kernel_rfl) (fun ⟨_, _, h⟩ => h) (fun hHeld => ?_)
  refine pure_ (i := 0) (N := some 8) (v := ?_) (a' := ?_) #[true, false, false, false, false, false, false, false] rfl rfl (by kernel_rfl) (fun _ _ _ h => h) (Or.inl ⟨by rfl, ?_⟩) ?_ ?_
  rotate_left
  ·intro w'
   go_simp
   with_reducible rfl
  rotate_left
  ·simp only [Act.put, List.setIfInBounds_toArray, List.set_cons_zero, List.set_cons_succ]
   rfl
  refine take_ (i := 1) (N := some 9) (v := .slice Av xs.length cv) (a' := ?_) #[true, true, false, false, false, false, false, false] rfl rfl (by kernel_rfl) (fun _ _ _ h => h) (Or.inl ⟨by rfl, ?_⟩) hHeld ?_ ?_
  rotate_left
  rotate_left
  ·simp only [Act.put, List.setIfInBounds_toArray, List.set_cons_zero, List.set_cons_succ]
   rfl
  rotate_left
  ·rintro w' s0
   have y := (HS.out _ s0).1
   go_simp
  refine take_ (i := 2) (N := some 10) (v := .agg #[.string x.f0, .int .i64 x.f1]) (a' := ?_) #[true, true, true, false, false, false, false, false] rfl rfl (by kernel_rfl) (fun _ _ _ h => h) (Or.inl ⟨by rfl, ?_⟩) hHeld ?_ ?_
  rotate_left
  rotate_left
  ·simp only [Act.put, List.setIfInBounds_toArray, List.set_cons_zero, List.set_cons_succ]
   rfl
  rotate_left
  ·rintro w' s0
   have y0 := (HS.out _ s0).2.1
   have y1 := (HS.out _ s0).2.2
   go_simp
  refine one_ (i := 3) (N := some 11) #[true, true, true, true, false, false, false, false] rfl rfl (by kernel_rfl) (by decide) (fun K hK => ?_)
  refine goes_ Try.func37 (by kernel_rfl) rfl #[.agg #[.string x.f0, .int .i64 x.f1]] (by rfl) rfl rfl (by first | rfl | (simp only [List.map_toArray, List.map_cons, List.map_nil]; rfl)) ?_
  refine (word_exact x.f0 x.f1 _).mono ?_
  rintro e X ⟨rfl, hbX⟩
  have hHX : Below W.heap.size W X := below_step hHeld hbX
  refine ⟨_, rfl, hK.out _ _ hHX (fun hHeld => ?_)⟩
  clear hK K
  simp only [Act.put, List.setIfInBounds_toArray, List.set_cons_zero, List.set_cons_succ]
  refine one_ (i := 4) (N := some 12) #[true, true, true, true, true, false, false, false] rfl rfl (by kernel_rfl) (by decide) (fun K hK => ?_)
  refine event_stepN (by rfl) rfl (v := .slice (some ⟨X.heap.size, 0, none⟩) 1 1) (w1 := X.alloc (.cells #[.string x.f0, .int .i64 (-1), .int .i64 1, .int .u32 (x.f1 % 4294967296), .slice none 0 0] 51 (0, 0))) (by first | (go_simp; done) | (go_simp; rfl)) (hK.out _ _ (below_alloc hHX _) (fun hHeld => ?_))
  clear hK K
  simp only [Act.put, List.setIfInBounds_toArray, List.set_cons_zero, List.set_cons_succ]
  have hRX : Kd.R k51 51 X (wt.heap.size + 1) (fun _ => True) (.slice Av xs.length cv) xs := Kd.R_below hRv hHX
  have hBX : Below wt.heap.size wt X := below_step hB hHX
  refine last_ (i := 5) (N := some 13) #[true, true, true, true, true, true, false, false] rfl rfl (by kernel_rfl) (by decide) (fun K hK => ?_)
  refine Kd.R_append_step k51 (w0 := X) (wt.heap.size + 1) (by rfl) (.tmp 9) (.tmp 12) 26 51 _ 64 rfl hu26 info51 rfl (by decide) (by decide) (.slice Av xs.length cv) xs (wordOf x) [.string x.f0, .int .i64 (-1), .int .i64 1, .int .u32 (x.f1 % 4294967296), .slice none 0 0] (fun _ => True) (fun _ => False) rfl rfl (k51_mkM _ _ _ (wordOf x) (Kd.R_nil _ _ _ _ _)) (fun _ h => h.elim) (fun _ _ => trivial) hRX (Below.refl _ _) ?_ (by have := HXL.out; omega) ?_
  ·have := blk_lt (blk_below h1 hHX); omega
  intro v1 w1 ho hb hg hat
  refine hK.out _ _ ?_
  clear hK K
  simp only [Act.put, List.getElem_toArray, List.getElem_cons_succ, List.getElem_cons_zero, List.setIfInBounds_toArray, List.set_cons_zero, List.set_cons_succ]
  have hty : ∀ g, some g = (Value.slice Av xs.length cv).ownBlock → ∃ cells, X.heap[g]? = some (.cells cells 51 (0, 0)) := fun g e => (by obtain ⟨_, inner, hown, _⟩ := hRX; exact own_typed hown g e.symm)
  have h1X := blk_below h1 hHX
  have h1w : w1.heap[wt.heap.size]? = some (.cells (mcells (.slice Av xs.length cv) v5) 32 (0, 0)) := blk_grown h1X hg (fun e => by obtain ⟨cc, hcc⟩ := hty _ e; rw [h1X] at hcc; cases hcc)
  have hc1 := (blk_cell h1w 2).trans rfl
  have hf1 := blk_frozen h1w 2
  have HO := Aside0.mk ho
  clear ho
  refine pure_ (i := 6) (N := some 14) (v := ?_) (a' := ?_) #[true, true, true, true, true, true, true, false] rfl rfl (by kernel_rfl) (fun _ _ _ h => h) (Or.inl ⟨by rfl, ?_⟩) ?_ ?_
  rotate_left
  ·intro w'
   go_simp
   with_reducible rfl
  rotate_left
  ·simp only [Act.put, List.setIfInBounds_toArray, List.set_cons_zero, List.set_cons_succ]
   rfl
  refine last_ (i := 7) (N := none) #[true, true, true, true, true, true, true, true] rfl rfl (by kernel_rfl) (by decide) (fun K hK => ?_)
  refine skip_stepN (by rfl) rfl (w1 := w1.setCell ⟨wt.heap.size, 2, none⟩ v1) ?_ (hK.out _ _ ?_)
  ·obtain ⟨Aw, cw, rfl⟩ := Kd.R_slice HO.out
   first | (go_simp; done) | (go_simp; rfl)
  clear hK K
  refine done_ (n := 0) (by kernel_rfl) ?_
  refine ⟨?_, fun cc e => ?_, ⟨v1, blk_put h1w 2 v1 rfl, ?_⟩, below_set (hBX.trans (hb.mono (Nat.le_succ _))) (Nat.le_refl _)⟩
  ·exact ((KeepsOthers.of_grownBy (grown_of_below hHX none) (fun _ _ h => by cases h)).trans (KeepsOthers.of_grownBy hg (fun j o hj hjo => by obtain ⟨cc, hcc⟩ := hty j hj.symm; rw [hcc] at hjo; cases hjo; rfl))).trans (KeepsOthers.setCell _ _ _)
  ·exact blk_far (blk_grown (blk_below e hHX) hg (fun e2 => by obtain ⟨c3, hcc⟩ := hty _ e2; rw [blk_below e hHX] at hcc; cases hcc)) (by show W0.heap.size + 2 ≠ wt.heap.size; omega) _
  ·rw [wordsN_succ pl k (by omega), ← HX.out, ← HXS.out]
   exact Kd.R_set HO.out h1w (by decide) 2 v1
 case done =>
  rintro D W hD ⟨⟨v, h1, hRv⟩, hB⟩ hK
  have h0 := blk_below (blk_below (blk_new w (.cells #[.slice none 0 0, .slice none 0 0, .slice none 0 0, .slice none 0 0, .int .u32 0, .slice none 0 0, .int .i64 0, .slice none 0 0, .int .i64 0, .string ⟨#[]⟩] 32 (0, 0))) HBT.out) hB
  have hT := Kd.R_below HT.out hB
  rw [hLl] at hRv
  have HRV := Aside0.mk hRv
  have HTT := Aside0.mk hT
  have H0 := Aside0.mk h0
  obtain ⟨Av, cv, hv⟩ := Kd.R_slice hRv
  have hlw : (wordsN pl 111).length = 111 := wordsN_len pl 111 (by omega)
  rw [hlw] at hv
  have HLW := Aside0.mk hlw
  subst hv
  subst hv5
  have z0 : W.cell? ⟨wt.heap.size, 0, none⟩ = some (.slice none 0 0) := (blk_cell h1 0).trans rfl
  have z1 : W.cell? ⟨wt.heap.size, 1, none⟩ = some (.slice none 0 0) := (blk_cell h1 1).trans rfl
  have z2 : W.cell? ⟨wt.heap.size, 2, none⟩ = some (.slice Av 111 cv) := (blk_cell h1 2).trans rfl
  have z3 : W.cell? ⟨wt.heap.size, 3, none⟩ = some (.slice none 0 0) := (blk_cell h1 3).trans rfl
  have z4 : W.cell? ⟨wt.heap.size, 4, none⟩ = some (.int .u32 16) := (blk_cell h1 4).trans rfl
  have z5 : W.cell? ⟨wt.heap.size, 5, none⟩ = some (.slice A5 1 c5) := (blk_cell h1 5).trans rfl
  have z6 : W.cell? ⟨wt.heap.size, 6, none⟩ = some (.int .i64 (-1)) := (blk_cell h1 6).trans rfl
  have z7 : W.cell? ⟨wt.heap.size, 7, none⟩ = some (.slice none 0 0) := (blk_cell h1 7).trans rfl
  have z8 : W.cell? ⟨wt.heap.size, 8, none⟩ = some (.int .i64 (-1)) := (blk_cell h1 8).trans rfl
  have z9 : W.cell? ⟨wt.heap.size, 9, none⟩ = some (.string ⟨#[]⟩) := (blk_cell h1 9).trans rfl
  have y0 := (blk_cell h0 0).trans rfl
  have f0 := blk_frozen h0 0
  have y1 := (blk_cell h0 1).trans rfl
  have f1 := blk_frozen h0 1
  have y2 := (blk_cell h0 2).trans rfl
  have f2 := blk_frozen h0 2
  have y3 := (blk_cell h0 3).trans rfl
  have f3 := blk_frozen h0 3
  have y4 := (blk_cell h0 4).trans rfl
  have f4 := blk_frozen h0 4
  have y5 := (blk_cell h0 5).trans rfl
  have f5 := blk_frozen h0 5
  have y6 := (blk_cell h0 6).trans rfl
  have f6 := blk_frozen h0 6
  have y7 := (blk_cell h0 7).trans rfl
  have f7 := blk_frozen h0 7
  have y8 := (blk_cell h0 8).trans rfl
  have f8 := blk_frozen h0 8
  have y9 := (blk_cell h0 9).trans rfl
  have f9 := blk_frozen h0 9
  clear hlw hRv hT
  gi_wp2
  have hsz := HBT.out.size
  rw [World.size_alloc] at hsz
  have hb9 : Below w.heap.size w W := (below_alloc (Below.refl w.heap.size w) _).trans ((HBT.out.mono (by rw [World.size_alloc]; exact Nat.le_succ _)).trans (hB.mono (by omega)))
  exact new_end pl w W _ D (by omega) Av cv A5 c5 _ rfl hK H0.out (Kd.R_lower HRV.out (by omega)) (Kd.R_lower HTT.out (by rw [World.size_alloc]; omega)) hb9 rfl
 case stop =>
  rintro D cc k W hD hkk h hK
  exact h.elim
end Go.Proofs.Ytfpkakedlapmkaa.Q
end
section
set_option linter.unusedSimpArgs false
set_option linter.unusedVariables false
namespace Go.Proofs.Ytfpkakedlapmkaa.Q
open Go.RowKit Go.Shelf Go.Proofs.YtfpkakedlapmkaaW.PrintWords Go.Proofs.YtfpkakedlapmkaaW.PrintLast
attribute [local go_sem] Oper.semAt_some
/-- A word as a value: A, c where its code lies. -/
def wV (x : S51) (p : Option Addr × Nat) : Value := .agg #[.string x.f0, .int .i64 x.f1, .int .i64 x.f2, .int .u32 x.f3, .slice p.1 x.f4.length p.2]
def isN51 (s : ByteArray) (x : S51) : Bool := (!s.toList.isEmpty) && (x.f0.toList == s.toList)
def isM51 (s : ByteArray) (n : Int) (x : S51) : Bool := (!s.toList.isEmpty) && (decide (0 ≤ n) && ((x.f0.toList == s.toList) && (x.f1 == n)))
set_option maxHeartbeats 1000000 in
set_option maxRecDepth 100000 in
theorem findC_calls (s : ByteArray) (gb : Nat) (x : S51) (p : Option Addr × Nat) (w : World) (hh : w.heap[gb]? = some (.cells #[.string s] 9 (0, 0))) :
  Calls Try.prog 40 #[wV x p, .pointer (some ⟨gb, 0, none⟩)] w fun e w' => e = .returned (.bool (isN51 s x)) ∧ Below w.heap.size w w' := by
 have hu51 := Try.underlying51
 have HH := Aside0.mk hh
 have HLT := Aside0.mk (blk_lt hh)
 clear hh
 unfold wV isN51
 by_cases d1 : s.toList.isEmpty = true
 ·rw [d1]
  go_enter Try.func40, Try.ntmps40
  go_wp2_with (first | ((with_reducible refine gate_dst (N := 2) rfl ?_); refine box_event ?hg (N := 2) ?hd (cs := #[.string x.f0, .int .i64 x.f1, .int .i64 x.f2, .int .u32 x.f3, .slice p.1 x.f4.length p.2]) (t := 51) ?hr ?_; (case hd => rfl); (case hg => rfl); (case hr => first | (go_simp; done) | (go_simp; rfl)); intro ga hg w1 hbox hb; have BK := Aside0.mk hbox; have hz0 := (blk_cell BK.out 0).trans rfl; have hf0 := blk_frozen BK.out 0; have hz1 := (blk_cell BK.out 1).trans rfl; have hf1 := blk_frozen BK.out 1; have hz2 := (blk_cell BK.out 2).trans rfl; have hf2 := blk_frozen BK.out 2; have hz3 := (blk_cell BK.out 3).trans rfl; have hf3 := blk_frozen BK.out 3; have hz4 := (blk_cell BK.out 4).trans rfl; have hf4 := blk_frozen BK.out 4; have hs : w1.cell? ⟨gb, 0, none⟩ = some (.string s) := (hb.cell (p := ⟨gb, 0, none⟩) HLT.out).trans ((blk_cell HH.out 0).trans rfl); have HB := Aside0.mk hb; clear hbox hb hg))
  go_ret
  exact ⟨by simp, HB.out⟩
 ·replace d1 : s.toList.isEmpty = false := by simpa using d1
  rw [d1]
  go_enter Try.func40, Try.ntmps40
  go_wp2_with (first | ((with_reducible refine gate_dst (N := 2) rfl ?_); refine box_event ?hg (N := 2) ?hd (cs := #[.string x.f0, .int .i64 x.f1, .int .i64 x.f2, .int .u32 x.f3, .slice p.1 x.f4.length p.2]) (t := 51) ?hr ?_; (case hd => rfl); (case hg => rfl); (case hr => first | (go_simp; done) | (go_simp; rfl)); intro ga hg w1 hbox hb; have BK := Aside0.mk hbox; have hz0 := (blk_cell BK.out 0).trans rfl; have hf0 := blk_frozen BK.out 0; have hz1 := (blk_cell BK.out 1).trans rfl; have hf1 := blk_frozen BK.out 1; have hz2 := (blk_cell BK.out 2).trans rfl; have hf2 := blk_frozen BK.out 2; have hz3 := (blk_cell BK.out 3).trans rfl; have hf3 := blk_frozen BK.out 3; have hz4 := (blk_cell BK.out 4).trans rfl; have hf4 := blk_frozen BK.out 4; have hs : w1.cell? ⟨gb, 0, none⟩ = some (.string s) := (hb.cell (p := ⟨gb, 0, none⟩) HLT.out).trans ((blk_cell HH.out 0).trans rfl); have HB := Aside0.mk hb; clear hbox hb hg))
  go_ret
  exact ⟨by simp, HB.out⟩
def lastP (P : S51 → Bool) (l : List S51) : Int × Bool := match l.reverse.findIdx? P with
 | some j => (((l.length - 1 - j : Nat) : Int), true)
 | none => (0, false)
theorem rev_at (l : List S51) (j : Nat) (h : j < l.length) : l.reverse[j]'(by rw [List.length_reverse]; exact h) = l.getD (l.length - 1 - j) z51 := by
 rw [List.getElem_reverse, List.getD_eq_getElem?_getD, List.getElem?_eq_getElem (by omega)]
 rfl
theorem lastP_none (P : S51 → Bool) (l : List S51) (h : ∀ j, j < l.length → P (l.getD (l.length - 1 - j) z51) = false) : lastP P l = (0, false) := by
 have : l.reverse.findIdx? P = none := by
  rw [List.findIdx?_eq_none_iff]
  intro x hx
  obtain ⟨j, hj, rfl⟩ := List.mem_iff_getElem.1 hx
  rw [List.length_reverse] at hj
  rw [rev_at l j hj]
  exact h j hj
 rw [lastP, this]
theorem lastP_some (P : S51 → Bool) (l : List S51) (j : Nat) (hj : j < l.length) (h0 : P (l.getD (l.length - 1 - j) z51) = true) (h : ∀ i, i < j → P (l.getD (l.length - 1 - i) z51) = false) : lastP P l = (((l.length - 1 - j : Nat) : Int), true) := by
 have : l.reverse.findIdx? P = some j := by
  rw [List.findIdx?_eq_some_iff_getElem]
  refine ⟨by rw [List.length_reverse]; exact hj, ?_, fun i hi => ?_⟩
  ·rw [rev_at l j hj]; exact h0
  ·rw [rev_at l i (by omega), h i hi]; simp
 rw [lastP, this]
/-- Where the words' codes lie. -/
def WordsAt (l : List S51) (ad : Addr) (V : Nat → Option Addr × Nat) (w : World) : Prop :=
 ∀ i, i < l.length → w.cell? (ad.add (i * 5)) = some (.string (l.getD i z51).f0) ∧ w.cell? ⟨(ad.add (i * 5)).block, (ad.add (i * 5)).off + 1, none⟩ = some (.int .i64 (l.getD i z51).f1) ∧ w.cell? ⟨(ad.add (i * 5)).block, (ad.add (i * 5)).off + 2, none⟩ = some (.int .i64 (l.getD i z51).f2) ∧ w.cell? ⟨(ad.add (i * 5)).block, (ad.add (i * 5)).off + 3, none⟩ = some (.int .u32 (l.getD i z51).f3) ∧ w.cell? ⟨(ad.add (i * 5)).block, (ad.add (i * 5)).off + 4, none⟩ = some (.slice (V i).1 (l.getD i z51).f4.length (V i).2)
theorem wordsAt_of (l : List S51) (A : Option Addr) (w : World) (h : Kd.C k51 w A l.length l) : ∃ (ad : Addr) (V : Nat → Option Addr × Nat), (0 < l.length → A = some ad) ∧ WordsAt l ad V w ∧ ∀ i, i < l.length → k69.C w (V i).1 (l.getD i z51).f4.length (l.getD i z51).f4 := by
 rcases Nat.eq_zero_or_pos l.length with h0 | h0
 ·exact ⟨⟨0, 0, none⟩, fun _ => (none, 0), fun h2 => absurd h2 (by omega), fun i hi => absurd hi (by omega), fun i hi => absurd hi (by omega)⟩
 ·obtain ⟨ad, _, _, hA, _⟩ := at_T51 h 0 (by omega) (by omega)
  have hx : ∀ i : Nat, ∃ p : Option Addr × Nat, i < l.length → (w.cell? (ad.add (i * 5)) = some (.string (l.getD i z51).f0) ∧ w.cell? ⟨(ad.add (i * 5)).block, (ad.add (i * 5)).off + 1, none⟩ = some (.int .i64 (l.getD i z51).f1) ∧ w.cell? ⟨(ad.add (i * 5)).block, (ad.add (i * 5)).off + 2, none⟩ = some (.int .i64 (l.getD i z51).f2) ∧ w.cell? ⟨(ad.add (i * 5)).block, (ad.add (i * 5)).off + 3, none⟩ = some (.int .u32 (l.getD i z51).f3) ∧ w.cell? ⟨(ad.add (i * 5)).block, (ad.add (i * 5)).off + 4, none⟩ = some (.slice p.1 (l.getD i z51).f4.length p.2)) ∧ k69.C w p.1 (l.getD i z51).f4.length (l.getD i z51).f4 := fun i => by
   by_cases hi : i < l.length
   ·obtain ⟨ad2, A4, c4, e, h1, h2, h3, h4, h5, _, h6⟩ := at_T51 h i (by omega) (by omega)
    rw [hA] at e
    cases e
    exact ⟨(A4, c4), fun _ => ⟨⟨h1, h2, h3, h4, h5⟩, h6⟩⟩
   ·exact ⟨(none, 0), fun h => absurd h hi⟩
  exact ⟨ad, fun i => (hx i).choose, fun _ => hA, fun i hi => ((hx i).choose_spec hi).1, fun i hi => ((hx i).choose_spec hi).2⟩
theorem wordsAt_below {l : List S51} {ad : Addr} {V : Nat → Option Addr × Nat} {w W : World} (h : WordsAt l ad V w) (hb : Below w.heap.size w W) : WordsAt l ad V W := fun i hi => by
 obtain ⟨h1, h2, h3, h4, h5⟩ := h i hi
 exact ⟨pw_cell_below hb h1, pw_cell_below hb h2, pw_cell_below hb h3, pw_cell_below hb h4, pw_cell_below hb h5⟩
/-- What slices.Backward hands on. -/
def backV (l : List S51) (V : Nat → Option Addr × Nat) (k : Nat) : Array Value := #[.int .i64 ((l.length - 1 - k : Nat) : Int), wV (l.getD (l.length - 1 - k) z51) (V (l.length - 1 - k))]
set_option maxHeartbeats 2000000 in
set_option maxRecDepth 100000 in
theorem back_seq (n : Nat) (hn : 2 ≤ n) (Bs : Nat) (A : Option Addr) (c : Nat) (l : List S51) (ad : Addr) (V : Nat → Option Addr × Nat) (hA : 0 < l.length → A = some ad) (hm : l.length ≤ 9223372036854775807) (w : World) (hBs : w.heap[Bs]? = some (.cells #[.slice A l.length c] 26 (0, 0))) (hV : WordsAt l ad V w) :
  SeqL n Try.prog 89 #[.pointer (some ⟨Bs, 0, none⟩)] AbA (Below w.heap.size) ((List.range l.length).map (backV l V)) w := by
 intro lp J Jx W hW hsz hJ hJx hY h0
 have hu51 := Try.underlying51
 have hu26 := Try.underlying26
 have HBs := Aside0.mk hBs
 have HV := Aside0.mk hV
 have HW := Aside0.mk hW
 have hLn : ((List.range l.length).map (backV l V)).length = l.length := by simp
 have hk1 : (IntKind.i64.wrap ((l.length : Int) - 1)) = (l.length : Int) - 1 := (i64_w _).trans (by unfold wrap64; omega)
 have hk2 : wrap64 ((l.length : Int) - 1) = (l.length : Int) - 1 := by unfold wrap64; omega
 have hcs := (blk_cell (blk_below HBs.out HW.out) 0).trans rfl
 clear hBs hV hW hsz
 refine callsIn_of_wp Try.func89 rfl trivial ?_ rfl
 simp only [Try.ntmps89, List.size_toArray, List.length_cons, List.length_nil, Nat.reduceAdd, Nat.reduceSub, Array.replicate_succ, Array.replicate_zero, List.push_toArray, List.append_toArray, List.nil_append, List.cons_append]
 have h1n : 1 ≤ n := by omega
 gi_wp2
 gi_loopw [3] (fun v wr => ∃ k : Nat, v = .int .i64 ((l.length : Int) - 1 - k) ∧ k ≤ l.length ∧ J k wr ∧ Below w.heap.size W wr) (fun v _ => (intOf v + 1).toNat)
 case atStart => exact ⟨0, by simp, by omega, h0, Below.refl _ _⟩
 case round =>
  obtain ⟨k, rfl, hk, hJk, hB0⟩ := hrel
  have hB := HW.out.trans hB0
  have HB0 := Aside0.mk hB0
  clear hcs hB0
  have hcs := (blk_cell (blk_below HBs.out hB) 0).trans rfl
  by_cases h : k = l.length
  ·have e : (l.length : Int) - 1 - k = -1 := by omega
   rw [e]
   have HK := Aside0.mk h
   clear h hk e
   gi_wp2
   go_end0
   exact ⟨⟨_, rfl⟩, .inl (by rw [hLn, ← HK.out]; exact hJk)⟩
  ·obtain ⟨i, hi⟩ : ∃ i, i = l.length - 1 - k := ⟨_, rfl⟩
   have e : (l.length : Int) - 1 - k = (i : Int) := by omega
   rw [e]
   have d1 : decide ((0 : Int) ≤ (i : Int)) = true := decide_eq_true (by omega)
   have hil : i < l.length := by omega
   obtain rfl := hA (by omega)
   obtain ⟨g0, g1, g2, g3, g4⟩ := wordsAt_below HV.out hB i hil
   obtain ⟨x, hx⟩ : ∃ x, x = l.getD i z51 := ⟨_, rfl⟩
   obtain ⟨q, hq⟩ : ∃ q, q = V i := ⟨_, rfl⟩
   rw [← hx] at g0 g1 g2 g3 g4
   rw [← hq] at g4
   have hki : k < ((List.range l.length).map (backV l V)).length := by omega
   have hL : ((List.range l.length).map (backV l V))[k] = #[.int .i64 (i : Int), .agg #[.string x.f0, .int .i64 x.f1, .int .i64 x.f2, .int .u32 x.f3, .slice q.1 x.f4.length q.2]] := by
    rw [List.getElem_map, List.getElem_range, backV, ← hi, ← hx, ← hq]
    rfl
   have q1 : (0 ≤ (i : Int)) = True := eq_true (by omega)
   have q2 : ((i : Int) < (l.length : Int)) = True := eq_true (by omega)
   have q3 : ((i : Int)).toNat = i := by omega
   have q4 : IntKind.i64.wrap ((i : Int) - 1) = (i : Int) - 1 := (i64_w _).trans (by unfold wrap64; omega)
   have q5 : wrap64 ((i : Int) - 1) = (i : Int) - 1 := by unfold wrap64; omega
   obtain ⟨fn, tmps, assign, body, hy, hR⟩ := hY k hki wr hJk
   rw [hL] at hy
   have HI := Aside0.mk hki
   have HX := Aside0.mk (show ((i : Int) - 1) = (l.length : Int) - 1 - ((k + 1 : Nat) : Int) ∧ k + 1 ≤ l.length from ⟨by omega, by omega⟩)
   clear hx hq hL e h hi hk hil hA
   gi_wp2
   refine hR.mono ?_
   rintro e W3 (⟨rfl, hJ3, hk3⟩ | ⟨rfl, hJx3⟩)
   ·have hk4 : Below w.heap.size W W3 := HB0.out.trans hk3
    gi_wp2
    go_roundw
    case rel => exact ⟨k + 1, by rw [HX.out.1], HX.out.2, hJ3, hk4⟩
    case measure => first | (simp [intOf]; done) | (simp [intOf]; omega)
   ·gi_wp2
    refine bodyPost_ret (results_none rfl _ _ _) rfl ?_
    exact ⟨⟨_, rfl⟩, .inr ⟨k + 1, by rw [hLn]; exact HX.out.2, hJx3⟩⟩
theorem back_in (A : Option Addr) (len cap : Nat) (w : World) :
  CallsIn Fence.wide 4 Try.prog 70 #[.slice A len cap] w fun e w' => e = .returned (.func (.func 89) #[] #[.pointer (some ⟨w.heap.size, 0, none⟩)]) ∧ w' = w.alloc (.cells #[.slice A len cap] 26) := by
 refine callsIn_of_wp Try.func70 rfl trivial ?_ rfl
 simp only [Try.ntmps70, List.size_toArray, List.length_cons, List.length_nil, Nat.reduceAdd, Nat.reduceSub, Array.replicate_succ, Array.replicate_zero, List.push_toArray, List.append_toArray, List.nil_append, List.cons_append]
 gi_wp2
 go_ret
 exact ⟨by simp, rfl⟩
def LastI (P : S51 → Bool) (l : List S51) (W0 : World) (k : Nat) (W : World) : Prop := (∀ j, j < k → P (l.getD (l.length - 1 - j) z51) = false) ∧ Below W0.heap.size W0 W
def LastX (P : S51 → Bool) (l : List S51) (w : World) (cc : Code) (k : Nat) (W : World) : Prop :=
 ((cc = .ret ∧ ∃ j : Nat, j < l.length ∧ P (l.getD (l.length - 1 - j) z51) = true ∧ (∀ i, i < j → P (l.getD (l.length - 1 - i) z51) = false) ∧ Boxed W (w.heap.size + 1 + 1) 3 (.int .i64 ((l.length - 1 - j : Nat) : Int))) ∧ Boxed W (w.heap.size + 1 + 1 + 1) 4 (.bool true)) ∧ Below w.heap.size w W
theorem lastI_own (P : S51 → Bool) (l : List S51) (W0 : World) (B : Nat) (hB : W0.heap.size ≤ B) : OwnFrom B (LastI P l W0) :=
 OwnFrom.and (fun _ _ _ _ h _ _ => h) (ownFrom_below (Nat.le_refl _) hB)
theorem lastX_own (P : S51 → Bool) (l : List S51) (w : World) (cc : Code) (B : Nat) (hB : w.heap.size ≤ B) : OwnFrom B (LastX P l w cc) :=
 OwnFrom.and (OwnFrom.and (fun s X Y row h hg hr => ⟨h.1, by obtain ⟨i, h1, h2, h3, h4⟩ := h.2; exact ⟨i, h1, h2, h3, (Own.from (boxed_own (β := Nat) _ _ (fun _ => .int .i64 ((l.length - 1 - i : Nat) : Int))) B) s X Y row h4 hg hr⟩⟩) (Own.from (boxed_own _ _ _) _)) (ownFrom_below (Nat.le_refl _) hB)
theorem lastI_abs (P : S51 → Bool) (l : List S51) (W0 : World) (k : Nat) (A B : World) (h : LastI P l W0 k A) (hab : AbA A B) : LastI P l W0 k B := ⟨h.1, below_ab h.2 hab⟩
theorem lastX_abs (P : S51 → Bool) (l : List S51) (w : World) (cc : Code) (k : Nat) (A B : World) (h : LastX P l w cc k A) (hab : AbA A B) : LastX P l w cc k B := by
 obtain ⟨⟨⟨h0, i, h1, h2, h3, h4⟩, h5⟩, h6⟩ := h
 exact ⟨⟨⟨h0, i, h1, h2, h3, boxed_below h4 hab⟩, boxed_below h5 hab⟩, below_ab h6 hab⟩
def AxL (l : List S51) (V : Nat → Option Addr × Nat) (n0 : Nat) (tm : Nat → Nat → S51 → Option Addr × Nat → Array Value) (k : Nat) (a' : Act) (W : World) : Prop :=
 ∃ b, n0 ≤ b ∧ (∃ x p, x = l.getD (l.length - 1 - k) z51 ∧ p = V (l.length - 1 - k) ∧ W.heap[b]? = some (.cells #[.string x.f0, .int .i64 x.f1, .int .i64 x.f2, .int .u32 x.f3, .slice p.1 x.f4.length p.2] 51 (0, 0)) ∧ a' = { tmps := tm (l.length - 1 - k) b x p, defers := [] })
theorem blk_put_obj {b l : Nat} {W : World} {o o' : Obj} {cs : Array Value} {t : TypeId} (ho : W.heap[l]? = some o) (hc : o.isCells = false) (e : W.heap[b]? = some (.cells cs t (0, 0))) : (W.putObj l o').heap[b]? = some (.cells cs t (0, 0)) := by
 have hne : l ≠ b := by
  intro h2
  subst h2
  rw [ho] at e
  cases e
  cases hc
 exact (World.putObj_heap_other (fun h2 => hne h2.symm)).trans e
theorem axL_put (l : List S51) (V : Nat → Option Addr × Nat) (n0 : Nat) (tm : Nat → Nat → S51 → Option Addr × Nat → Array Value) (k : Nat) (a' : Act) (W : World) (lp : Nat) (o o' : Obj) (ho : W.heap[lp]? = some o) (hc : o.isCells = false) (h : AxL l V n0 tm k a' W) : AxL l V n0 tm k a' (W.putObj lp o') := by
 obtain ⟨b, hb0, x, p, hx, hp, hb, rfl⟩ := h
 exact ⟨b, hb0, x, p, hx, hp, blk_put_obj ho hc hb, rfl⟩
set_option maxHeartbeats 4000000 in
set_option maxRecDepth 100000 in
theorem last40_calls (P : S51 → Bool) (gb : Nat) (v0 v1 : Value) (A : Option Addr) (c : Nat) (l : List S51) (v3 : Value) (a4 : Int) (v5 : Value) (a6 : Int) (v7 : Value) (a8 : Int) (a9 : ByteArray) (w : World) (hC : Kd.C k51 w A l.length l)
  (hF : ∀ X : World, Below w.heap.size w X → ∀ (x : S51) (p : Option Addr × Nat), Calls Try.prog 40 #[.agg #[.string x.f0, .int .i64 x.f1, .int .i64 x.f2, .int .u32 x.f3, .slice p.1 x.f4.length p.2], .pointer (some ⟨gb, 0, none⟩)] X fun e w' => e = .returned (.bool (P x)) ∧ Below X.heap.size X w') :
  Calls Try.prog 39 #[.agg #[v0, v1, .slice A l.length c, v3, .int .u32 a4, v5, .int .i64 a6, v7, .int .i64 a8, .string a9], .func (.func 40) #[] #[.pointer (some ⟨gb, 0, none⟩)]] w fun e w' => e = .returned (.tuple #[.int .i64 (lastP P l).1, .bool (lastP P l).2]) ∧ Below w.heap.size w w' := by
 refine (callsIn_wide (n := 5)).1 ?_
 have hu51 := Try.underlying51
 obtain ⟨ad, V, hA, hV, _⟩ := wordsAt_of l A w hC
 have hm := Kd.C_max hC
 have HF := Aside0.mk hF
 have HV := Aside0.mk hV
 have HA := Aside0.mk hA
 have HM := Aside0.mk hm
 obtain ⟨R, hR⟩ : ∃ R, R = lastP P l := ⟨_, rfl⟩
 rw [← hR]
 obtain ⟨r1, r2⟩ := R
 have HR := Aside0.mk hR
 clear hR hF hV hA hC hm
 refine callsIn_of_wp_marks Try.func39 rfl trivial ?_ rfl
 simp only [Try.ntmps39, List.size_toArray, List.length_cons, List.length_nil, Nat.reduceAdd, Nat.reduceSub, Array.replicate_succ, Array.replicate_zero, List.push_toArray, List.append_toArray, List.nil_append, List.cons_append]
 gi_wp2_with (refine ⟨trivial, ?_⟩; gi_at_call 70; refine (back_in _ _ _ _).mono ?_; rintro e w' ⟨rfl, rfl⟩)
 obtain ⟨W0, hW0⟩ : ∃ W0, W0 = ((((w.alloc (.cells #[v0, v1, .slice A l.length c, v3, .int .u32 a4, v5, .int .i64 a6, v7, .int .i64 a8, .string a9] 32)).alloc (.cells #[.func (.func 40) #[] #[.pointer (some ⟨gb, 0, none⟩)]] 65)).alloc (.cells #[.int .i64 0] 3)).alloc (.cells #[.bool false] 4)).alloc (.cells #[.slice A l.length c] 26) := ⟨_, rfl⟩
 have b1 : Boxed W0 (w.heap.size + 1) 65 (.func (.func 40) #[] #[.pointer (some ⟨gb, 0, none⟩)]) := by
  rw [hW0]
  have h := (((Boxed.new (w.alloc (.cells #[v0, v1, .slice A l.length c, v3, .int .u32 a4, v5, .int .i64 a6, v7, .int .i64 a8, .string a9] 32)) 65 (.func (.func 40) #[] #[.pointer (some ⟨gb, 0, none⟩)])).alloc (.cells #[.int .i64 0] 3)).alloc (.cells #[.bool false] 4)).alloc (.cells #[.slice A l.length c] 26)
  rw [World.size_alloc] at h
  exact h
 have b2 : Boxed W0 (w.heap.size + 1 + 1) 3 (.int .i64 0) := by
  rw [hW0]
  have h := ((Boxed.new ((w.alloc (.cells #[v0, v1, .slice A l.length c, v3, .int .u32 a4, v5, .int .i64 a6, v7, .int .i64 a8, .string a9] 32)).alloc (.cells #[.func (.func 40) #[] #[.pointer (some ⟨gb, 0, none⟩)]] 65)) 3 (.int .i64 0)).alloc (.cells #[.bool false] 4)).alloc (.cells #[.slice A l.length c] 26)
  rw [World.size_alloc, World.size_alloc] at h
  exact h
 have b3 : Boxed W0 (w.heap.size + 1 + 1 + 1) 4 (.bool false) := by
  rw [hW0]
  have h := (Boxed.new (((w.alloc (.cells #[v0, v1, .slice A l.length c, v3, .int .u32 a4, v5, .int .i64 a6, v7, .int .i64 a8, .string a9] 32)).alloc (.cells #[.func (.func 40) #[] #[.pointer (some ⟨gb, 0, none⟩)]] 65)).alloc (.cells #[.int .i64 0] 3)) 4 (.bool false)).alloc (.cells #[.slice A l.length c] 26)
  rw [World.size_alloc, World.size_alloc, World.size_alloc] at h
  exact h
 have b4 : W0.heap[w.heap.size + 1 + 1 + 1 + 1]? = some (.cells #[.slice A l.length c] 26 (0, 0)) := by
  rw [hW0]
  have h := blk_new ((((w.alloc (.cells #[v0, v1, .slice A l.length c, v3, .int .u32 a4, v5, .int .i64 a6, v7, .int .i64 a8, .string a9] 32)).alloc (.cells #[.func (.func 40) #[] #[.pointer (some ⟨gb, 0, none⟩)]] 65)).alloc (.cells #[.int .i64 0] 3)).alloc (.cells #[.bool false] 4)) (.cells #[.slice A l.length c] 26 (0, 0))
  rw [World.size_alloc, World.size_alloc, World.size_alloc, World.size_alloc] at h
  exact h
 have hB0 : Below w.heap.size w W0 := by rw [hW0]; exact below_alloc (below_alloc (below_alloc (below_alloc (below_alloc (Below.refl _ _) _) _) _) _) _
 have hs0 : W0.heap.size = w.heap.size + 5 := by rw [hW0]; simp
 rw [← hW0]
 clear hW0
 have hLl : ((List.range l.length).map (backV l V)).length = l.length := by simp
 refine wp_rangeL (by omega) (gf := 89) (lb := #[.pointer (some ⟨w.heap.size + 1 + 1 + 1 + 1, 0, none⟩)]) rfl (enters_of Try.func89 (by kernel_rfl) rfl)
  (back_seq 4 (by decide) _ A c l ad V HA.out HM.out W0 b4 (wordsAt_below HV.out hB0)) abA_keeps (fun h k => h.trans k) (fun W lp o o' hl ho hoc hwk => belowK_b (w := W0) (Nat.le_refl _) W lp o o' hl ho hoc hwk) ?hps
  (LastI P l W0) (LastX P l w) (lastI_own P l W0 _ (Nat.le_refl _)) (fun cc => lastX_own P l w cc _ (by omega)) (lastI_abs P l W0) (lastX_abs P l w)
  ⟨fun j hj => absurd hj (by omega), Below.refl _ _⟩
  (AxL l V w.heap.size (fun i b x p => #[.agg #[v0, v1, .slice A l.length c, v3, .int .u32 a4, v5, .int .i64 a6, v7, .int .i64 a8, .string a9], .func (.func 40) #[] #[.pointer (some ⟨gb, 0, none⟩)], .pointer (some ⟨w.heap.size, 0, none⟩), .pointer (some ⟨w.heap.size + 1, 0, none⟩), .pointer (some ⟨w.heap.size + 1 + 1, 0, none⟩), .pointer (some ⟨w.heap.size + 1 + 1 + 1, 0, none⟩), .int .i64 (i : Int), .pointer (some ⟨b, 0, none⟩), .pointer (some ⟨w.heap.size, 2, none⟩), .slice A l.length c, .func (.func 89) #[] #[.pointer (some ⟨w.heap.size + 1 + 1 + 1 + 1, 0, none⟩)], .int .i64 (i : Int), .agg #[.string x.f0, .int .i64 x.f1, .int .i64 x.f2, .int .u32 x.f3, .slice p.1 x.f4.length p.2], undef, undef, undef, undef])) (fun k a' W lp o o' hl ho hc h => axL_put _ _ _ _ k a' W lp o o' ho hc h) ?assign ?body ?done ?stop
 case hps =>
  intro x hx
  obtain ⟨p, _, rfl⟩ := List.mem_map.1 hx
  rfl
 case assign =>
  intro l' k hk W K hI hK
  obtain ⟨i, hi⟩ : ∃ i, i = l.length - 1 - k := ⟨_, rfl⟩
  obtain ⟨x, hx⟩ : ∃ x, x = l.getD i z51 := ⟨_, rfl⟩
  obtain ⟨p, hp⟩ : ∃ p, p = V i := ⟨_, rfl⟩
  have e : ((List.range l.length).map (backV l V))[k] = #[.int .i64 (i : Int), .agg #[.string x.f0, .int .i64 x.f1, .int .i64 x.f2, .int .u32 x.f3, .slice p.1 x.f4.length p.2]] := by
   rw [List.getElem_map, List.getElem_range, backV, ← hi, ← hx, ← hp]
   rfl
  rw [e]
  have hab : AbA W (W.alloc (.cells #[.string x.f0, .int .i64 x.f1, .int .i64 x.f2, .int .u32 x.f3, .slice p.1 x.f4.length p.2] 51 (0, 0))) := below_alloc (Below.refl _ _) _
  have hK2 := hK { tmps := (fun i b x p => #[.agg #[v0, v1, .slice A l.length c, v3, .int .u32 a4, v5, .int .i64 a6, v7, .int .i64 a8, .string a9], .func (.func 40) #[] #[.pointer (some ⟨gb, 0, none⟩)], .pointer (some ⟨w.heap.size, 0, none⟩), .pointer (some ⟨w.heap.size + 1, 0, none⟩), .pointer (some ⟨w.heap.size + 1 + 1, 0, none⟩), .pointer (some ⟨w.heap.size + 1 + 1 + 1, 0, none⟩), .int .i64 (i : Int), .pointer (some ⟨b, 0, none⟩), .pointer (some ⟨w.heap.size, 2, none⟩), .slice A l.length c, .func (.func 89) #[] #[.pointer (some ⟨w.heap.size + 1 + 1 + 1 + 1, 0, none⟩)], .int .i64 (i : Int), .agg #[.string x.f0, .int .i64 x.f1, .int .i64 x.f2, .int .u32 x.f3, .slice p.1 x.f4.length p.2], undef, undef, undef, undef]) i W.heap.size x p, defers := [] } (W.alloc (.cells #[.string x.f0, .int .i64 x.f1, .int .i64 x.f2, .int .u32 x.f3, .slice p.1 x.f4.length p.2] 51 (0, 0))) ⟨W.heap.size, Nat.le_trans hB0.size hI.2.size, x, p, by rw [← hi]; exact hx, by rw [← hi]; exact hp, blk_new W _, by rw [← hi]⟩ (KeepsOthers.alloc _ _) (hab.mono hI.2.size) (lastI_abs P l W0 k _ _ hI hab)
  clear e hx hK hI hi hp
  gi_wp2
  exact hK2
 case body =>
  rintro l' k a' W hk0 ⟨b, hb0, x, p, hx, hp, hbx, rfl⟩ ⟨hne, hB⟩
  have hk : k < l.length := by omega
  have h1 := boxed_below b1 hB
  have h2 := boxed_below b2 hB
  have h3 := boxed_below b3 hB
  have hBw : Below w.heap.size w W := hB0.trans (hB.mono (by omega))
  obtain ⟨i, hi⟩ : ∃ i, i = l.length - 1 - k := ⟨_, rfl⟩
  rw [← hi] at hx hp
  rw [← hi]
  have cx0 := (blk_cell hbx 0).trans rfl
  have cx1 := (blk_cell hbx 1).trans rfl
  have cx2 := (blk_cell hbx 2).trans rfl
  have cx3 := (blk_cell hbx 3).trans rfl
  have cx4 := (blk_cell hbx 4).trans rfl
  have hc1 := h1.cell
  have HC := Aside0.mk (HF.out W hBw x p)
  have HX := Aside0.mk hx
  have HI := Aside0.mk hi
  have HK := Aside0.mk hk
  cases hd : P x with
  | true =>
   rw [hd] at HC
   have HD := Aside0.mk hd
   clear hx hp hi hk0 hd hk hbx
   gi_wp2_with (refine ⟨trivial, ?_⟩; gi_at_call 40; refine (CallsIn.inRound l' (callsIn_wide.2 HC.out)).mono ?_; rintro e X ⟨rfl, hbX⟩; have g2 := boxed_below h2 hbX; have g3 := boxed_below h3 hbX; have hc2 := g2.cell; have hf2 := g2.frozen; have hc3 := g3.cell; have hf3 := g3.frozen)
   have hi := HI.out
   exact ⟨(KeepsOthers.of_grownBy (grown_of_below hbX none) (fun _ _ h => by cases h)).trans ((KeepsOthers.setCell _ _ _).trans (KeepsOthers.setCell _ _ _)), ⟨⟨rfl, k, HK.out, by rw [← hi, ← HX.out]; exact HD.out, hne, by rw [← hi]; exact (g2.set _).other (by omega) _⟩, (g3.other (by omega) _).set _⟩, below_set (below_set (below_step hBw hbX) (by omega)) (by omega)⟩
  | false =>
   rw [hd] at HC
   have HD := Aside0.mk hd
   clear hx hp hi hk0 hd hk hbx
   gi_wp2_with (refine ⟨trivial, ?_⟩; gi_at_call 40; refine (CallsIn.inRound l' (callsIn_wide.2 HC.out)).mono ?_; rintro e X ⟨rfl, hbX⟩)
   have hi := HI.out
   exact ⟨KeepsOthers.of_grownBy (grown_of_below hbX none) (fun _ _ h => by cases h), hbX.mono hB.size, ⟨fun j hj => by
    rcases Nat.lt_or_eq_of_le (Nat.le_of_lt_succ hj) with h | h
    ·exact hne j h
    ·rw [h, ← hi, ← HX.out]; exact HD.out, below_step hB hbX⟩⟩
 case done =>
  rintro D W hD ⟨hne, hB1⟩ hK
  have h2 := boxed_below b2 hB1
  have h3 := boxed_below b3 hB1
  have hB : Below w.heap.size w W := hB0.trans (hB1.mono (by omega))
  rw [hLl] at hne
  have hpr := lastP_none P l hne
  obtain ⟨rfl, rfl⟩ := Prod.mk.injEq .. ▸ (HR.out.trans hpr)
  have hc2 := h2.cell
  have hf2 := h2.frozen
  have hc3 := h3.cell
  have hf3 := h3.frozen
  clear hpr
  gi_wp2
  exact cells_end 39 _ Try.results39 w _ _ _ D ⟨by omega, by omega, by omega⟩ _ _ _ rfl rfl (((KeepsOthers.setCell _ _ _).trans (KeepsOthers.setCell _ _ _)).same D _ hK rfl) ((h2.set _).other (by omega) _) ((h3.other (by omega) _).set _) (below_set (below_set hB (by omega)) (by omega))
 case stop =>
  rintro D cc k W hD hkk ⟨⟨⟨rfl, j, hj, hx, hne, h2⟩, h3⟩, hB⟩ hK
  obtain ⟨rfl, rfl⟩ := Prod.mk.injEq .. ▸ (HR.out.trans (lastP_some P l j hj hx hne))
  clear hx
  gi_wp2
  exact cells_end 39 _ Try.results39 w _ _ _ D ⟨by omega, by omega, by omega⟩ _ _ _ rfl rfl hK h2 h3 hB
set_option maxHeartbeats 1000000 in
set_option maxRecDepth 100000 in
theorem find_calls (v0 v1 : Value) (A : Option Addr) (c : Nat) (l : List S51) (v3 : Value) (a4 : Int) (v5 : Value) (a6 : Int) (v7 : Value) (a8 : Int) (a9 : ByteArray) (s : ByteArray) (w : World) (hC : Kd.C k51 w A l.length l) :
  Calls Try.prog 16 #[.agg #[v0, v1, .slice A l.length c, v3, .int .u32 a4, v5, .int .i64 a6, v7, .int .i64 a8, .string a9], .string s] w fun e w' => e = .returned (.tuple #[.int .i64 (lastP (isN51 s) l).1, .bool (lastP (isN51 s) l).2]) ∧ Below w.heap.size w w' := by
 have HC := Aside0.mk hC
 obtain ⟨R, hR⟩ : ∃ R, R = lastP (isN51 s) l := ⟨_, rfl⟩
 rw [← hR]
 have HL := Aside0.mk (fun (X : World) (gb : Nat) (hX : Below w.heap.size w X) (hg : X.heap[gb]? = some (.cells #[.string s] 9 (0, 0))) => last40_calls (isN51 s) gb v0 v1 A c l v3 a4 v5 a6 v7 a8 a9 X (Kd.C_below hC hX) (fun Y hY x p => findC_calls s gb x p Y (blk_below hg hY)))
 simp only [← hR] at HL
 clear hR hC
 have hb := blk_new (w.alloc (.cells #[v0, v1, .slice A l.length c, v3, .int .u32 a4, v5, .int .i64 a6, v7, .int .i64 a8, .string a9] 32 (0, 0))) (.cells #[.string s] 9 (0, 0))
 rw [World.size_alloc] at hb
 have HBK := Aside0.mk hb
 clear hb
 go_enter Try.func16, Try.ntmps16
 go_wp2_with (go_at_call 39; refine (HL.out _ _ (below_alloc (below_alloc (Below.refl _ _) _) _) HBK.out).mono ?_; rintro e w' ⟨rfl, hb⟩; have HB := Aside0.mk (below_step (below_alloc (below_alloc (Below.refl _ _) _) _) hb); clear hb)
 go_ret2
 exact ⟨rfl, HB.out⟩
def dict_Find.f (l0_0 : List Int) (l0_1 : List Int) (l0_2 : List (S51)) (l0_3 : List Int) (a0_4 : Int) (l0_5 : List (S91)) (a0_6 : Int) (l0_7 : List (S82)) (a0_8 : Int) (a0_9 : ByteArray) (a1 : ByteArray) : Option (Int × Bool) := some (lastP (isN51 a1) l0_2)
def dict_Method.f (l0_0 : List Int) (l0_1 : List Int) (l0_2 : List (S51)) (l0_3 : List Int) (a0_4 : Int) (l0_5 : List (S91)) (a0_6 : Int) (l0_7 : List (S82)) (a0_8 : Int) (a0_9 : ByteArray) (a1 : Int) (a2 : ByteArray) : Option (Int × Bool) := some (lastP (isM51 a2 a1) l0_2)
end Go.Proofs.Ytfpkakedlapmkaa.Q
end
section
set_option linter.unusedSimpArgs false
set_option linter.unusedVariables false
namespace Go.Proofs.Ytfpkakedlapmkaa.Q
open Go.RowKit Go.Shelf Go.Proofs.YtfpkakedlapmkaaW.PrintWords Go.Proofs.YtfpkakedlapmkaaW.PrintLast
attribute [local go_sem] Oper.semAt_some
theorem store_stepN {P : Program} {ops : Array Oper} {o : Oper} {a : Act} {Q : Exit → Act → World → Prop} {Kc : Act → World → Prop} {N : Option Tmp} {W : World} (hw : Region.wanted o (yielded ops a.tmps) = true) (hN : o.dst = N) (t : TypeId) (p x : Operand) (ho : o.op = .store t p x)
  {g : Nat} {cs : Array Value} {e : TypeId} (u : Value) (seg : List Value) (haddr : a.eval p = .pointer (some ⟨g, 0, none⟩)) (hx : a.eval x = u) (hu : u.cells.toList = seg) (ht : (P.info? t).map (·.size) = some seg.length) (h1 : ∀ q ∈ seg, q.oneCell' = true)
  (hh : W.heap[g]? = some (.cells cs e (0, 0))) (hsz : cs.size = seg.length)
  (h : ∀ w1, w1.heap[g]? = some (.cells seg.toArray e (0, 0)) → W.grownBy w1 (some g) → Kc (a.put N undef) w1) : if Region.wanted o (yielded ops a.tmps) = true then Oper.wp P o a W Kc Q else Kc (a.put N undef) W := by
 have hrun := run_store_run (P := P) t u seg hh hu ht (show 0 + seg.length ≤ cs.size by omega) h1
 subst hN
 rw [if_pos hw]
 unfold Oper.wp execOp
 simp only [ho, haddr, hx, Sem.run_bind, Sem.run_pure, Result.andThen_ok, hrun]
 refine h _ ?_ ?_
 ·obtain ⟨cur', h1, h2, h3⟩ := setCells_row seg 0 W cs hh (by omega)
  rw [h1]
  have : cur' = seg.toArray := by
   apply Array.toList_inj.1
   rw [h3, List.take_zero, List.nil_append, Nat.zero_add, List.drop_eq_nil_of_le (by rw [Array.length_toList]; omega), List.append_nil]
  rw [this]
 ·obtain ⟨h2, h3, h4, h5⟩ := setCells_same g seg 0 W
  exact ⟨h2, h3, h4, by omega, fun k _ hk => setCells_far seg 0 k (fun e => hk (by rw [e]))⟩
def wOk (x : S51) (p : S37) : Bool := (x.f0.toList == p.f0.toList) && ((x.f1 == -1) && ((x.f2 == 1) && ((x.f3 == p.f1 % 4294967296) && decide (x.f4.length = 0))))
def WordsI (pl : List S37) (l : List S51) (W0 : World) (k : Nat) (W : World) : Prop := (∀ j, j < k → wOk (l.getD j z51) (pl.getD j z37) = true) ∧ Below W0.heap.size W0 W
def WordsX (pl : List S37) (l : List S51) (w : World) (cc : Code) (k : Nat) (W : World) : Prop :=
 (cc = .ret ∧ (∃ j : Nat, j < 111 ∧ wOk (l.getD j z51) (pl.getD j z37) = false) ∧ Boxed W (w.heap.size + 1) 4 (.bool false)) ∧ Below w.heap.size w W
theorem wordsI_own (pl : List S37) (l : List S51) (W0 : World) (B : Nat) (hB : W0.heap.size ≤ B) : OwnFrom B (WordsI pl l W0) :=
 OwnFrom.and (fun _ _ _ _ h _ _ => h) (ownFrom_below (Nat.le_refl _) hB)
theorem wordsX_own (pl : List S37) (l : List S51) (w : World) (cc : Code) (B : Nat) (hB : w.heap.size ≤ B) : OwnFrom B (WordsX pl l w cc) :=
 OwnFrom.and (fun s X Y row h hg hr => ⟨h.1, h.2.1, (Own.from (boxed_own (β := Nat) _ _ (fun _ => .bool false)) B) s X Y row h.2.2 hg hr⟩) (ownFrom_below (Nat.le_refl _) hB)
theorem wordsI_abs (pl : List S37) (l : List S51) (W0 : World) (k : Nat) (A B : World) (h : WordsI pl l W0 k A) (hab : AbA A B) : WordsI pl l W0 k B := ⟨h.1, below_ab h.2 hab⟩
theorem wordsX_abs (pl : List S37) (l : List S51) (w : World) (cc : Code) (k : Nat) (A B : World) (h : WordsX pl l w cc k A) (hab : AbA A B) : WordsX pl l w cc k B :=
 ⟨⟨h.1.1, h.1.2.1, boxed_below h.1.2.2 hab⟩, below_ab h.2 hab⟩
set_option maxRecDepth 100000 in
theorem cell_end1 (F : Func) (hres : F.results = #[.cell 2 4]) (w X : World) (B2 D : Nat) (hD : D ≠ B2 ∧ w.heap.size ≤ D) (tmps : Array Value) (bb : Bool) (ht2 : tmps.getD 2 undef = .pointer (some ⟨B2, 0, none⟩))
  (hK : X.heap[D]? = some (.deferred (some []))) (g1 : Boxed X B2 4 (.bool bb)) (hB : Below w.heap.size w X) :
  bodyPostM Fence.wide 5 Try.prog F (fun e W' => e = .returned (.bool bb) ∧ Below w.heap.size w W') Exit.ret { tmps := tmps, defers := [{ target := .collected D, args := #[] }] } X := by
 refine ⟨by simp, .inl ⟨_, _, rfl, run_takeDeferred hK, ?_⟩⟩
 have k1 : Boxed (X.putObj D (.deferred none)) B2 4 (.bool bb) := (World.putObj_heap_other (by omega)).trans g1
 have c1 := k1.cell
 refine ⟨_, ?_, rfl, hB.trans (belowK_b (w := w) (Nat.le_refl _) X D _ _ (by omega) hK rfl rfl)⟩
 rw [Array.getD_eq_getD_getElem?] at ht2
 simp [results, hres, go_sem, ht2, c1]
def wordsF (pl : List S37) (l : List S51) : Bool := (List.range 111).all fun j => wOk (l.getD j z51) (pl.getD j z37)
theorem wordsF_true (pl : List S37) (l : List S51) (h : ∀ j, j < 111 → wOk (l.getD j z51) (pl.getD j z37) = true) : wordsF pl l = true := by
 unfold wordsF
 rw [List.all_eq_true]
 exact fun j hj => h j (List.mem_range.1 hj)
theorem wordsF_false (pl : List S37) (l : List S51) (j : Nat) (hj : j < 111) (h : wOk (l.getD j z51) (pl.getD j z37) = false) : wordsF pl l = false := by
 cases hh : wordsF pl l with
 | false => rfl
 | true =>
  unfold wordsF at hh
  rw [List.all_eq_true] at hh
  have := hh j (List.mem_range.2 hj)
  rw [h] at this
  cases this
set_option maxHeartbeats 4000000 in
set_option maxRecDepth 100000 in
theorem wordsRight_calls (pl : List S37) (hlen : pl.length = 111) (HP : ∀ X, Calls Try.prog 14 #[] X fun e w' => e = .returned (.slice (some ⟨X.heap.size, 0, none⟩) 111 111) ∧ w' = X.alloc (.cells (flat37 pl).toArray 37 (0, 0)))
  (v0 v1 : Value) (ad : Addr) (c : Nat) (l : List S51) (v3 : Value) (a4 : Int) (v5 : Value) (a6 : Int) (v7 : Value) (a8 : Int) (a9 : ByteArray) (w : World) (hC : Kd.C k51 w (some ad) l.length l) (hl1 : 111 ≤ l.length) (hl2 : l.length ≤ 640) (hcl : l.length ≤ c) (tb : Bool)
  (hT : ∀ X : World, Below w.heap.size w X → X.heap[w.heap.size]? = some (.cells #[v0, v1, .slice (some ad) l.length c, v3, .int .u32 a4, v5, .int .i64 a6, v7, .int .i64 a8, .string a9] 32 (0, 0)) → Calls Try.prog 79 #[.slice (if c = 111 then some ad else some (ad.add 555)) (l.length - 111) (c - 111), .func (.func 80) #[] #[.pointer (some ⟨w.heap.size, 0, none⟩)]] X fun e w' => e = .returned (.bool tb) ∧ Below X.heap.size X w') :
  Calls Try.prog 47 #[.agg #[v0, v1, .slice (some ad) l.length c, v3, .int .u32 a4, v5, .int .i64 a6, v7, .int .i64 a8, .string a9]] w fun e w' => e = .returned (.bool (wordsF pl l && !tb)) ∧ Below w.heap.size w w' := by
 refine (callsIn_wide (n := 5)).1 ?_
 have hu32 := Try.underlying32
 have hu37 := Try.underlying37
 have hu51 := Try.underlying51
 have hu26 := Try.underlying26
 have HSq := Aside0.mk (fun W0 : World => prims_seq1 pl hlen HP 4 (by decide) W0)
 obtain ⟨ad2, V, hA, hV, _⟩ := wordsAt_of l (some ad) w hC
 have hA2 := hA (by omega)
 cases hA2
 clear hA hC HP
 have HV := Aside0.mk hV
 have HT := Aside0.mk hT
 clear hV hT
 obtain ⟨R, hR⟩ : ∃ R, R = (wordsF pl l && !tb) := ⟨_, rfl⟩
 have hRR : (wordsF pl l && !tb) = R := hR.symm
 rw [hRR]
 have HR := Aside0.mk hR
 clear hR hRR
 have hLl : (primsV pl).length = 111 := by simp [primsV, hlen]
 have d1 : decide ((640 : Int) < (l.length : Int)) = false := decide_eq_false (by omega)
 have d2 : decide ((l.length : Int) < 111) = false := decide_eq_false (by omega)
 refine callsIn_of_wp_marks Try.func47 rfl trivial ?_ rfl
 simp only [Try.ntmps47, List.size_toArray, List.length_cons, List.length_nil, Nat.reduceAdd, Nat.reduceSub, Array.replicate_succ, Array.replicate_zero, List.push_toArray, List.append_toArray, List.nil_append, List.cons_append]
 gi_wp2
 obtain ⟨W0, hW0⟩ : ∃ W0, W0 = (w.alloc (.cells #[v0, v1, .slice (some ad) l.length c, v3, .int .u32 a4, v5, .int .i64 a6, v7, .int .i64 a8, .string a9] 32)).alloc (.cells #[.bool false] 4) := ⟨_, rfl⟩
 have b0 : W0.heap[w.heap.size]? = some (.cells #[v0, v1, .slice (some ad) l.length c, v3, .int .u32 a4, v5, .int .i64 a6, v7, .int .i64 a8, .string a9] 32 (0, 0)) := by rw [hW0]; exact blk_alloc (blk_new w _) _
 have b1 : Boxed W0 (w.heap.size + 1) 4 (.bool false) := by
  rw [hW0]
  have h := Boxed.new (w.alloc (.cells #[v0, v1, .slice (some ad) l.length c, v3, .int .u32 a4, v5, .int .i64 a6, v7, .int .i64 a8, .string a9] 32)) 4 (.bool false)
  rw [World.size_alloc] at h
  exact h
 have hB0 : Below w.heap.size w W0 := by rw [hW0]; exact below_alloc (below_alloc (Below.refl _ _) _) _
 have hs0 : W0.heap.size = w.heap.size + 2 := by rw [hW0]; simp
 rw [← hW0]
 clear hW0
 refine wp_rangeL (by omega) (gf := 36) (lb := #[]) rfl (enters_of Try.func36 (by kernel_rfl) rfl)
  (HSq.out W0) abA_keeps kpB_t (fun W l o o' hl ho hoc _ => kpB_put ho hoc) ?hps
  (WordsI pl l W0) (WordsX pl l w) (wordsI_own pl l W0 _ (Nat.le_refl _)) (fun cc => wordsX_own pl l w cc _ (by omega)) (wordsI_abs pl l W0) (wordsX_abs pl l w)
  ⟨fun j hj => absurd hj (by omega), Below.refl _ _⟩
  (AxP pl w.heap.size (fun k b x => #[.agg #[v0, v1, .slice (some ad) l.length c, v3, .int .u32 a4, v5, .int .i64 a6, v7, .int .i64 a8, .string a9], .pointer (some ⟨w.heap.size, 0, none⟩), .pointer (some ⟨w.heap.size + 1, 0, none⟩), .int .i64 (k : Int), .pointer (some ⟨b, 0, none⟩), undef, undef, .pointer (some ⟨w.heap.size, 2, none⟩), .slice (some ad) l.length c, .int .i64 (l.length : Int), .bool false, .bool false, .pointer (some ⟨w.heap.size, 2, none⟩), .slice (some ad) l.length c, .int .i64 (l.length : Int), .bool false, .bool false, .int .i64 (k : Int), .agg #[.string x.f0, .int .i64 x.f1], undef, undef, undef, undef, undef, undef, undef, undef, undef, undef, undef, undef, undef, undef, undef, undef, undef, undef, undef, undef, undef, undef, undef, undef, undef, undef, undef, undef, undef, undef, undef, undef, undef, undef, undef, undef, undef, undef, undef, undef, undef, undef, undef, undef, undef])) (fun k a' W l o o' hl ho hc h => axP_put _ _ _ k a' W l o o' ho hc h) ?assign ?body ?done ?stop
 case hps =>
  intro x hx
  obtain ⟨p, _, rfl⟩ := List.mem_map.1 hx
  rfl
 case assign =>
  intro l' k hk W K hI hK
  obtain ⟨x, hx⟩ : ∃ x, x = pl.getD k z37 := ⟨_, rfl⟩
  have e : (primsV pl)[k] = #[.int .i64 k, .agg #[.string x.f0, .int .i64 x.f1]] := by rw [hx]; simp [primsV, pV]
  rw [e]
  have hab : AbA W (W.alloc (.cells #[.string x.f0, .int .i64 x.f1] 37 (0, 0))) := below_alloc (Below.refl _ _) _
  have hK2 := hK _ (W.alloc (.cells #[.string x.f0, .int .i64 x.f1] 37 (0, 0))) ⟨W.heap.size, Nat.le_trans hB0.size hI.2.size, by rw [← hx]; exact blk_new W _, rfl⟩ (KeepsOthers.alloc _ _) (kpB_below hab) (wordsI_abs pl l W0 k _ _ hI hab)
  rw [← hx] at hK2
  clear e hx hK hI
  gi_wp2
  exact hK2
 case body =>
  rintro l' k a' W hk0 ⟨b, hb0, hbx, rfl⟩ ⟨hne, hB⟩
  have hk : k < 111 := by omega
  have hBw : Below w.heap.size w W := hB0.trans (hB.mono (by omega))
  obtain ⟨x, hx⟩ : ∃ x, x = pl.getD k z37 := ⟨_, rfl⟩
  rw [← hx] at hbx
  simp only [← hx]
  obtain ⟨y, hy⟩ : ∃ y, y = l.getD k z51 := ⟨_, rfl⟩
  obtain ⟨p, hp⟩ : ∃ p, p = V k := ⟨_, rfl⟩
  obtain ⟨g0, g1, g2, g3, g4⟩ := wordsAt_below HV.out hBw k (by omega)
  rw [← hy] at g0 g1 g2 g3 g4
  rw [← hp] at g4
  have HX := Aside0.mk hx
  have HY := Aside0.mk hy
  have HK := Aside0.mk hk
  have q1 : (0 ≤ (k : Int)) = True := eq_true (by omega)
  have q2 : ((k : Int) < (l.length : Int)) = True := eq_true (by omega)
  have q3 : ((k : Int)).toNat = k := by omega
  have b0W := blk_below b0 hB
  have HS := Aside0.mk (show ∀ Y : World, Below W.heap.size W Y → (Y.cell? ⟨w.heap.size, 2, none⟩ = some (.slice (some ad) l.length c)) ∧ (Y.cell? ⟨b, 0, none⟩ = some (.string x.f0) ∧ Y.cell? ⟨b, 1, none⟩ = some (.int .i64 x.f1)) ∧ Y.cell? (ad.add (k * 5)) = some (.string y.f0) ∧ Y.cell? ⟨(ad.add (k * 5)).block, (ad.add (k * 5)).off + 1, none⟩ = some (.int .i64 y.f1) ∧ Y.cell? ⟨(ad.add (k * 5)).block, (ad.add (k * 5)).off + 2, none⟩ = some (.int .i64 y.f2) ∧ Y.cell? ⟨(ad.add (k * 5)).block, (ad.add (k * 5)).off + 3, none⟩ = some (.int .u32 y.f3) ∧ Y.cell? ⟨(ad.add (k * 5)).block, (ad.add (k * 5)).off + 4, none⟩ = some (.slice p.1 y.f4.length p.2) from fun Y hY => ⟨(blk_cell (blk_below b0W hY) 2).trans rfl, ⟨(blk_cell (blk_below hbx hY) 0).trans rfl, (blk_cell (blk_below hbx hY) 1).trans rfl⟩, pw_cell_below hY g0, pw_cell_below hY g1, pw_cell_below hY g2, pw_cell_below hY g3, pw_cell_below hY g4⟩)
  have hHeld0 := below_drew1 (Below.refl W.heap.size W)
  clear hx hy hp g0 g1 g2 g3 g4 hbx
  gi_wp2
  refine start_in (m := 11) (S := fun w' => Below W.heap.size W w') (ds := [9, 10]) #[false, false, false, false, false, false, false, false, false, false, false] (by kernel_rfl) rfl rfl hHeld0 (by kernel_rfl) (fun ⟨_, _, h⟩ => h) (fun hHeld => ?_)
  refine pure_ (i := 0) (N := some 19) (v := ?_) (a' := ?_) #[true, false, false, false, false, false, false, false, false, false, false] rfl rfl (by kernel_rfl) (fun _ _ _ h => h) (Or.inl ⟨by rfl, ?_⟩) ?_ ?_
  rotate_left
  ·intro w'
   go_simp
   with_reducible rfl
  rotate_left
  ·simp only [Act.put, List.setIfInBounds_toArray, List.set_cons_zero, List.set_cons_succ]
   rfl
  refine take_ (i := 1) (N := some 20) (v := .slice (some ad) l.length c) (a' := ?_) #[true, true, false, false, false, false, false, false, false, false, false] rfl rfl (by kernel_rfl) (fun _ _ _ h => h) (Or.inl ⟨by rfl, ?_⟩) hHeld ?_ ?_
  rotate_left
  rotate_left
  ·simp only [Act.put, List.setIfInBounds_toArray, List.set_cons_zero, List.set_cons_succ]
   rfl
  rotate_left
  ·rintro w' s0
   have y := (HS.out _ s0).1
   go_simp
  refine pure_ (i := 2) (N := some 21) (v := ?_) (a' := ?_) #[true, true, true, false, false, false, false, false, false, false, false] rfl rfl (by kernel_rfl) (fun _ _ _ h => h) (Or.inl ⟨by rfl, ?_⟩) ?_ ?_
  rotate_left
  ·intro w'
   go_simp
   with_reducible rfl
  rotate_left
  ·simp only [Act.put, List.setIfInBounds_toArray, List.set_cons_zero, List.set_cons_succ]
   rfl
  refine pure_ (i := 3) (N := some 22) (v := ?_) (a' := ?_) #[true, true, true, true, false, false, false, false, false, false, false] rfl rfl (by kernel_rfl) (fun _ _ _ h => h) (Or.inl ⟨by rfl, ?_⟩) ?_ ?_
  rotate_left
  ·intro w'
   go_simp
   with_reducible rfl
  rotate_left
  ·simp only [Act.put, List.setIfInBounds_toArray, List.set_cons_zero, List.set_cons_succ]
   rfl
  refine take_ (i := 4) (N := some 23) (v := .agg #[.string y.f0, .int .i64 y.f1, .int .i64 y.f2, .int .u32 y.f3, .slice p.1 y.f4.length p.2]) (a' := ?_) #[true, true, true, true, true, false, false, false, false, false, false] rfl rfl (by kernel_rfl) (fun _ _ _ h => h) (Or.inl ⟨by rfl, ?_⟩) hHeld ?_ ?_
  rotate_left
  rotate_left
  ·simp only [Act.put, List.setIfInBounds_toArray, List.set_cons_zero, List.set_cons_succ]
   rfl
  rotate_left
  ·rintro w' s0
   obtain ⟨_, _, z0, z1, z2, z3, z4⟩ := HS.out _ s0
   go_simp
  refine take_ (i := 5) (N := some 24) (v := .agg #[.string x.f0, .int .i64 x.f1]) (a' := ?_) #[true, true, true, true, true, true, false, false, false, false, false] rfl rfl (by kernel_rfl) (fun _ _ _ h => h) (Or.inl ⟨by rfl, ?_⟩) hHeld ?_ ?_
  rotate_left
  rotate_left
  ·simp only [Act.put, List.setIfInBounds_toArray, List.set_cons_zero, List.set_cons_succ]
   rfl
  rotate_left
  ·rintro w' s0
   obtain ⟨_, ⟨z0, z1⟩, _⟩ := HS.out _ s0
   go_simp
  refine join_ (σ := Nat × Nat) 2 #[true, true, true, true, true, true, true, true, true, false, false] (fun s_ => [(25, .agg #[.string x.f0, .int .i64 (-1), .int .i64 1, .int .u32 (x.f1 % 4294967296), .slice none 0 0]), (5, .pointer (some ⟨s_.1, 0, none⟩)), (6, .pointer (some ⟨s_.2, 0, none⟩))]) (fun s_ w' => Below W.heap.size W w' ∧ (w'.heap[s_.1]? = some (.cells #[.string ⟨#[]⟩, .int .i64 0, .int .i64 0, .int .u32 0, .slice none 0 0] 51 (0, 0)) ∧ W.heap.size ≤ s_.1) ∧ (w'.heap[s_.2]? = some (.cells #[.string ⟨#[]⟩, .int .i64 0, .int .i64 0, .int .u32 0, .slice none 0 0] 51 (0, 0)) ∧ W.heap.size ≤ s_.2) ∧ s_.1 ≠ s_.2) ?_ ?_
  rotate_left
  ·intro hCont
   refine three_ (i := 6) (j := 7) (k := 8) (Ni := some 25) (Nj := some 5) (Nk := some 6) #[true, true, true, true, true, true, true, false, false, false, false] #[true, true, true, true, true, true, false, true, false, false, false] #[true, true, true, true, true, true, false, false, true, false, false] rfl rfl rfl rfl rfl rfl (by kernel_rfl) (by decide) (by decide) (by decide) (fun K hK => ?_) (fun K hK => ?_) (fun K hK => ?_)
   ·skip
    refine goes_ Try.func37 (by kernel_rfl) rfl #[.agg #[.string x.f0, .int .i64 x.f1]] (by rfl) rfl rfl (by first | rfl | (simp only [List.map_toArray, List.map_cons, List.map_nil]; rfl)) ?_
    refine (word_exact x.f0 x.f1 _).mono ?_
    rintro e X1 ⟨rfl, hb1⟩
    refine ⟨_, rfl, ?_⟩
    have s1 : Below W.heap.size W X1 := below_step hHeld hb1
    refine hK.out _ _ s1 (fun hHeld => ?_)
    clear hK K
    refine norm_ (a' := ?_) ?_ ?_
    rotate_left
    ·show Act.put _ (some 25) _ = _
     simp only [Act.put, List.setIfInBounds_toArray, List.set_cons_zero, List.set_cons_succ]
     rfl
    refine two_ (i := 7) (j := 8) (Ni := some 5) (Nj := some 6) #[true, true, true, true, true, true, true, true, false, false, false] #[true, true, true, true, true, true, true, false, true, false, false] rfl rfl rfl rfl (by kernel_rfl) (by decide) (by decide) (fun K hK => ?_) (fun K hK => ?_)
    ·skip
     refine box_step ?hg (N := 5) ?hd (cs := #[.string ⟨#[]⟩, .int .i64 0, .int .i64 0, .int .u32 0, .slice none 0 0]) (t := 51) ?hr ?_
     (case hd => rfl)
     (case hg => rfl)
     (case hr => first | (go_simp; done) | (go_simp; rfl))
     intro g5 hg2 X2 hbox2 hb2
     have s2 : Below W.heap.size W X2 := below_step s1 hb2
     have le5_2 : W.heap.size ≤ g5 := by rw [hg2]; exact s1.size
     refine hK.out _ _ s2 (fun hHeld => ?_)
     clear hK K
     refine norm_ (a' := ?_) ?_ ?_
     rotate_left
     ·show Act.put _ (some 5) _ = _
      simp only [Act.put, List.setIfInBounds_toArray, List.set_cons_zero, List.set_cons_succ]
      rfl
     refine one_ (i := 8) (N := some 6) #[true, true, true, true, true, true, true, true, true, false, false] rfl rfl (by kernel_rfl) (by decide) (fun K hK => ?_)
     refine box_step ?hg (N := 6) ?hd (cs := #[.string ⟨#[]⟩, .int .i64 0, .int .i64 0, .int .u32 0, .slice none 0 0]) (t := 51) ?hr ?_
     (case hd => rfl)
     (case hg => rfl)
     (case hr => first | (go_simp; done) | (go_simp; rfl))
     intro g6 hg3 X3 hbox3 hb3
     have s3 : Below W.heap.size W X3 := below_step s2 hb3
     have f5_3 := blk_below hbox2 hb3
     have le6_3 : W.heap.size ≤ g6 := by rw [hg3]; exact s2.size
     have ne_3 : g5 ≠ g6 := by have := blk_lt hbox2; rw [hg3]; omega
     refine hK.out _ _ s3 (fun hHeld => ?_)
     clear hK K
     refine norm_ (a' := ?_) ?_ ?_
     rotate_left
     ·show Act.put _ (some 6) _ = _
      simp only [Act.put, List.setIfInBounds_toArray, List.set_cons_zero, List.set_cons_succ]
      rfl
     exact norm_ (by simp only [putAll, Act.put, List.setIfInBounds_toArray, List.set_cons_zero, List.set_cons_succ]) (hCont (g5, g6) _ ⟨s3, ⟨f5_3, le5_2⟩, ⟨hbox3, le6_3⟩, ne_3⟩)
    ·skip
     refine box_step ?hg (N := 6) ?hd (cs := #[.string ⟨#[]⟩, .int .i64 0, .int .i64 0, .int .u32 0, .slice none 0 0]) (t := 51) ?hr ?_
     (case hd => rfl)
     (case hg => rfl)
     (case hr => first | (go_simp; done) | (go_simp; rfl))
     intro g6 hg2 X2 hbox2 hb2
     have s2 : Below W.heap.size W X2 := below_step s1 hb2
     have le6_2 : W.heap.size ≤ g6 := by rw [hg2]; exact s1.size
     refine hK.out _ _ s2 (fun hHeld => ?_)
     clear hK K
     refine norm_ (a' := ?_) ?_ ?_
     rotate_left
     ·show Act.put _ (some 6) _ = _
      simp only [Act.put, List.setIfInBounds_toArray, List.set_cons_zero, List.set_cons_succ]
      rfl
     refine one_ (i := 7) (N := some 5) #[true, true, true, true, true, true, true, true, true, false, false] rfl rfl (by kernel_rfl) (by decide) (fun K hK => ?_)
     refine box_step ?hg (N := 5) ?hd (cs := #[.string ⟨#[]⟩, .int .i64 0, .int .i64 0, .int .u32 0, .slice none 0 0]) (t := 51) ?hr ?_
     (case hd => rfl)
     (case hg => rfl)
     (case hr => first | (go_simp; done) | (go_simp; rfl))
     intro g5 hg3 X3 hbox3 hb3
     have s3 : Below W.heap.size W X3 := below_step s2 hb3
     have f6_3 := blk_below hbox2 hb3
     have le5_3 : W.heap.size ≤ g5 := by rw [hg3]; exact s2.size
     have ne_3 : g6 ≠ g5 := by have := blk_lt hbox2; rw [hg3]; omega
     refine hK.out _ _ s3 (fun hHeld => ?_)
     clear hK K
     refine norm_ (a' := ?_) ?_ ?_
     rotate_left
     ·show Act.put _ (some 5) _ = _
      simp only [Act.put, List.setIfInBounds_toArray, List.set_cons_zero, List.set_cons_succ]
      rfl
     exact norm_ (by simp only [putAll, Act.put, List.setIfInBounds_toArray, List.set_cons_zero, List.set_cons_succ]) (hCont (g5, g6) _ ⟨s3, ⟨hbox3, le5_3⟩, ⟨f6_3, le6_2⟩, (Ne.symm ne_3)⟩)
   ·skip
    refine box_step ?hg (N := 5) ?hd (cs := #[.string ⟨#[]⟩, .int .i64 0, .int .i64 0, .int .u32 0, .slice none 0 0]) (t := 51) ?hr ?_
    (case hd => rfl)
    (case hg => rfl)
    (case hr => first | (go_simp; done) | (go_simp; rfl))
    intro g5 hg1 X1 hbox1 hb1
    have s1 : Below W.heap.size W X1 := below_step hHeld hb1
    have le5_1 : W.heap.size ≤ g5 := by rw [hg1]; exact hHeld.size
    refine hK.out _ _ s1 (fun hHeld => ?_)
    clear hK K
    refine norm_ (a' := ?_) ?_ ?_
    rotate_left
    ·show Act.put _ (some 5) _ = _
     simp only [Act.put, List.setIfInBounds_toArray, List.set_cons_zero, List.set_cons_succ]
     rfl
    refine two_ (i := 6) (j := 8) (Ni := some 25) (Nj := some 6) #[true, true, true, true, true, true, true, true, false, false, false] #[true, true, true, true, true, true, false, true, true, false, false] rfl rfl rfl rfl (by kernel_rfl) (by decide) (by decide) (fun K hK => ?_) (fun K hK => ?_)
    ·skip
     refine goes_ Try.func37 (by kernel_rfl) rfl #[.agg #[.string x.f0, .int .i64 x.f1]] (by rfl) rfl rfl (by first | rfl | (simp only [List.map_toArray, List.map_cons, List.map_nil]; rfl)) ?_
     refine (word_exact x.f0 x.f1 _).mono ?_
     rintro e X2 ⟨rfl, hb2⟩
     refine ⟨_, rfl, ?_⟩
     have s2 : Below W.heap.size W X2 := below_step s1 hb2
     have f5_2 := blk_below hbox1 hb2
     refine hK.out _ _ s2 (fun hHeld => ?_)
     clear hK K
     refine norm_ (a' := ?_) ?_ ?_
     rotate_left
     ·show Act.put _ (some 25) _ = _
      simp only [Act.put, List.setIfInBounds_toArray, List.set_cons_zero, List.set_cons_succ]
      rfl
     refine one_ (i := 8) (N := some 6) #[true, true, true, true, true, true, true, true, true, false, false] rfl rfl (by kernel_rfl) (by decide) (fun K hK => ?_)
     refine box_step ?hg (N := 6) ?hd (cs := #[.string ⟨#[]⟩, .int .i64 0, .int .i64 0, .int .u32 0, .slice none 0 0]) (t := 51) ?hr ?_
     (case hd => rfl)
     (case hg => rfl)
     (case hr => first | (go_simp; done) | (go_simp; rfl))
     intro g6 hg3 X3 hbox3 hb3
     have s3 : Below W.heap.size W X3 := below_step s2 hb3
     have f5_3 := blk_below f5_2 hb3
     have le6_3 : W.heap.size ≤ g6 := by rw [hg3]; exact s2.size
     have ne_3 : g5 ≠ g6 := by have := blk_lt f5_2; rw [hg3]; omega
     refine hK.out _ _ s3 (fun hHeld => ?_)
     clear hK K
     refine norm_ (a' := ?_) ?_ ?_
     rotate_left
     ·show Act.put _ (some 6) _ = _
      simp only [Act.put, List.setIfInBounds_toArray, List.set_cons_zero, List.set_cons_succ]
      rfl
     exact norm_ (by simp only [putAll, Act.put, List.setIfInBounds_toArray, List.set_cons_zero, List.set_cons_succ]) (hCont (g5, g6) _ ⟨s3, ⟨f5_3, le5_1⟩, ⟨hbox3, le6_3⟩, ne_3⟩)
    ·skip
     refine box_step ?hg (N := 6) ?hd (cs := #[.string ⟨#[]⟩, .int .i64 0, .int .i64 0, .int .u32 0, .slice none 0 0]) (t := 51) ?hr ?_
     (case hd => rfl)
     (case hg => rfl)
     (case hr => first | (go_simp; done) | (go_simp; rfl))
     intro g6 hg2 X2 hbox2 hb2
     have s2 : Below W.heap.size W X2 := below_step s1 hb2
     have f5_2 := blk_below hbox1 hb2
     have le6_2 : W.heap.size ≤ g6 := by rw [hg2]; exact s1.size
     have ne_2 : g5 ≠ g6 := by have := blk_lt hbox1; rw [hg2]; omega
     refine hK.out _ _ s2 (fun hHeld => ?_)
     clear hK K
     refine norm_ (a' := ?_) ?_ ?_
     rotate_left
     ·show Act.put _ (some 6) _ = _
      simp only [Act.put, List.setIfInBounds_toArray, List.set_cons_zero, List.set_cons_succ]
      rfl
     refine one_ (i := 6) (N := some 25) #[true, true, true, true, true, true, true, true, true, false, false] rfl rfl (by kernel_rfl) (by decide) (fun K hK => ?_)
     refine goes_ Try.func37 (by kernel_rfl) rfl #[.agg #[.string x.f0, .int .i64 x.f1]] (by rfl) rfl rfl (by first | rfl | (simp only [List.map_toArray, List.map_cons, List.map_nil]; rfl)) ?_
     refine (word_exact x.f0 x.f1 _).mono ?_
     rintro e X3 ⟨rfl, hb3⟩
     refine ⟨_, rfl, ?_⟩
     have s3 : Below W.heap.size W X3 := below_step s2 hb3
     have f5_3 := blk_below f5_2 hb3
     have f6_3 := blk_below hbox2 hb3
     refine hK.out _ _ s3 (fun hHeld => ?_)
     clear hK K
     refine norm_ (a' := ?_) ?_ ?_
     rotate_left
     ·show Act.put _ (some 25) _ = _
      simp only [Act.put, List.setIfInBounds_toArray, List.set_cons_zero, List.set_cons_succ]
      rfl
     exact norm_ (by simp only [putAll, Act.put, List.setIfInBounds_toArray, List.set_cons_zero, List.set_cons_succ]) (hCont (g5, g6) _ ⟨s3, ⟨f5_3, le5_1⟩, ⟨f6_3, le6_2⟩, ne_2⟩)
   ·skip
    refine box_step ?hg (N := 6) ?hd (cs := #[.string ⟨#[]⟩, .int .i64 0, .int .i64 0, .int .u32 0, .slice none 0 0]) (t := 51) ?hr ?_
    (case hd => rfl)
    (case hg => rfl)
    (case hr => first | (go_simp; done) | (go_simp; rfl))
    intro g6 hg1 X1 hbox1 hb1
    have s1 : Below W.heap.size W X1 := below_step hHeld hb1
    have le6_1 : W.heap.size ≤ g6 := by rw [hg1]; exact hHeld.size
    refine hK.out _ _ s1 (fun hHeld => ?_)
    clear hK K
    refine norm_ (a' := ?_) ?_ ?_
    rotate_left
    ·show Act.put _ (some 6) _ = _
     simp only [Act.put, List.setIfInBounds_toArray, List.set_cons_zero, List.set_cons_succ]
     rfl
    refine two_ (i := 6) (j := 7) (Ni := some 25) (Nj := some 5) #[true, true, true, true, true, true, true, false, true, false, false] #[true, true, true, true, true, true, false, true, true, false, false] rfl rfl rfl rfl (by kernel_rfl) (by decide) (by decide) (fun K hK => ?_) (fun K hK => ?_)
    ·skip
     refine goes_ Try.func37 (by kernel_rfl) rfl #[.agg #[.string x.f0, .int .i64 x.f1]] (by rfl) rfl rfl (by first | rfl | (simp only [List.map_toArray, List.map_cons, List.map_nil]; rfl)) ?_
     refine (word_exact x.f0 x.f1 _).mono ?_
     rintro e X2 ⟨rfl, hb2⟩
     refine ⟨_, rfl, ?_⟩
     have s2 : Below W.heap.size W X2 := below_step s1 hb2
     have f6_2 := blk_below hbox1 hb2
     refine hK.out _ _ s2 (fun hHeld => ?_)
     clear hK K
     refine norm_ (a' := ?_) ?_ ?_
     rotate_left
     ·show Act.put _ (some 25) _ = _
      simp only [Act.put, List.setIfInBounds_toArray, List.set_cons_zero, List.set_cons_succ]
      rfl
     refine one_ (i := 7) (N := some 5) #[true, true, true, true, true, true, true, true, true, false, false] rfl rfl (by kernel_rfl) (by decide) (fun K hK => ?_)
     refine box_step ?hg (N := 5) ?hd (cs := #[.string ⟨#[]⟩, .int .i64 0, .int .i64 0, .int .u32 0, .slice none 0 0]) (t := 51) ?hr ?_
     (case hd => rfl)
     (case hg => rfl)
     (case hr => first | (go_simp; done) | (go_simp; rfl))
     intro g5 hg3 X3 hbox3 hb3
     have s3 : Below W.heap.size W X3 := below_step s2 hb3
     have f6_3 := blk_below f6_2 hb3
     have le5_3 : W.heap.size ≤ g5 := by rw [hg3]; exact s2.size
     have ne_3 : g6 ≠ g5 := by have := blk_lt f6_2; rw [hg3]; omega
     refine hK.out _ _ s3 (fun hHeld => ?_)
     clear hK K
     refine norm_ (a' := ?_) ?_ ?_
     rotate_left
     ·show Act.put _ (some 5) _ = _
      simp only [Act.put, List.setIfInBounds_toArray, List.set_cons_zero, List.set_cons_succ]
      rfl
     exact norm_ (by simp only [putAll, Act.put, List.setIfInBounds_toArray, List.set_cons_zero, List.set_cons_succ]) (hCont (g5, g6) _ ⟨s3, ⟨hbox3, le5_3⟩, ⟨f6_3, le6_1⟩, (Ne.symm ne_3)⟩)
    ·skip
     refine box_step ?hg (N := 5) ?hd (cs := #[.string ⟨#[]⟩, .int .i64 0, .int .i64 0, .int .u32 0, .slice none 0 0]) (t := 51) ?hr ?_
     (case hd => rfl)
     (case hg => rfl)
     (case hr => first | (go_simp; done) | (go_simp; rfl))
     intro g5 hg2 X2 hbox2 hb2
     have s2 : Below W.heap.size W X2 := below_step s1 hb2
     have f6_2 := blk_below hbox1 hb2
     have le5_2 : W.heap.size ≤ g5 := by rw [hg2]; exact s1.size
     have ne_2 : g6 ≠ g5 := by have := blk_lt hbox1; rw [hg2]; omega
     refine hK.out _ _ s2 (fun hHeld => ?_)
     clear hK K
     refine norm_ (a' := ?_) ?_ ?_
     rotate_left
     ·show Act.put _ (some 5) _ = _
      simp only [Act.put, List.setIfInBounds_toArray, List.set_cons_zero, List.set_cons_succ]
      rfl
     refine one_ (i := 6) (N := some 25) #[true, true, true, true, true, true, true, true, true, false, false] rfl rfl (by kernel_rfl) (by decide) (fun K hK => ?_)
     refine goes_ Try.func37 (by kernel_rfl) rfl #[.agg #[.string x.f0, .int .i64 x.f1]] (by rfl) rfl rfl (by first | rfl | (simp only [List.map_toArray, List.map_cons, List.map_nil]; rfl)) ?_
     refine (word_exact x.f0 x.f1 _).mono ?_
     rintro e X3 ⟨rfl, hb3⟩
     refine ⟨_, rfl, ?_⟩
     have s3 : Below W.heap.size W X3 := below_step s2 hb3
     have f6_3 := blk_below f6_2 hb3
     have f5_3 := blk_below hbox2 hb3
     refine hK.out _ _ s3 (fun hHeld => ?_)
     clear hK K
     refine norm_ (a' := ?_) ?_ ?_
     rotate_left
     ·show Act.put _ (some 25) _ = _
      simp only [Act.put, List.setIfInBounds_toArray, List.set_cons_zero, List.set_cons_succ]
      rfl
     exact norm_ (by simp only [putAll, Act.put, List.setIfInBounds_toArray, List.set_cons_zero, List.set_cons_succ]) (hCont (g5, g6) _ ⟨s3, ⟨f5_3, le5_2⟩, ⟨f6_3, le6_1⟩, (Ne.symm ne_2)⟩)
  rintro ⟨g5, g6⟩ Y ⟨hSY, ⟨f5, le5⟩, ⟨f6, le6⟩, hne56⟩
  simp only [putAll, Act.put, List.setIfInBounds_toArray, List.set_cons_zero, List.set_cons_succ]
  dsimp only at f5 le5 f6 le6 hne56
  refine last_ (i := 9) (N := none) #[true, true, true, true, true, true, true, true, true, true, false] rfl rfl (by kernel_rfl) (by decide) (fun K hK => ?_)
  refine store_stepN (by rfl) rfl 51 (.tmp 5) (.tmp 23) rfl (.agg #[.string y.f0, .int .i64 y.f1, .int .i64 y.f2, .int .u32 y.f3, .slice p.1 y.f4.length p.2]) [.string y.f0, .int .i64 y.f1, .int .i64 y.f2, .int .u32 y.f3, .slice p.1 y.f4.length p.2] rfl rfl rfl rfl (by intro q hq; simp at hq; rcases hq with rfl | rfl | rfl | rfl | rfl <;> rfl) f5 rfl ?_
  intro Y1 e5 gr1
  refine hK.out _ _ ?_
  clear hK K
  have f6 := blk_grown f6 gr1 (fun e => hne56 (Option.some.inj e).symm)
  refine last_ (i := 10) (N := none) #[true, true, true, true, true, true, true, true, true, true, true] rfl rfl (by kernel_rfl) (by decide) (fun K hK => ?_)
  refine store_stepN (by rfl) rfl 51 (.tmp 6) (.tmp 25) rfl (.agg #[.string x.f0, .int .i64 (-1), .int .i64 1, .int .u32 (x.f1 % 4294967296), .slice none 0 0]) [.string x.f0, .int .i64 (-1), .int .i64 1, .int .u32 (x.f1 % 4294967296), .slice none 0 0] rfl rfl rfl rfl (by intro q hq; simp at hq; rcases hq with rfl | rfl | rfl | rfl | rfl <;> rfl) f6 rfl ?_
  intro Y2 e6 gr2
  refine hK.out _ _ ?_
  clear hK K
  have e5 := blk_grown e5 gr2 (fun e => hne56 (Option.some.inj e))
  refine done_ (n := 0) (by kernel_rfl) ?_
  have hW2 : Below W.heap.size W Y2 := (hSY.grown gr1 hSY.size (fun k e => by cases e; exact le5)).grown gr2 (Nat.le_trans hSY.size gr1.size) (fun k e => by cases e; exact le6)
  have hKO : KeepsOthers W Y2 := KeepsOthers.of_grownBy (grown_of_below hW2 none) (fun _ _ h => by cases h)
  have a0 := (blk_cell e5 0).trans rfl
  have a1 := (blk_cell e5 1).trans rfl
  have a2 := (blk_cell e5 2).trans rfl
  have a3 := (blk_cell e5 3).trans rfl
  have a4' := (blk_cell e5 4).trans rfl
  have c0 := (blk_cell e6 0).trans rfl
  have c1 := (blk_cell e6 1).trans rfl
  have c2 := (blk_cell e6 2).trans rfl
  have c3 := (blk_cell e6 3).trans rfl
  simp only [Act.put]
  have hY1 := boxed_below (boxed_below b1 hB) hW2
  have hcr := hY1.cell
  have hfr := hY1.frozen
  have HW2 := Aside0.mk hW2
  have HKO := Aside0.mk hKO
  have HB1 := Aside0.mk hY1
  have HBW := Aside0.mk hBw
  clear hSY hW2 hKO hY1 gr1 gr2 hne56 le5 le6 f5 f6 e5 e6
  by_cases h0 : y.f0.toList = x.f0.toList
  ·have t0 : (y.f0.toList != x.f0.toList) = false := by simp [h0]
   have s0 : (y.f0.toList == x.f0.toList) = true := by simp [h0]
   by_cases h1 : y.f1 = -1
   ·have t1 : (y.f1 != -1) = false := by simp [h1]
    have s1 : (y.f1 == -1) = true := by simp [h1]
    by_cases h2 : y.f2 = 1
    ·have t2 : (y.f2 != 1) = false := by simp [h2]
     have s2 : (y.f2 == 1) = true := by simp [h2]
     by_cases h3 : y.f3 = x.f1 % 4294967296
     ·have t3 : (y.f3 != x.f1 % 4294967296) = false := by simp [h3]
      have s3 : (y.f3 == x.f1 % 4294967296) = true := by simp [h3]
      by_cases h4 : y.f4.length = 0
      ·have t4 : decide ((0 : Int) < (y.f4.length : Int)) = false := by simp [h4]
       have s4 : decide (0 < y.f4.length) = false := by simp [h4]
       have hwk : wOk y x = true := by unfold wOk; simp [h0, h1, h2, h3, h4]
       have HWK := Aside0.mk hwk
       clear h0 h1 h2 h3 h4 hwk
       gi_wp2
       refine ⟨HKO.out, kpB_below HW2.out, fun j hj => ?_, below_step hB HW2.out⟩
       rcases Nat.lt_or_eq_of_le (Nat.le_of_lt_succ hj) with h | h
       ·exact hne j h
       ·rw [h, ← HX.out, ← HY.out]; exact HWK.out
      ·have t4 : decide ((0 : Int) < (y.f4.length : Int)) = true := by simp; omega
       have s4 : decide (0 < y.f4.length) = true := by simp; omega
       have hwk : wOk y x = false := by unfold wOk; simp [h0, h1, h2, h3, h4]
       have HWK := Aside0.mk hwk
       clear h0 h1 h2 h3 h4 hwk
       gi_wp2
       exact ⟨HKO.out.trans (KeepsOthers.setCell _ _ _), ⟨rfl, ⟨k, HK.out, by rw [← HX.out, ← HY.out]; exact HWK.out⟩, HB1.out.set _⟩, below_set (below_step HBW.out HW2.out) (by omega)⟩
     ·have t3 : (y.f3 != x.f1 % 4294967296) = true := by simp [h3]
      have s3 : (y.f3 == x.f1 % 4294967296) = false := by simp [h3]
      have hwk : wOk y x = false := by unfold wOk; simp [h0, h1, h2, h3]
      have HWK := Aside0.mk hwk
      clear h0 h1 h2 h3 hwk
      gi_wp2
      exact ⟨HKO.out.trans (KeepsOthers.setCell _ _ _), ⟨rfl, ⟨k, HK.out, by rw [← HX.out, ← HY.out]; exact HWK.out⟩, HB1.out.set _⟩, below_set (below_step HBW.out HW2.out) (by omega)⟩
    ·have t2 : (y.f2 != 1) = true := by simp [h2]
     have s2 : (y.f2 == 1) = false := by simp [h2]
     have hwk : wOk y x = false := by unfold wOk; simp [h0, h1, h2]
     have HWK := Aside0.mk hwk
     clear h0 h1 h2 hwk
     gi_wp2
     exact ⟨HKO.out.trans (KeepsOthers.setCell _ _ _), ⟨rfl, ⟨k, HK.out, by rw [← HX.out, ← HY.out]; exact HWK.out⟩, HB1.out.set _⟩, below_set (below_step HBW.out HW2.out) (by omega)⟩
   ·have t1 : (y.f1 != -1) = true := by simp [h1]
    have s1 : (y.f1 == -1) = false := by simp [h1]
    have hwk : wOk y x = false := by unfold wOk; simp [h0, h1]
    have HWK := Aside0.mk hwk
    clear h0 h1 hwk
    gi_wp2
    exact ⟨HKO.out.trans (KeepsOthers.setCell _ _ _), ⟨rfl, ⟨k, HK.out, by rw [← HX.out, ← HY.out]; exact HWK.out⟩, HB1.out.set _⟩, below_set (below_step HBW.out HW2.out) (by omega)⟩
  ·have t0 : (y.f0.toList != x.f0.toList) = true := by simp [h0]
   have s0 : (y.f0.toList == x.f0.toList) = false := by simp [h0]
   have hwk : wOk y x = false := by unfold wOk; simp [h0]
   have HWK := Aside0.mk hwk
   clear h0 hwk
   gi_wp2
   exact ⟨HKO.out.trans (KeepsOthers.setCell _ _ _), ⟨rfl, ⟨k, HK.out, by rw [← HX.out, ← HY.out]; exact HWK.out⟩, HB1.out.set _⟩, below_set (below_step HBW.out HW2.out) (by omega)⟩
 case done =>
  rintro D W hD ⟨hne, hB1⟩ hK
  have h2 := boxed_below b1 hB1
  have hc2 := h2.cell
  have hf2 := h2.frozen
  have hB : Below w.heap.size w W := hB0.trans (hB1.mono (by omega))
  have b0W := blk_below b0 hB1
  have hcm : W.cell? ⟨w.heap.size, 2, none⟩ = some (.slice (some ad) l.length c) := (blk_cell b0W 2).trans rfl
  rw [hLl] at hne
  have hr := HR.out
  rw [wordsF_true pl l hne, Bool.true_and] at hr
  subst hr
  have HT2 := Aside0.mk (HT.out W hB b0W)
  obtain ⟨i0, hi, hz0, hz1, hz2⟩ := info_parts info51
  have hcut : ∀ X : World, (Instr.slice 26 (.slice (some ad) l.length c) (some (.int .i64 111)) none none).run Try.prog X = .ok (.slice (if c = 111 then some ad else some (ad.add 555)) (l.length - 111) (c - 111)) X := fun X => by
   have h := cut_from (P := Try.prog) 26 51 .i64 Try.underlying26 hi 5 hz1 (some ad) l.length c 111 (by omega) (by omega) X
   rw [h]
   by_cases h9 : c = 111 <;> simp [h9]
  obtain ⟨A2, hA2⟩ : ∃ A2, A2 = (if c = 111 then some ad else some (ad.add 555)) := ⟨_, rfl⟩
  rw [← hA2] at hcut HT2
  clear hi hz0 hz1 hz2 i0 hA2
  clear hne
  gi_wp2_with (refine ⟨trivial, ?_⟩; gi_at_call 79; refine (callsIn_wide.2 HT2.out).mono ?_; rintro e X ⟨rfl, hbX⟩; have g2 := boxed_below h2 hbX; have hc3 := g2.cell; have hf3 := g2.frozen)
  exact cell_end1 _ Try.results47 w _ _ D ⟨by omega, by omega⟩ _ _ rfl ((KeepsOthers.setCell _ _ _).same D _ (abA_keeps hbX hK rfl) rfl) (g2.set _) (below_set (below_step hB hbX) (by omega))
 case stop =>
  rintro D cc k W hD hkk ⟨⟨rfl, ⟨j, hj, hx⟩, h2⟩, hB⟩ hK
  have hr := HR.out
  rw [wordsF_false pl l j hj hx] at hr
  simp only [Bool.false_and] at hr
  subst hr
  gi_wp2
  exact cell_end1 _ Try.results47 w _ _ D ⟨by omega, by omega⟩ _ _ rfl hK h2 hB
end Go.Proofs.Ytfpkakedlapmkaa.Q
end
section
set_option linter.unusedSimpArgs false
set_option linter.unusedVariables false
namespace Go.Proofs.Ytfpkakedlapmkaa.Q
open Go.RowKit Go.Proofs.YtfpkakedlapmkaaW.PrintWords Go.Proofs.YtfpkakedlapmkaaW.PrintLast
set_option maxHeartbeats 4000000 in
set_option maxRecDepth 100000 in
theorem wordsShort_calls (v0 v1 : Value) (A : Option Addr) (c n : Nat) (v3 : Value) (a4 : Int) (v5 : Value) (a6 : Int) (v7 : Value) (a8 : Int) (a9 : ByteArray) (w : World) (hn : 640 < n ∨ n < 111) :
  Calls Try.prog 47 #[.agg #[v0, v1, .slice A n c, v3, .int .u32 a4, v5, .int .i64 a6, v7, .int .i64 a8, .string a9]] w fun e w' => e = .returned (.bool false) ∧ Below w.heap.size w w' := by
 have HB := Aside0.mk (Below.refl w.heap.size w)
 have hu32 := Try.underlying32
 by_cases h1 : 640 < n
 ·have d1 : decide ((640 : Int) < (n : Int)) = true := decide_eq_true (by omega)
  clear hn h1
  go_enter Try.func47, Try.ntmps47
  go_wp2
  refine bodyPost_ret (v := .bool false) ?_ rfl ⟨rfl, by repeat (first | exact HB.out | apply below_alloc | refine below_set ?_ (by simp))⟩
  simp [results, Try.results47, go_sem]
 ·have d1 : decide ((640 : Int) < (n : Int)) = false := decide_eq_false (by omega)
  have d2 : decide ((n : Int) < 111) = true := decide_eq_true (by omega)
  clear hn h1
  go_enter Try.func47, Try.ntmps47
  go_wp2
  refine bodyPost_ret (v := .bool false) ?_ rfl ⟨rfl, by repeat (first | exact HB.out | apply below_alloc | refine below_set ?_ (by simp))⟩
  simp [results, Try.results47, go_sem]
end Go.Proofs.Ytfpkakedlapmkaa.Q
end
section
set_option linter.unusedVariables false
namespace Go.Proofs.Ytfpkakedlapmkaa.Q
open Go.RowKit Go.Proofs.YtfpkakedlapmkaaW.PrintWords Go.Proofs.YtfpkakedlapmkaaW.PrintLast
def idxP {α : Type} (P : α → Bool) : List α → Int
 | [] => -1
 | x :: r => if P x = true then 0 else if idxP P r < 0 then -1 else idxP P r + 1
theorem idxP_range {α : Type} (P : α → Bool) : ∀ l : List α, -1 ≤ idxP P l ∧ idxP P l < l.length
 | [] => ⟨Int.le_refl _, by simp [idxP]⟩
 | x :: r => by
  have ih := idxP_range P r
  unfold idxP
  rw [List.length_cons]
  split
  ·omega
  ·split <;> omega
theorem idxP_drop {α : Type} (P : α → Bool) (z : α) : ∀ (l : List α) (i : Nat), (∀ j, j < i → P (l.getD j z) = false) → idxP P l = if idxP P (l.drop i) < 0 then -1 else idxP P (l.drop i) + i
 | l, 0, _ => by
  have := idxP_range P l
  rw [List.drop_zero]
  split <;> omega
 | [], i + 1, _ => by simp [idxP]
 | x :: r, i + 1, h => by
  have ih := idxP_drop P z r i (fun j hj => by
   have := h (j + 1) (by omega)
   rwa [List.getD_cons_succ] at this)
  have h0 : ¬ P x = true := by
   have := h 0 (by omega)
   rw [List.getD_cons_zero] at this
   rw [this]
   exact Bool.false_ne_true
  have hr := idxP_range P (r.drop i)
  rw [List.drop_succ_cons, idxP, if_neg h0, ih]
  by_cases hq : idxP P (List.drop i r) < 0
  ·rw [if_pos hq, if_pos (by decide), if_pos hq]
  ·rw [if_neg hq, if_neg (by omega)]
   omega
theorem idxP_here {α : Type} (P : α → Bool) (z : α) (l : List α) (i : Nat) (h : ∀ j, j < i → P (l.getD j z) = false) (hi : i < l.length) (hp : P (l.getD i z) = true) : idxP P l = i := by
 rw [idxP_drop P z l i h, List.drop_eq_getElem_cons hi, idxP]
 rw [List.getD_eq_getElem?_getD, List.getElem?_eq_getElem hi, Option.getD_some] at hp
 rw [if_pos hp, if_neg (by decide)]
 omega
theorem idxP_any {α : Type} (P : α → Bool) : ∀ l : List α, decide (0 ≤ idxP P l) = l.any P
 | [] => rfl
 | x :: r => by
  have ih := idxP_any P r
  have hr := idxP_range P r
  rw [idxP, List.any_cons, ← ih]
  by_cases hp : P x = true
  ·rw [if_pos hp, hp]; rfl
  ·rw [if_neg hp, Bool.eq_false_iff.2 hp, Bool.false_or]
   by_cases hq : idxP P r < 0
   ·rw [if_pos hq]
    exact decide_eq_decide.2 (by omega)
   ·rw [if_neg hq]
    exact decide_eq_decide.2 (by omega)
end Go.Proofs.Ytfpkakedlapmkaa.Q
end
