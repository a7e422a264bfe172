/- Contracts of Go functions and plain facts, of several texts, one behind the other; no condition. -/
import Derived.Test.YtnalcjgefbelnaaDoorProg
import Derived.Below
import Derived.Deep.Draws
import Derived.Deep.AppendLies
import Derived.Maps.AppendAt
import Derived.OwnWalk
import Derived.Laws.BytesArg
import Derived.Laws.MakeOwn
import Derived.Laws.OwnMore
import Derived.Deep.OwnRows
import Derived.Tactics
import Derived.Lib.ConvBytes
import Derived.Laws.Slices
import Derived.WalkKit
import Derived.KernelRfl
import Derived.RowKit3
import Derived.Deep.LoopGhost
import Derived.Deep.QuietTactic
import Derived.BigQuiet
import Derived.WideLaws
import Derived.Deep.DeepCutAuto
import Derived.Deep.CutBlock
import Derived.Deep.RegionHeld3
import Derived.Laws.Rows
import Derived.Lib.AppendStr
import Derived.ArgAppend
import Derived.Laws.IdiomCopy
import Derived.OrdersHeld
import Derived.Laws.BitsLemmas
import Derived.RowKit
import Derived.Test.YtnalcjgefbelnaaDoorMTreeSets1
import Derived.Test.YtnalcjgefbelnaaDoorRows
import Derived.Lib.LaidTab
import Derived.LaidMore
import Derived.ProofKit
import Derived.OpenShut
import Derived.MakeChecks
import Derived.Stop.LaidErr
import Derived.WalkSpells
import Derived.Laws.CopyOwn
import Derived.Shelf.Strings.Builder1
import Derived.Shelf.Strings.Builder2
import Derived.Shelf.Small.Strs
import Derived.Shelf.Strconv.Itoa0
import Derived.Shelf.Strconv.Itoa1
import Derived.Shelf.LaysM
import Derived.Shelf.Strconv.Itoa2
import Derived.Shelf.Strings.Search1
import Derived.Shelf.Strings.Search2
import Derived.Shelf.Strings.Search3
import Derived.Shelf.Strings.Shaped
section
namespace Go.Proofs.YtnalcjgefbelnaaDoor.Q
open Go.RowKit Go.Proofs.YtnalcjgefbelnaaDoorW.PrintWords Go.Proofs.YtnalcjgefbelnaaDoorW.PrintLast Go.Proofs.YtnalcjgefbelnaaDoorW.PrintMore
set_option linter.unusedVariables false
set_option linter.unusedSimpArgs false

def errW : Option Int → Value
 | none => .nilIface
 | some c => .iface 0 (.int .i64 c)
theorem errW_none : errW none = .nilIface := rfl
theorem errW_some (c : Int) : errW (some c) = .iface 0 (.int .i64 c) := rfl

theorem info5 : (Tryd.prog.info? 5).map (fun i => (i.zero, i.size, i.bytes)) = some (some (.int .u8 0), 1, 1) := by kernel_rfl
theorem info9 : (Tryd.prog.info? 9).map (fun i => (i.zero, i.size, i.bytes)) = some (some (.string ⟨#[]⟩), 1, 16) := by kernel_rfl
theorem info44 : (Tryd.prog.info? 44).map (fun i => (i.zero, i.size, i.bytes)) = some (some (.agg #[(.string ⟨#[]⟩), (.slice none 0 0), (.int .i64 0), (.slice none 0 0), (.slice none 0 0)]), 5, 96) := by kernel_rfl
theorem info49 : (Tryd.prog.info? 49).map (fun i => (i.zero, i.size, i.bytes)) = some (some (.agg #[(.string ⟨#[]⟩), (.slice none 0 0), (.string ⟨#[]⟩)]), 3, 56) := by kernel_rfl
theorem info53 : (Tryd.prog.info? 53).map (fun i => (i.zero, i.size, i.bytes)) = some (some (.agg #[(.string ⟨#[]⟩), (.slice none 0 0)]), 2, 40) := by kernel_rfl
theorem info66 : (Tryd.prog.info? 66).map (fun i => (i.zero, i.size, i.bytes)) = some (some (.int .u32 0), 1, 4) := by kernel_rfl
-- the values' own types
/-! #### struct type 7 -/
structure S7 where
 f0 : Int
 f1 : Int
 f2 : Bool
 f3 : Int
def z7 : S7 := ⟨(0 : Int), (0 : Int), false, (0 : Int)⟩
def k7 : Kd S7 := Kd.iso (Kd.pair (Kd.int .i64) (Kd.pair (Kd.int .i64) (Kd.pair Kd.bool (Kd.int .u8)))) (fun x : S7 => (x.f0, x.f1, x.f2, x.f3))
def rd_T7 (xs : List S7) (i : Int) : S7 := xs.getD i.toNat z7

/-! #### struct type 8 -/
structure S8 where
 f0 : Int
 f1 : Int
 f2 : Bool
 f3 : Int
def z8 : S8 := ⟨(0 : Int), (0 : Int), false, (0 : Int)⟩
def k8 : Kd S8 := Kd.iso (Kd.pair (Kd.int .i64) (Kd.pair (Kd.int .i64) (Kd.pair Kd.bool (Kd.int .u8)))) (fun x : S8 => (x.f0, x.f1, x.f2, x.f3))
def rd_T8 (xs : List S8) (i : Int) : S8 := xs.getD i.toNat z8

/-! #### struct type 13 -/
structure S13 where
 f0 : ByteArray
 f1 : Int
def z13 : S13 := ⟨(⟨#[]⟩ : ByteArray), (0 : Int)⟩
def k13 : Kd S13 := Kd.iso (Kd.pair Kd.string (Kd.int .u64)) (fun x : S13 => (x.f0, x.f1))
def rd_T13 (xs : List S13) (i : Int) : S13 := xs.getD i.toNat z13

/-! #### struct type 14 -/
structure S14 where
 f0 : ByteArray
 f1 : Int
def z14 : S14 := ⟨(⟨#[]⟩ : ByteArray), (0 : Int)⟩
def k14 : Kd S14 := Kd.iso (Kd.pair Kd.string (Kd.int .u64)) (fun x : S14 => (x.f0, x.f1))
def rd_T14 (xs : List S14) (i : Int) : S14 := xs.getD i.toNat z14

def rd_L11 (xs : List (List Int)) (i : Int) : (List Int) := xs.getD i.toNat ([] : List Int)

def rd_L12 (xs : List (List Int)) (i : Int) : (List Int) := xs.getD i.toNat ([] : List Int)

/-! #### struct type 53 -/
structure S53 where
 f0 : ByteArray
 f1 : (List Int)
def z53 : S53 := ⟨(⟨#[]⟩ : ByteArray), ([] : List Int)⟩
def k53 : Kd S53 := Kd.iso (Kd.pair Kd.string (Kd.slice 5 (Kd.int .u8))) (fun x : S53 => (x.f0, x.f1))
theorem k53_open {w : World} {x : S53} {cs : List Value} (h : k53.K w x cs) : ∃ A1 c1, cs = [.string x.f0, .slice A1 x.f1.length c1] ∧ x.f1.length ≤ c1 ∧ (Kd.int .u8).C w A1 x.f1.length x.f1 := by
 obtain ⟨_, _, rfl, rfl, ⟨A1, c1, rfl, l1, g1⟩⟩ := h
 exact ⟨A1, c1, rfl, l1, g1⟩
theorem k53_openM {w : World} {base : Nat} {ok : Nat → Prop} {x : S53} {cs : List Value} (h : k53.M w base ok x cs) : ∃ v1, cs = [.string x.f0, v1] ∧ (Kd.int .u8).R 5 w base ok v1 x.f1 := by
 obtain ⟨_, _, rfl, rfl, ⟨v1, rfl, g1⟩⟩ := h
 exact ⟨v1, rfl, g1⟩
theorem k53_mkM (w : World) (base : Nat) (ok : Nat → Prop) (x : S53) {v1 : Value} (g1 : (Kd.int .u8).R 5 w base ok v1 x.f1) : k53.M w base ok x [.string x.f0, v1] := ⟨[.string x.f0], [v1], rfl, rfl, ⟨v1, rfl, g1⟩⟩
def rd_T53 (xs : List S53) (i : Int) : S53 := xs.getD i.toNat z53
theorem at_T53 {w : World} {A : Option Addr} {n : Nat} {xs : List S53} (h : Kd.C k53 w A n xs) (i : Int) (h0 : 0 ≤ i) (h1 : i < n) : ∃ ad A1 c1, A = some ad ∧ w.cell? (ad.add (i.toNat * 2)) = some (.string (rd_T53 xs i).f0) ∧ w.cell? ⟨(ad.add (i.toNat * 2)).block, (ad.add (i.toNat * 2)).off + 1, none⟩ = some (.slice A1 (rd_T53 xs i).f1.length c1) ∧ (rd_T53 xs i).f1.length ≤ c1 ∧ (Kd.int .u8).C w A1 (rd_T53 xs i).f1.length (rd_T53 xs i).f1 := by
 obtain ⟨ad, c, e, _, hK, hc0⟩ := Kd.C_get h z53 i h0 h1
 have hc : ∀ j u, c[j]? = some u → w.cell? (ad.add (i.toNat * 2 + j)) = some u := hc0
 obtain ⟨A1, c1, rfl, l1, g1⟩ := k53_open hK
 exact ⟨ad, A1, c1, e, hc 0 _ rfl, by rw [← add_field _ _ 1 (by omega)]; exact hc 1 _ rfl, l1, g1⟩

def rd_L14 (xs : List (List S53)) (i : Int) : (List S53) := xs.getD i.toNat ([] : List S53)

/-! #### struct type 44 -/
structure S44 where
 f0 : ByteArray
 f1 : (List Int)
 f2 : Int
 f3 : (List S53)
 f4 : (List Int)
def z44 : S44 := ⟨(⟨#[]⟩ : ByteArray), ([] : List Int), (0 : Int), ([] : List S53), ([] : List Int)⟩
def k44 : Kd S44 := Kd.iso (Kd.pair Kd.string (Kd.pair (Kd.slice 66 (Kd.int .u32)) (Kd.pair (Kd.int .i64) (Kd.pair (Kd.slice 53 k53) (Kd.slice 66 (Kd.int .u32)))))) (fun x : S44 => (x.f0, x.f1, x.f2, x.f3, x.f4))
theorem k44_open {w : World} {x : S44} {cs : List Value} (h : k44.K w x cs) : ∃ A1 c1 A3 c3 A4 c4, cs = [.string x.f0, .slice A1 x.f1.length c1, .int .i64 x.f2, .slice A3 x.f3.length c3, .slice A4 x.f4.length c4] ∧ x.f1.length ≤ c1 ∧ (Kd.int .u32).C w A1 x.f1.length x.f1 ∧ x.f3.length ≤ c3 ∧ k53.C w A3 x.f3.length x.f3 ∧ x.f4.length ≤ c4 ∧ (Kd.int .u32).C w A4 x.f4.length x.f4 := by
 obtain ⟨_, _, rfl, rfl, ⟨_, _, rfl, ⟨A1, c1, rfl, l1, g1⟩, ⟨_, _, rfl, rfl, ⟨_, _, rfl, ⟨A3, c3, rfl, l3, g3⟩, ⟨A4, c4, rfl, l4, g4⟩⟩⟩⟩⟩ := h
 exact ⟨A1, c1, A3, c3, A4, c4, rfl, l1, g1, l3, g3, l4, g4⟩
theorem k44_openM {w : World} {base : Nat} {ok : Nat → Prop} {x : S44} {cs : List Value} (h : k44.M w base ok x cs) : ∃ v1 v3 v4, cs = [.string x.f0, v1, .int .i64 x.f2, v3, v4] ∧ (Kd.int .u32).R 66 w base ok v1 x.f1 ∧ k53.R 53 w base ok v3 x.f3 ∧ (Kd.int .u32).R 66 w base ok v4 x.f4 := by
 obtain ⟨_, _, rfl, rfl, ⟨_, _, rfl, ⟨v1, rfl, g1⟩, ⟨_, _, rfl, rfl, ⟨_, _, rfl, ⟨v3, rfl, g3⟩, ⟨v4, rfl, g4⟩⟩⟩⟩⟩ := h
 exact ⟨v1, v3, v4, rfl, g1, g3, g4⟩
theorem k44_mkM (w : World) (base : Nat) (ok : Nat → Prop) (x : S44) {v1 : Value} (g1 : (Kd.int .u32).R 66 w base ok v1 x.f1) {v3 : Value} (g3 : k53.R 53 w base ok v3 x.f3) {v4 : Value} (g4 : (Kd.int .u32).R 66 w base ok v4 x.f4) : k44.M w base ok x [.string x.f0, v1, .int .i64 x.f2, v3, v4] := ⟨[.string x.f0], [v1, .int .i64 x.f2, v3, v4], rfl, rfl, ⟨[v1], [.int .i64 x.f2, v3, v4], rfl, ⟨v1, rfl, g1⟩, ⟨[.int .i64 x.f2], [v3, v4], rfl, rfl, ⟨[v3], [v4], rfl, ⟨v3, rfl, g3⟩, ⟨v4, rfl, g4⟩⟩⟩⟩⟩
def rd_T44 (xs : List S44) (i : Int) : S44 := xs.getD i.toNat z44
theorem at_T44 {w : World} {A : Option Addr} {n : Nat} {xs : List S44} (h : Kd.C k44 w A n xs) (i : Int) (h0 : 0 ≤ i) (h1 : i < n) : ∃ ad A1 c1 A3 c3 A4 c4, A = some ad ∧ w.cell? (ad.add (i.toNat * 5)) = some (.string (rd_T44 xs i).f0) ∧ w.cell? ⟨(ad.add (i.toNat * 5)).block, (ad.add (i.toNat * 5)).off + 1, none⟩ = some (.slice A1 (rd_T44 xs i).f1.length c1) ∧ w.cell? ⟨(ad.add (i.toNat * 5)).block, (ad.add (i.toNat * 5)).off + 2, none⟩ = some (.int .i64 (rd_T44 xs i).f2) ∧ w.cell? ⟨(ad.add (i.toNat * 5)).block, (ad.add (i.toNat * 5)).off + 3, none⟩ = some (.slice A3 (rd_T44 xs i).f3.length c3) ∧ w.cell? ⟨(ad.add (i.toNat * 5)).block, (ad.add (i.toNat * 5)).off + 4, none⟩ = some (.slice A4 (rd_T44 xs i).f4.length c4) ∧ (rd_T44 xs i).f1.length ≤ c1 ∧ (Kd.int .u32).C w A1 (rd_T44 xs i).f1.length (rd_T44 xs i).f1 ∧ (rd_T44 xs i).f3.length ≤ c3 ∧ k53.C w A3 (rd_T44 xs i).f3.length (rd_T44 xs i).f3 ∧ (rd_T44 xs i).f4.length ≤ c4 ∧ (Kd.int .u32).C w A4 (rd_T44 xs i).f4.length (rd_T44 xs i).f4 := by
 obtain ⟨ad, c, e, _, hK, hc0⟩ := Kd.C_get h z44 i h0 h1
 have hc : ∀ j u, c[j]? = some u → w.cell? (ad.add (i.toNat * 5 + j)) = some u := hc0
 obtain ⟨A1, c1, A3, c3, A4, c4, rfl, l1, g1, l3, g3, l4, g4⟩ := k44_open hK
 exact ⟨ad, A1, c1, A3, c3, A4, c4, e, hc 0 _ rfl, by rw [← add_field _ _ 1 (by omega)]; exact hc 1 _ rfl, by rw [← add_field _ _ 2 (by omega)]; exact hc 2 _ rfl, by rw [← add_field _ _ 3 (by omega)]; exact hc 3 _ rfl, by rw [← add_field _ _ 4 (by omega)]; exact hc 4 _ rfl, l1, g1, l3, g3, l4, g4⟩

def rd_L16 (xs : List (List S44)) (i : Int) : (List S44) := xs.getD i.toNat ([] : List S44)

/-! #### struct type 29 -/
structure S29 where
 f0 : (List S44)
 f1 : Int
 f2 : ByteArray
 f3 : (List Int)
def z29 : S29 := ⟨([] : List S44), (0 : Int), (⟨#[]⟩ : ByteArray), ([] : List Int)⟩
def k29 : Kd S29 := Kd.iso (Kd.pair (Kd.slice 44 k44) (Kd.pair (Kd.int .i64) (Kd.pair Kd.string (Kd.slice 5 (Kd.int .u8))))) (fun x : S29 => (x.f0, x.f1, x.f2, x.f3))
def rd_T29 (xs : List S29) (i : Int) : S29 := xs.getD i.toNat z29

/-! #### struct type 30 -/
structure S30 where
 f0 : (List S44)
 f1 : Int
 f2 : ByteArray
 f3 : (List Int)
def z30 : S30 := ⟨([] : List S44), (0 : Int), (⟨#[]⟩ : ByteArray), ([] : List Int)⟩
def k30 : Kd S30 := Kd.iso (Kd.pair (Kd.slice 44 k44) (Kd.pair (Kd.int .i64) (Kd.pair Kd.string (Kd.slice 5 (Kd.int .u8))))) (fun x : S30 => (x.f0, x.f1, x.f2, x.f3))
theorem k30_open {w : World} {x : S30} {cs : List Value} (h : k30.K w x cs) : ∃ A0 c0 A3 c3, cs = [.slice A0 x.f0.length c0, .int .i64 x.f1, .string x.f2, .slice A3 x.f3.length c3] ∧ x.f0.length ≤ c0 ∧ k44.C w A0 x.f0.length x.f0 ∧ x.f3.length ≤ c3 ∧ (Kd.int .u8).C w A3 x.f3.length x.f3 := by
 obtain ⟨_, _, rfl, ⟨A0, c0, rfl, l0, g0⟩, ⟨_, _, rfl, rfl, ⟨_, _, rfl, rfl, ⟨A3, c3, rfl, l3, g3⟩⟩⟩⟩ := h
 exact ⟨A0, c0, A3, c3, rfl, l0, g0, l3, g3⟩
def rd_T30 (xs : List S30) (i : Int) : S30 := xs.getD i.toNat z30

/-! #### struct type 49 -/
structure S49 where
 f0 : ByteArray
 f1 : (List Int)
 f2 : ByteArray
def z49 : S49 := ⟨(⟨#[]⟩ : ByteArray), ([] : List Int), (⟨#[]⟩ : ByteArray)⟩
def k49 : Kd S49 := Kd.iso (Kd.pair Kd.string (Kd.pair (Kd.slice 66 (Kd.int .u32)) Kd.string)) (fun x : S49 => (x.f0, x.f1, x.f2))
theorem k49_open {w : World} {x : S49} {cs : List Value} (h : k49.K w x cs) : ∃ A1 c1, cs = [.string x.f0, .slice A1 x.f1.length c1, .string x.f2] ∧ x.f1.length ≤ c1 ∧ (Kd.int .u32).C w A1 x.f1.length x.f1 := by
 obtain ⟨_, _, rfl, rfl, ⟨_, _, rfl, ⟨A1, c1, rfl, l1, g1⟩, rfl⟩⟩ := h
 exact ⟨A1, c1, rfl, l1, g1⟩
theorem k49_mk (w : World) (x : S49) {A1 : Option Addr} {c1 : Nat} (l1 : x.f1.length ≤ c1) (g1 : (Kd.int .u32).C w A1 x.f1.length x.f1) : k49.K w x [.string x.f0, .slice A1 x.f1.length c1, .string x.f2] := ⟨[.string x.f0], [.slice A1 x.f1.length c1, .string x.f2], rfl, rfl, ⟨[.slice A1 x.f1.length c1], [.string x.f2], rfl, ⟨A1, c1, rfl, l1, g1⟩, rfl⟩⟩
def rd_T49 (xs : List S49) (i : Int) : S49 := xs.getD i.toNat z49
theorem at_T49 {w : World} {A : Option Addr} {n : Nat} {xs : List S49} (h : Kd.C k49 w A n xs) (i : Int) (h0 : 0 ≤ i) (h1 : i < n) : ∃ ad A1 c1, A = some ad ∧ w.cell? (ad.add (i.toNat * 3)) = some (.string (rd_T49 xs i).f0) ∧ w.cell? ⟨(ad.add (i.toNat * 3)).block, (ad.add (i.toNat * 3)).off + 1, none⟩ = some (.slice A1 (rd_T49 xs i).f1.length c1) ∧ w.cell? ⟨(ad.add (i.toNat * 3)).block, (ad.add (i.toNat * 3)).off + 2, none⟩ = some (.string (rd_T49 xs i).f2) ∧ (rd_T49 xs i).f1.length ≤ c1 ∧ (Kd.int .u32).C w A1 (rd_T49 xs i).f1.length (rd_T49 xs i).f1 := by
 obtain ⟨ad, c, e, _, hK, hc0⟩ := Kd.C_get h z49 i h0 h1
 have hc : ∀ j u, c[j]? = some u → w.cell? (ad.add (i.toNat * 3 + j)) = some u := hc0
 obtain ⟨A1, c1, rfl, l1, g1⟩ := k49_open hK
 exact ⟨ad, A1, c1, e, hc 0 _ rfl, by rw [← add_field _ _ 1 (by omega)]; exact hc 1 _ rfl, by rw [← add_field _ _ 2 (by omega)]; exact hc 2 _ rfl, l1, g1⟩

def rd_L20 (xs : List (List S49)) (i : Int) : (List S49) := xs.getD i.toNat ([] : List S49)

/-! #### struct type 43 -/
structure S43 where
 f0 : ByteArray
 f1 : (List Int)
 f2 : Int
 f3 : (List S53)
 f4 : (List Int)
def z43 : S43 := ⟨(⟨#[]⟩ : ByteArray), ([] : List Int), (0 : Int), ([] : List S53), ([] : List Int)⟩
def k43 : Kd S43 := Kd.iso (Kd.pair Kd.string (Kd.pair (Kd.slice 66 (Kd.int .u32)) (Kd.pair (Kd.int .i64) (Kd.pair (Kd.slice 53 k53) (Kd.slice 66 (Kd.int .u32)))))) (fun x : S43 => (x.f0, x.f1, x.f2, x.f3, x.f4))
def rd_T43 (xs : List S43) (i : Int) : S43 := xs.getD i.toNat z43

/-! #### struct type 48 -/
structure S48 where
 f0 : ByteArray
 f1 : (List Int)
 f2 : ByteArray
def z48 : S48 := ⟨(⟨#[]⟩ : ByteArray), ([] : List Int), (⟨#[]⟩ : ByteArray)⟩
def k48 : Kd S48 := Kd.iso (Kd.pair Kd.string (Kd.pair (Kd.slice 66 (Kd.int .u32)) Kd.string)) (fun x : S48 => (x.f0, x.f1, x.f2))
def rd_T48 (xs : List S48) (i : Int) : S48 := xs.getD i.toNat z48

/-! #### struct type 52 -/
structure S52 where
 f0 : ByteArray
 f1 : (List Int)
def z52 : S52 := ⟨(⟨#[]⟩ : ByteArray), ([] : List Int)⟩
def k52 : Kd S52 := Kd.iso (Kd.pair Kd.string (Kd.slice 5 (Kd.int .u8))) (fun x : S52 => (x.f0, x.f1))
def rd_T52 (xs : List S52) (i : Int) : S52 := xs.getD i.toNat z52

def rd_L24 (xs : List (List Int)) (i : Int) : (List Int) := xs.getD i.toNat ([] : List Int)

def rd_L25 (xs : List (List ByteArray)) (i : Int) : (List ByteArray) := xs.getD i.toNat ([] : List ByteArray)

end Go.Proofs.YtnalcjgefbelnaaDoor.Q
end
section
set_option linter.unusedVariables false
namespace Go.Proofs.YtnalcjgefbelnaaDoor.QB
open Go.ChangeShapes Go.WideShapes Go.ChangeAt Go.RowKit
def laidL : List (String × DataW Unit) := Rows.treeFormsRow.laid
theorem door_met (os : Os) (args : Array Value) : laidMetH Tryd.prog laidL ((World.doorLaid Tryd.prog 24 os).forCall (fun _ _ => 0) ⟨#[], args, []⟩).memory :=
 laidMetH_of_parts3 (fuel := 8) (laidMet_of_run' 8 (by kernel_rfl) (by kernel_rfl)) (by kernel_rfl) (by kernel_rfl)
def tab_bits_deBruijn32tab : List Int := [0, 1, 28, 2, 29, 14, 24, 3, 30, 22, 20, 15, 25, 17, 4, 8, 31, 27, 13, 23, 21, 19, 16, 7, 26, 12, 18, 6, 11, 5, 10, 9]
def tab_bits_deBruijn64tab : List Int := [0, 1, 56, 2, 57, 49, 28, 3, 61, 58, 42, 50, 38, 29, 17, 4, 62, 47, 59, 36, 45, 43, 51, 22, 53, 39, 33, 30, 24, 18, 12, 5, 63, 55, 48, 27, 60, 41, 37, 16, 46, 35, 44, 21, 52, 32, 23, 11, 54, 26, 40, 15, 34, 20, 31, 10, 25, 14, 19, 9, 13, 8, 7, 6]
def tab_strconv_uint64pow10 : List Int := [1, 10, 100, 1000, 10000, 100000, 1000000, 10000000, 100000000, 1000000000, 10000000000, 100000000000, 1000000000000, 10000000000000, 100000000000000, 1000000000000000, 10000000000000000, 100000000000000000, 1000000000000000000, 10000000000000000000]
structure Tabs (w : World) : Prop where
 bits_deBruijn32tab : Lib.TabIs Tryd.prog w "math/bits.deBruijn32tab" .u8 tab_bits_deBruijn32tab
 bits_deBruijn64tab : Lib.TabIs Tryd.prog w "math/bits.deBruijn64tab" .u8 tab_bits_deBruijn64tab
 strconv_uint64pow10 : Lib.TabIs Tryd.prog w "internal/strconv.uint64pow10" .u64 tab_strconv_uint64pow10
theorem tabs_of_laid {W : World} (h : laidMetH Tryd.prog laidL W) : Tabs W := by
 rw [MakeChecks.laidMetH_plain _ _ _ (by kernel_rfl)] at h
 refine ⟨?_, ?_, ?_⟩
 ·exact Lib.tabIs_of_head (g := 2) (t := 139) (e := 5) (n := 32) (by kernel_rfl) (by kernel_rfl) Tryd.underlying139 Tryd.underlying5 (by kernel_rfl) (by kernel_rfl) (show laidMet Tryd.prog ((_, Lib.tabData _ _) :: _) W from h)
 ·exact Lib.tabIs_of_head (g := 3) (t := 140) (e := 5) (n := 64) (by kernel_rfl) (by kernel_rfl) Tryd.underlying140 Tryd.underlying5 (by kernel_rfl) (by kernel_rfl) (show laidMet Tryd.prog ((_, Lib.tabData _ _) :: _) W from h.tail)
 ·exact Lib.tabIs_of_head (g := 1) (t := 134) (e := 117) (n := 20) (by kernel_rfl) (by kernel_rfl) Tryd.underlying134 Tryd.underlying117 (by kernel_rfl) (by kernel_rfl) (show laidMet Tryd.prog ((_, Lib.tabData _ _) :: _) W from h.tail.tail)
theorem var_below {P : Program} {g : Nat} {W W' : World} {n : String} {cs : Array Value} (h : Below W.heap.size W W') (hg : P.globalNamed n = some g) (hv : W.var? P n = some cs) : W'.var? P n = some cs := by
 unfold World.var? at hv ⊢
 simp only [hg, Option.bind_some] at hv ⊢
 rw [h.block g (by
  rcases Nat.lt_or_ge g W.heap.size with h1 | h1
  ·exact h1
  ·rw [Array.getElem?_eq_none h1] at hv
   simp at hv)]
 exact hv
theorem Tabs.below {w w1 : World} (h : Tabs w) (hb : Below w.heap.size w w1) : Tabs w1 :=
 ⟨var_below hb (g := 2) (by kernel_rfl) h.bits_deBruijn32tab, var_below hb (g := 3) (by kernel_rfl) h.bits_deBruijn64tab, var_below hb (g := 1) (by kernel_rfl) h.strconv_uint64pow10⟩
theorem Tabs.at_bits_deBruijn64tab {w : World} (h : Tabs w) (i : Nat) (hi : i < 64) : w.cell? ⟨3, i, none⟩ = some (.int .u8 (tab_bits_deBruijn64tab.getD i 0)) := h.bits_deBruijn64tab.cell (by kernel_rfl) i hi
end Go.Proofs.YtnalcjgefbelnaaDoor.QB
end
section
namespace Go.Proofs.YtnalcjgefbelnaaDoor.Q
open Go.RowKit Go.Proofs.YtnalcjgefbelnaaDoorW.PrintWords Go.Proofs.YtnalcjgefbelnaaDoorW.PrintLast Go.Proofs.YtnalcjgefbelnaaDoorW.PrintMore
/-- A literal without elements is a row of the call's own. -/
theorem R_empty {α : Type} (d : Kd α) (e : Nat) (W : World) (base : Nat) (hb : base ≤ W.heap.size) : d.R e (W.alloc (.cells #[] e)) base (fun _ => True) (.slice (some ⟨W.heap.size, 0, none⟩) 0 0) [] :=
 ⟨fun _ _ => trivial, [], by have h := World.ownsRow_lit (base := base) (e := e) (size := d.sz) W #[] 0 hb (Nat.zero_le _) (by simp); simpa using h, Reps.none _ _⟩
theorem C_nil_eq {α : Type} {d : Kd α} {w : World} {n : Nat} {xs : List α} (h : d.C w none n xs) : xs = [] := by
 rcases Nat.eq_zero_or_pos n with h0 | h0
 ·exact List.eq_nil_of_length_eq_zero (h.1.trans h0)
 ·obtain ⟨ad, he, _⟩ := h.2.2 h0
  cases he
theorem Addr_add_zero (a : Addr) : a.add 0 = a := by
 cases a with | mk b o s => unfold Addr.add; split <;> simp_all
/-- Where a cut from 'lo' on begins. -/
def cutAt (A : Option Addr) (cap lo sz : Nat) : Option Addr := if cap = lo then A else A.map (·.add (lo * sz))
theorem cutAt_own {g cap lo sz : Nat} (h : lo < cap) : cutAt (some ⟨g, 0, none⟩) cap lo sz = some ⟨g, lo * sz, none⟩ := by
 unfold cutAt
 rw [if_neg (by omega)]
 simp [add_plain]
theorem sliced_eq (A : Option Addr) (lo hi cap s : Nat) : sliced A lo hi cap s = .slice (cutAt A cap lo s) (hi - lo) (cap - lo) := by
 simp [sliced, cutAt]
section
variable {P : Program} {t e : TypeId} {sz : Nat}
theorem run_size (hi : (P.info? e).map (·.size) = some sz) (W : World) : (sizeOf e).run P W = .ok sz W := by
 obtain ⟨i, h1, h2⟩ := Option.map_eq_some_iff.1 hi
 subst h2
 rw [run_sizeOf W h1]; simp [Program.cellsOf, h1]
theorem run_cut_lo (ht : P.underlying t = some (.slice e)) (hi : (P.info? e).map (·.size) = some sz) (A : Option Addr) (n c : Nat) (j : Int) (h0 : 0 ≤ j) (hm : j ≤ n) (W : World) :
  (Instr.slice t (.slice A n c) (some (.int .i64 j)) none none).run P W = .ok (.slice (cutAt A c j.toNat sz) (n - j.toNat) (c - j.toNat)) W := by
 have hel : P.elem t = e := by simp [Program.elem, ht]
 rw [run_slice_l W t A n c (by rw [hel]; exact ht) .i64 j h0 hm, hel, run_size hi]
 simp [Result.andThen, sliced_eq]
theorem run_cut_hi (ht : P.underlying t = some (.slice e)) (hi : (P.info? e).map (·.size) = some sz) (A : Option Addr) (n c : Nat) (j : Int) (h0 : 0 ≤ j) (hm : j ≤ c) (W : World) :
  (Instr.slice t (.slice A n c) none (some (.int .i64 j)) none).run P W = .ok (.slice A j.toNat c) W := by
 have hel : P.elem t = e := by simp [Program.elem, ht]
 rw [run_slice_h W t A n c (by rw [hel]; exact ht) .i64 j h0 hm, hel, run_size hi]
 simp [Result.andThen, sliced_eq, cutAt]
 intro _
 cases A <;> simp [Addr_add_zero]
theorem run_cut_lohi (ht : P.underlying t = some (.slice e)) (hi : (P.info? e).map (·.size) = some sz) (A : Option Addr) (n c : Nat) (j k : Int) (h0 : 0 ≤ j) (h1 : j ≤ k) (hm : k ≤ c) (W : World) :
  (Instr.slice t (.slice A n c) (some (.int .i64 j)) (some (.int .i64 k)) none).run P W = .ok (.slice (cutAt A c j.toNat sz) (k.toNat - j.toNat) (c - j.toNat)) W := by
 have hel : P.elem t = e := by simp [Program.elem, ht]
 rw [run_slice_lh W t A n c (by rw [hel]; exact ht) .i64 .i64 j k h0 h1 hm, hel, run_size hi]
 simp [Result.andThen, sliced_eq]
end
theorem C_cut {α : Type} {d : Kd α} {w : World} {A : Option Addr} {n c : Nat} {xs : List α} (h : d.C w A n xs) (hc : n ≤ c) (lo m : Nat) (hm : lo + m ≤ n) : d.C w (cutAt A c lo d.sz) m ((xs.drop lo).take m) := by
 have hl : xs.length = n := h.1
 refine ⟨by simp [hl]; omega, by have := h.2.1; omega, fun hp => ?_⟩
 obtain ⟨ad, rfl, hcell⟩ := h.2.2 (by omega)
 refine ⟨ad.add (lo * d.sz), by unfold cutAt; rw [if_neg (by omega)]; rfl, fun j p hj => ?_⟩
 have hjm : j < m := by
  have := (List.getElem?_eq_some_iff.1 hj).1
  simp at this; omega
 have hj' : xs[lo + j]? = some p := by
  rw [List.getElem?_take, if_pos hjm, List.getElem?_drop] at hj
  exact hj
 obtain ⟨cs, h1, h2, h3⟩ := hcell (lo + j) p hj'
 refine ⟨cs, h1, h2, fun i u hu => ?_⟩
 have := h3 i u hu
 rw [show (lo + j) * d.sz + i = lo * d.sz + (j * d.sz + i) by rw [Nat.add_mul]; omega] at this
 rw [add_add]
 exact this
theorem reps_scalar {α : Type} {enc : α → Value} {R : α → List Value → Prop} (hR : ∀ x c, R x c → c = [enc x]) {xs : List α} {inner : List Value} (h : Reps R 1 xs inner) : inner = xs.map enc := by
 have hl : inner.length = xs.length := by have := h.1; omega
 apply List.ext_getElem
 ·rw [hl, List.length_map]
 ·intro i h1 h2
  have h3 : i < xs.length := by omega
  have := hR _ _ (h.2 i _ (List.getElem?_eq_getElem h3))
  have h4 : ((inner.drop (i * 1)).take 1)[0]? = some (enc xs[i]) := by rw [this]; rfl
  rw [List.getElem?_take, if_pos (by omega), List.getElem?_drop, Nat.mul_one, Nat.add_zero, List.getElem?_eq_getElem h1] at h4
  rw [List.getElem_map]
  exact Option.some.inj h4
theorem reps_scalar_mk {α : Type} {enc : α → Value} {R : α → List Value → Prop} (hR : ∀ x, R x [enc x]) (xs : List α) : Reps R 1 xs (xs.map enc) := by
 refine ⟨by simp, fun j p hj => ?_⟩
 obtain ⟨hjl, rfl⟩ := List.getElem?_eq_some_iff.1 hj
 have : ((xs.map enc).drop (j * 1)).take 1 = [enc xs[j]] := by
  rw [Nat.mul_one, List.drop_eq_getElem_cons (by simpa using hjl)]
  simp
 rw [this]
 exact hR _
/-! copy -/
section
variable {P : Program} {ops : Array Oper} {rest : List Oper} {o : Oper} {a : Act} {Q : Exit → Act → World → Prop}
end
/-! rows whose elements lead nowhere -/
section
variable {α : Type} {d : Kd α} {e base : Nat} {ok : Nat → Prop} {W w1 : World} {v : Value} {xs : List α}
end
end Go.Proofs.YtnalcjgefbelnaaDoor.Q
end
section
set_option linter.unusedVariables false
set_option linter.unusedSimpArgs false
namespace Go.Proofs.YtnalcjgefbelnaaDoor.Q
open Go.RowKit Go.Proofs.YtnalcjgefbelnaaDoorW.PrintWords Go.Proofs.YtnalcjgefbelnaaDoorW.PrintLast Go.Proofs.YtnalcjgefbelnaaDoorW.PrintMore
def seg (cur : List Value) (sz j : Nat) : List Value := (cur.drop (j * sz)).take sz
theorem seg_get (cur : List Value) (sz j t : Nat) (ht : t < sz) : (seg cur sz j)[t]? = cur[j * sz + t]? := by
 unfold seg
 rw [List.getElem?_take, if_pos ht, List.getElem?_drop]
theorem seg_set (cur : List Value) (sz i m j : Nat) (v : Value) (hm : m < sz) : seg (cur.set (i * sz + m) v) sz j = if j = i then (seg cur sz j).set m v else seg cur sz j := by
 have key : ∀ t, t < sz → (i * sz + m = j * sz + t ↔ j = i ∧ t = m) := by
  intro t ht
  refine ⟨fun h => ?_, fun ⟨h1, h2⟩ => by rw [h1, h2]⟩
  rcases Nat.lt_trichotomy i j with hij | hij | hij
  ·have := Nat.mul_le_mul_right sz (show i + 1 ≤ j from hij)
   rw [Nat.add_mul, Nat.one_mul] at this
   omega
  ·subst hij
   exact ⟨rfl, by omega⟩
  ·have := Nat.mul_le_mul_right sz (show j + 1 ≤ i from hij)
   rw [Nat.add_mul, Nat.one_mul] at this
   omega
 apply List.ext_getElem?
 intro t
 by_cases ht : t < sz
 ·rw [seg_get _ _ _ _ ht, List.getElem?_set]
  by_cases hij : j = i
  ·rw [if_pos hij, List.getElem?_set, seg_get _ _ _ _ ht]
   by_cases htm : t = m
   ·have hp := (key t ht).2 ⟨hij, htm⟩
    rw [if_pos hp, if_pos htm.symm]
    have hlen : (seg cur sz j).length = min sz (cur.length - j * sz) := by unfold seg; rw [List.length_take, List.length_drop]
    by_cases hb : i * sz + m < cur.length
    ·rw [if_pos hb, if_pos (by rw [hlen]; omega)]
    ·rw [if_neg hb, if_neg (by rw [hlen]; omega)]
   ·rw [if_neg (fun h => htm ((key t ht).1 h).2), if_neg (fun h => htm h.symm)]
  ·rw [if_neg hij, if_neg (fun h => hij ((key t ht).1 h).1), seg_get _ _ _ _ ht]
 ·have h1 : ∀ c : List Value, (seg c sz j)[t]? = none := fun c => by unfold seg; rw [List.getElem?_take, if_neg ht]
  rw [h1]
  split
  ·rw [List.getElem?_set]
   split
   ·rw [if_neg (by unfold seg; rw [List.length_take]; omega)]
   ·exact (h1 _).symm
  ·exact (h1 _).symm
/-- The cells of what is read, element by element. -/
theorem C_raw {α : Type} {d : Kd α} {w : World} {A : Option Addr} {n : Nat} {xs : List α} (h : d.C w A n xs) :
  ∃ css : List (List Value), css.length = xs.length ∧ (Kd.raw d.sz).C w A n css ∧ ∀ (j : Nat) x c, xs[j]? = some x → css[j]? = some c → d.K w x c := by
 have h1 := h.1
 rcases Nat.eq_zero_or_pos n with hn | hn
 ·have : xs = [] := List.eq_nil_of_length_eq_zero (by omega)
  subst this
  exact ⟨[], rfl, ⟨h1, h.2.1, fun hp => by omega⟩, fun j x c hx => by simp at hx⟩
 ·obtain ⟨ad, rfl, _⟩ := h.2.2 hn
  obtain ⟨inner, hr, hc⟩ := ReadsRow.inner_ h
  have hat : ∀ (j : Nat) c, ((List.range xs.length).map fun j => seg inner d.sz j)[j]? = some c → j < xs.length ∧ c = seg inner d.sz j := by
   intro j c hj
   have hlt := (List.getElem?_eq_some_iff.1 hj).1
   rw [List.length_map, List.length_range] at hlt
   rw [List.getElem?_map, List.getElem?_range hlt] at hj
   exact ⟨hlt, (Option.some.inj hj).symm⟩
  have hK : ∀ (j : Nat) x, xs[j]? = some x → d.K w x (seg inner d.sz j) := fun j x hx => hr.2 j x hx
  refine ⟨(List.range xs.length).map fun j => seg inner d.sz j, by simp, ⟨by simp [h1], h.2.1, fun _ => ⟨ad, rfl, fun j c hj => ?_⟩⟩, fun j x c hx hj => ?_⟩
  ·obtain ⟨hlt, rfl⟩ := hat j c hj
   have hk := hK j _ (List.getElem?_eq_getElem hlt)
   refine ⟨_, d.K_len hk, ⟨rfl, d.K_len hk, d.K_one hk⟩, fun i u hu => ?_⟩
   have hi : i < d.sz := by
    have := (List.getElem?_eq_some_iff.1 hu).1
    rw [d.K_len hk] at this
    exact this
   rw [seg_get _ _ _ _ hi] at hu
   exact hc _ _ hu
  ·obtain ⟨hlt, rfl⟩ := hat j c hj
   exact hK j x hx
/-- A row of one's own, of type e, at block g: the elements ahead of i lead to rows of one's own, the others are w's. -/
def PR {α : Type} (d : Kd α) (e : TypeId) (w W : World) (base g n cap i : Nat) (xs : List α) (cur : Array Value) : Prop :=
 W.heap[g]? = some (.cells cur e (0, 0)) ∧ base ≤ g ∧ xs.length = n ∧ n ≤ cap ∧ cap ≤ maxLen ∧ cur.size = cap * d.sz ∧ ∀ (j : Nat) x, xs[j]? = some x → if j < i then d.M W base (fun k => k ≠ g) x (seg cur.toList d.sz j) else d.K w x (seg cur.toList d.sz j)
section
variable {α : Type} {d : Kd α} {e : TypeId} {w W W' : World} {base g n cap i : Nat} {xs : List α} {cur : Array Value} {ok : Nat → Prop}
theorem PR_start {css : List (List Value)} (h : (Kd.raw d.sz).R e W base ok (.slice (some ⟨g, 0, none⟩) n cap) css) (hl : css.length = xs.length) (hK : ∀ (j : Nat) x c, xs[j]? = some x → css[j]? = some c → d.K w x c) : ∃ cur, PR d e w W base g n cap 0 xs cur := by
 obtain ⟨hn, -, -⟩ := Kd.R_reads' h
 obtain ⟨hok, inner, ⟨hlen, ho⟩, hr⟩ := h
 rcases ho with ⟨hv, _⟩ | ⟨g', cap', cur, hv, hb, hh, hic, hcm, hcs, htk⟩
 ·cases hv
 injection hv with ha _ hc
 injection ha with ha
 injection ha with hg'
 subst hg'; subst hc
 have hrs : (Kd.raw d.sz).sz = d.sz := rfl
 rw [hrs] at hcs htk hlen
 refine ⟨cur, hh, hb, by omega, by omega, hcm, hcs, fun j x hx => ?_⟩
 rw [if_neg (by omega)]
 have hj : j < css.length := by
  have := (List.getElem?_eq_some_iff.1 hx).1
  omega
 have h1 := hr.2 j _ (List.getElem?_eq_getElem hj)
 have h2 : (inner.drop (j * d.sz)).take d.sz = css[j] := h1.1
 have h3 := hK j x _ hx (List.getElem?_eq_getElem hj)
 have h4 : seg cur.toList d.sz j = css[j] := by
  rw [← h2, ← htk]
  unfold seg
  rw [List.drop_take, List.take_take]
  congr 1
  have := Nat.mul_le_mul_right d.sz (show j + 1 ≤ css.length from hj)
  rw [Nat.add_mul, Nat.one_mul] at this
  omega
 rw [h4]
 exact h3
theorem PR_end (h : PR d e w W base g n cap n xs cur) : d.R e W base (fun _ => True) (.slice (some ⟨g, 0, none⟩) n cap) xs := by
 obtain ⟨hh, hb, hl, hnc, hcm, hcs, hj⟩ := h
 subst hl
 have hlen : (cur.toList.take (xs.length * d.sz)).length = xs.length * d.sz := by
  rw [List.length_take, show cur.toList.length = cap * d.sz from Array.length_toList.trans hcs]
  exact Nat.min_eq_left (Nat.mul_le_mul_right _ hnc)
 refine ⟨fun _ _ => trivial, cur.toList.take (xs.length * d.sz), ⟨hlen, .inr ⟨g, cap, cur, rfl, hb, hh, hnc, hcm, hcs, rfl⟩⟩, hlen, fun j p hp => ?_⟩
 have hlt := (List.getElem?_eq_some_iff.1 hp).1
 have h1 := hj j p hp
 rw [if_pos hlt] at h1
 have h2 : ((cur.toList.take (xs.length * d.sz)).drop (j * d.sz)).take d.sz = seg cur.toList d.sz j := by
  unfold seg
  rw [List.drop_take, List.take_take]
  congr 1
  have := Nat.mul_le_mul_right d.sz (show j + 1 ≤ xs.length from hlt)
  rw [Nat.add_mul, Nat.one_mul] at this
  omega
 rw [h2]
 exact d.M_mono (fun k hk => ⟨trivial, fun he => hk (by simpa [Value.ownBlock] using he)⟩) h1
theorem PR_put (h : PR d e w W base g n cap i xs cur) {cur' : Array Value} (hh' : W'.heap[g]? = some (.cells cur' e (0, 0))) (hsz : cur'.size = cur.size) (hseg : ∀ j, j ≠ i → seg cur'.toList d.sz j = seg cur.toList d.sz j)
  (hM : ∀ x, xs[i]? = some x → d.M W' base (fun k => k ≠ g) x (seg cur'.toList d.sz i)) (hm : ∀ k, k ≠ g → k < W.heap.size → W'.heap[k]? = W.heap[k]?) : PR d e w W' base g n cap (i + 1) xs cur' := by
 obtain ⟨hh, hb, hl, hnc, hcm, hcs, hj⟩ := h
 refine ⟨hh', hb, hl, hnc, hcm, by rw [hsz]; exact hcs, fun j x hx => ?_⟩
 have h1 := hj j x hx
 by_cases hji : j = i
 ·subst hji
  rw [if_pos (by omega)]
  exact hM x hx
 ·rw [hseg j hji]
  by_cases hlt : j < i
  ·rw [if_pos hlt] at h1
   rw [if_pos (by omega)]
   exact Kd.M_step h1 (fun k hk hks => hm k hk hks)
  ·rw [if_neg hlt] at h1
   rw [if_neg (by omega)]
   exact h1
theorem PR_cell (h : PR d e w W base g n cap i xs cur) (hi : i < n) : ∃ x c, xs[i]? = some x ∧ c = seg cur.toList d.sz i ∧ d.K w x c ∧ ∀ m u, c[m]? = some u → W.cell? ⟨g, i * d.sz + m, none⟩ = some u := by
 obtain ⟨hh, hb, hl, hnc, hcm, hcs, hj⟩ := h
 have hx := List.getElem?_eq_getElem (show i < xs.length by omega)
 have h1 := hj i _ hx
 rw [if_neg (Nat.lt_irrefl i)] at h1
 refine ⟨_, _, hx, rfl, h1, fun m u hu => ?_⟩
 have hm : m < d.sz := by
  have := (List.getElem?_eq_some_iff.1 hu).1
  rw [d.K_len h1] at this
  exact this
 rw [seg_get _ _ _ _ hm] at hu
 rw [blk_cell hh, ← Array.getElem?_toList]
 exact hu
end
end Go.Proofs.YtnalcjgefbelnaaDoor.Q
end
section
set_option linter.unusedSimpArgs false
set_option linter.unusedVariables false
namespace Go.Proofs.YtnalcjgefbelnaaDoor.Q
open Go.RowKit Go.Proofs.YtnalcjgefbelnaaDoorW.PrintWords Go.Proofs.YtnalcjgefbelnaaDoorW.PrintLast Go.Proofs.YtnalcjgefbelnaaDoorW.PrintMore
attribute [local go_sem] max2_int min2_int max_two min_two max_three min_three max_four min_four
set_option maxHeartbeats 4000000 in
set_option maxRecDepth 100000 in
theorem cloneNode_calls (A0 : Option Addr) (c0 : Nat) (l0 : List (List Value)) (w : World) (hr0 : Kd.C (Kd.raw 5) w A0 l0.length l0) (hl : l0.length * 96 < 140737488355328) :
  Calls Tryd.prog 47 #[.slice A0 l0.length c0] w fun e w' => ∃ v0_ : Value, e = .returned (v0_) ∧ Kd.R (Kd.raw 5) 44 w' w.heap.size (fun _ => True) v0_ l0 ∧ Below w.heap.size w w' := by
 have q : ∀ (w : World) (a : Option Addr) (n c n' c' : Nat), (binOp .eql 22 (.slice a n c) (.slice none n' c')).run Tryd.prog w = .ok (.bool a.isNone) w := fun w a n c n' c' => Lib.run_eql_slice_nil w _ _ a n c n' c' Tryd.underlying22
 cases A0 with
 | none =>
  obtain rfl := C_nil_eq hr0
  go_enter Tryd.func47, Tryd.ntmps47
  go_wp2
  go_ret
  exact ⟨_, rfl, Kd.R_nil _ _ _ _ _, Below.refl _ _⟩
 | some ad =>
  have HR := Aside0.mk hr0
  have HL := Aside0.mk hl
  clear hr0 hl
  go_enter Tryd.func47, Tryd.ntmps47
  go_wp2_with (at_builtin; refine Kd.R_append_rows (Kd.raw 5) (w0 := w) w.heap.size rfl (.tmp 5) (.tmp 6) 22 44 (.agg #[(.string ⟨#[]⟩), (.slice none 0 0), (.int .i64 0), (.slice none 0 0), (.slice none 0 0)]) 96 rfl Tryd.underlying22 info44 rfl (by decide) (by omega) (.slice (some ⟨w.heap.size, 0, none⟩) 0 0) ([] : List (List Value)) l0 _ _ _ (fun _ => True) (fun _ => False) rfl rfl ?aO ?aR (fun _ _ h => h) (fun _ h => h.elim) ?aF ?aB ?aS ?aL ?_; (case aR => exact Kd.C_alloc HR.out _); (case aB => exact (below_alloc (Below.refl _ _) _)); (case aF => exact (fun _ _ => trivial)); (case aO => exact R_empty _ _ _ _ (Nat.le_refl _)); (case aS => simp); (case aL => have := HL.out; simp only [List.length_nil]; omega); intro v1 w1 ho hb hg hat; have HO := Aside0.mk ho; have HB := Aside0.mk hb; clear ho hb hg hat)
  go_ret
  exact ⟨_, rfl, HO.out, HB.out⟩
set_option maxHeartbeats 4000000 in
set_option maxRecDepth 100000 in
theorem cloneProp_calls (A0 : Option Addr) (c0 : Nat) (l0 : List (List Value)) (w : World) (hr0 : Kd.C (Kd.raw 2) w A0 l0.length l0) (hl : l0.length * 40 < 140737488355328) :
  Calls Tryd.prog 49 #[.slice A0 l0.length c0] w fun e w' => ∃ v0_ : Value, e = .returned (v0_) ∧ Kd.R (Kd.raw 2) 53 w' w.heap.size (fun _ => True) v0_ l0 ∧ Below w.heap.size w w' := by
 have q : ∀ (w : World) (a : Option Addr) (n c n' c' : Nat), (binOp .eql 42 (.slice a n c) (.slice none n' c')).run Tryd.prog w = .ok (.bool a.isNone) w := fun w a n c n' c' => Lib.run_eql_slice_nil w _ _ a n c n' c' Tryd.underlying42
 cases A0 with
 | none =>
  obtain rfl := C_nil_eq hr0
  go_enter Tryd.func49, Tryd.ntmps49
  go_wp2
  go_ret
  exact ⟨_, rfl, Kd.R_nil _ _ _ _ _, Below.refl _ _⟩
 | some ad =>
  have HR := Aside0.mk hr0
  have HL := Aside0.mk hl
  clear hr0 hl
  go_enter Tryd.func49, Tryd.ntmps49
  go_wp2_with (at_builtin; refine Kd.R_append_rows (Kd.raw 2) (w0 := w) w.heap.size rfl (.tmp 5) (.tmp 6) 42 53 (.agg #[(.string ⟨#[]⟩), (.slice none 0 0)]) 40 rfl Tryd.underlying42 info53 rfl (by decide) (by omega) (.slice (some ⟨w.heap.size, 0, none⟩) 0 0) ([] : List (List Value)) l0 _ _ _ (fun _ => True) (fun _ => False) rfl rfl ?aO ?aR (fun _ _ h => h) (fun _ h => h.elim) ?aF ?aB ?aS ?aL ?_; (case aR => exact Kd.C_alloc HR.out _); (case aB => exact (below_alloc (Below.refl _ _) _)); (case aF => exact (fun _ _ => trivial)); (case aO => exact R_empty _ _ _ _ (Nat.le_refl _)); (case aS => simp); (case aL => have := HL.out; simp only [List.length_nil]; omega); intro v1 w1 ho hb hg hat; have HO := Aside0.mk ho; have HB := Aside0.mk hb; clear ho hb hg hat)
  go_ret
  exact ⟨_, rfl, HO.out, HB.out⟩
set_option maxHeartbeats 4000000 in
set_option maxRecDepth 100000 in
theorem cloneU32_calls (A0 : Option Addr) (c0 : Nat) (l0 : List Int) (w : World) (hr0 : Kd.C (Kd.int .u32) w A0 l0.length l0) (hl : l0.length * 4 < 140737488355328) :
  Calls Tryd.prog 48 #[.slice A0 l0.length c0] w fun e w' => ∃ v0_ : Value, e = .returned (v0_) ∧ Kd.R (Kd.int .u32) 66 w' w.heap.size (fun _ => True) v0_ l0 ∧ Below w.heap.size w w' := by
 have q : ∀ (w : World) (a : Option Addr) (n c n' c' : Nat), (binOp .eql 31 (.slice a n c) (.slice none n' c')).run Tryd.prog w = .ok (.bool a.isNone) w := fun w a n c n' c' => Lib.run_eql_slice_nil w _ _ a n c n' c' Tryd.underlying31
 cases A0 with
 | none =>
  obtain rfl := C_nil_eq hr0
  go_enter Tryd.func48, Tryd.ntmps48
  go_wp2
  go_ret
  exact ⟨_, rfl, Kd.R_nil _ _ _ _ _, Below.refl _ _⟩
 | some ad =>
  have HR := Aside0.mk hr0
  have HL := Aside0.mk hl
  clear hr0 hl
  go_enter Tryd.func48, Tryd.ntmps48
  go_wp2_with (at_builtin; refine Kd.R_append_rows (Kd.int .u32) (w0 := w) w.heap.size rfl (.tmp 5) (.tmp 6) 31 66 (.int .u32 0) 4 rfl Tryd.underlying31 info66 rfl (by decide) (by omega) (.slice (some ⟨w.heap.size, 0, none⟩) 0 0) ([] : List Int) l0 _ _ _ (fun _ => True) (fun _ => False) rfl rfl ?aO ?aR (fun _ _ h => h) (fun _ h => h.elim) ?aF ?aB ?aS ?aL ?_; (case aR => exact Kd.C_alloc HR.out _); (case aB => exact (below_alloc (Below.refl _ _) _)); (case aF => exact (fun _ _ => trivial)); (case aO => exact R_empty _ _ _ _ (Nat.le_refl _)); (case aS => simp); (case aL => have := HL.out; simp only [List.length_nil]; omega); intro v1 w1 ho hb hg hat; have HO := Aside0.mk ho; have HB := Aside0.mk hb; clear ho hb hg hat)
  go_ret
  exact ⟨_, rfl, HO.out, HB.out⟩
set_option maxHeartbeats 4000000 in
set_option maxRecDepth 100000 in
theorem cloneByte_calls (A0 : Option Addr) (c0 : Nat) (l0 : List Int) (w : World) (hr0 : Kd.C (Kd.int .u8) w A0 l0.length l0) (hl : l0.length * 1 < 140737488355328) :
  Calls Tryd.prog 50 #[.slice A0 l0.length c0] w fun e w' => ∃ v0_ : Value, e = .returned (v0_) ∧ Kd.R (Kd.int .u8) 5 w' w.heap.size (fun _ => True) v0_ l0 ∧ Below w.heap.size w w' := by
 have q : ∀ (w : World) (a : Option Addr) (n c n' c' : Nat), (binOp .eql 28 (.slice a n c) (.slice none n' c')).run Tryd.prog w = .ok (.bool a.isNone) w := fun w a n c n' c' => Lib.run_eql_slice_nil w _ _ a n c n' c' Tryd.underlying28
 cases A0 with
 | none =>
  obtain rfl := C_nil_eq hr0
  go_enter Tryd.func50, Tryd.ntmps50
  go_wp2
  go_ret
  exact ⟨_, rfl, Kd.R_nil _ _ _ _ _, Below.refl _ _⟩
 | some ad =>
  have HR := Aside0.mk hr0
  have HL := Aside0.mk hl
  clear hr0 hl
  go_enter Tryd.func50, Tryd.ntmps50
  go_wp2_with (at_builtin; refine Kd.R_append_rows (Kd.int .u8) (w0 := w) w.heap.size rfl (.tmp 5) (.tmp 6) 28 5 (.int .u8 0) 1 rfl Tryd.underlying28 info5 rfl (by decide) (by omega) (.slice (some ⟨w.heap.size, 0, none⟩) 0 0) ([] : List Int) l0 _ _ _ (fun _ => True) (fun _ => False) rfl rfl ?aO ?aR (fun _ _ h => h) (fun _ h => h.elim) ?aF ?aB ?aS ?aL ?_; (case aR => exact Kd.C_alloc HR.out _); (case aB => exact (below_alloc (Below.refl _ _) _)); (case aF => exact (fun _ _ => trivial)); (case aO => exact R_empty _ _ _ _ (Nat.le_refl _)); (case aS => simp); (case aL => have := HL.out; simp only [List.length_nil]; omega); intro v1 w1 ho hb hg hat; have HO := Aside0.mk ho; have HB := Aside0.mk hb; clear ho hb hg hat)
  go_ret
  exact ⟨_, rfl, HO.out, HB.out⟩
end Go.Proofs.YtnalcjgefbelnaaDoor.Q
end
section
set_option linter.unusedSimpArgs false
set_option linter.unusedVariables false
namespace Go.Proofs.YtnalcjgefbelnaaDoor.Q
open Go.RowKit Go.Proofs.YtnalcjgefbelnaaDoorW.PrintWords Go.Proofs.YtnalcjgefbelnaaDoorW.PrintLast Go.Proofs.YtnalcjgefbelnaaDoorW.PrintMore
attribute [local go_sem] max2_int min2_int max_two min_two max_three min_three max_four min_four
theorem put_row {W : World} {g t o : Nat} {cur : Array Value} (hh : W.heap[g]? = some (.cells cur t (0, 0))) (v : Value) (ho : o < cur.size) : ∃ cur', (W.setCell ⟨g, o, none⟩ v).heap[g]? = some (.cells cur' t (0, 0)) ∧ cur'.size = cur.size ∧ cur'.toList = cur.toList.set o v ∧ W.grownBy (W.setCell ⟨g, o, none⟩ v) (some g) := by
 obtain ⟨cur', h1, h2, h3⟩ := setCells_row [v] o W cur hh (by show o + 1 ≤ _; omega)
 obtain ⟨q1, q2, q3, q4⟩ := setCells_same g [v] o W
 refine ⟨cur', h1, h2, ?_, ⟨q1, q2, q3, by have : (W.setCells g o [v]).heap.size = W.heap.size := q4; exact Nat.le_of_eq this.symm, fun k _ hk => setCells_far [v] o k (fun e => hk (by rw [e]))⟩⟩
 rw [h3, List.set_eq_take_append_cons_drop, if_pos (by rw [Array.length_toList]; exact ho)]
 show cur.toList.take o ++ [v] ++ cur.toList.drop (o + 1) = _
 rw [List.append_assoc]
 rfl
theorem put_other {W W' : World} {g t o p : Nat} {cur cur' : Array Value} {v u : Value} (hh : W.heap[g]? = some (.cells cur t (0, 0))) (hh' : W'.heap[g]? = some (.cells cur' t (0, 0))) (ht : cur'.toList = cur.toList.set o v) (hp : o ≠ p) (hu : W.cell? ⟨g, p, none⟩ = some u) : W'.cell? ⟨g, p, none⟩ = some u := by
 rw [blk_cell hh', ← Array.getElem?_toList, ht, List.getElem?_set_ne hp, Array.getElem?_toList, ← blk_cell hh]
 exact hu
theorem cells3_step {p1 p4 p3 : Addr} {a b c : Value} {w W w2 : World} (h : (W.cell? p1 = some a ∧ W.cell? p4 = some b ∧ W.cell? p3 = some c) ∧ Below w.heap.size w W) (hb : Below W.heap.size W w2) : (w2.cell? p1 = some a ∧ w2.cell? p4 = some b ∧ w2.cell? p3 = some c) ∧ Below w.heap.size w w2 :=
 ⟨⟨(hb.cell (World.block_lt_of_cell? _ _ h.1.1)).trans h.1.1, (hb.cell (World.block_lt_of_cell? _ _ h.1.2.1)).trans h.1.2.1, (hb.cell (World.block_lt_of_cell? _ _ h.1.2.2)).trans h.1.2.2⟩, below_step h.2 hb⟩
def G106 (x : S53) : Prop := x.f1.length * 1 < 140737488355328
def G91 (x : S44) : Prop := x.f1.length * 4 < 140737488355328 ∧ x.f4.length * 4 < 140737488355328 ∧ x.f3.length * 40 < 140737488355328 ∧ ∀ p ∈ x.f3, G106 p
theorem cloneNodes (A : Option Addr) (c : Nat) (l : List S44) (w : World) (hC : Kd.C k44 w A l.length l) (hl : l.length * 96 < 140737488355328) :
  ∃ css : List (List Value), css.length = l.length ∧ (∀ (j : Nat) x c, l[j]? = some x → css[j]? = some c → k44.K w x c) ∧ Calls Tryd.prog 47 #[.slice A l.length c] w fun e w' => ∃ v0_ : Value, e = .returned (v0_) ∧ Kd.R (Kd.raw 5) 44 w' w.heap.size (fun _ => True) v0_ css ∧ Below w.heap.size w w' := by
 obtain ⟨css, h1, h2, h3⟩ := C_raw hC
 refine ⟨css, h1, h3, ?_⟩
 have h := cloneNode_calls A c css w (by rw [h1]; exact h2) (by omega)
 rwa [h1] at h
theorem cloneProps (A : Option Addr) (c : Nat) (l : List S53) (w : World) (hC : Kd.C k53 w A l.length l) (hl : l.length * 40 < 140737488355328) :
  ∃ css : List (List Value), css.length = l.length ∧ (∀ (j : Nat) x c, l[j]? = some x → css[j]? = some c → k53.K w x c) ∧ ∀ W : World, Below w.heap.size w W → Calls Tryd.prog 49 #[.slice A l.length c] W fun e w' => ∃ v0_ : Value, e = .returned (v0_) ∧ Kd.R (Kd.raw 2) 53 w' W.heap.size (fun _ => True) v0_ css ∧ Below W.heap.size W w' := by
 obtain ⟨css, h1, h2, h3⟩ := C_raw hC
 refine ⟨css, h1, h3, fun W hb => ?_⟩
 have h := cloneProp_calls A c css W (by rw [h1]; exact Kd.C_below h2 hb) (by omega)
 rwa [h1] at h
theorem R_raw_nil {α : Type} {d : Kd α} {sz e base : Nat} {W : World} {ok : Nat → Prop} {v : Value} (h : (Kd.raw sz).R e W base ok v []) (hs : sz = d.sz) : d.R e W base ok v [] := by
 subst hs
 obtain ⟨h0, inner, ho, hr⟩ := h
 exact ⟨h0, inner, ho, hr.1, fun j p hj => by simp at hj⟩
theorem R_ge {α : Type} {d : Kd α} {e b g : Nat} {W : World} {ok : Nat → Prop} {v : Value} {xs : List α} (h : d.R e W b ok v xs) (hg : g < b) : d.R e W b (fun k => k ≠ g) v xs :=
 Kd.R_mono (Kd.R_bound h) (fun k hk => by have := hk.2.1; omega)
theorem R_and {α : Type} {d : Kd α} {e b g p : Nat} {W : World} {v : Value} {xs : List α} (h : d.R e W b (fun k => k ≠ g) v xs) {t : Nat} {cells : Array Value} (hb : W.heap[p]? = some (.cells cells t (0, 0))) (ht : ∀ q, q ∈ e :: d.E → q ≠ t) : d.R e W b (fun k => k ≠ g ∧ k ≠ p) v xs := Kd.R_types h hb ht
/-- All blocks but g stand as they stood. -/
def Kp (g : Nat) (a b : World) : Prop := a.heap.size ≤ b.heap.size ∧ ∀ k, k ≠ g → k < a.heap.size → b.heap[k]? = a.heap[k]?
theorem Kp_below {g : Nat} {a b c : World} (h : Kp g a b) (hb : Below b.heap.size b c) : Kp g a c := ⟨Nat.le_trans h.1 hb.size, fun k hk hl => (hb.block k (Nat.lt_of_lt_of_le hl h.1)).trans (h.2 k hk hl)⟩
theorem Kp_grown {g p : Nat} {a b c : World} (h : Kp g a b) (hg : b.grownBy c (some p)) (hp : p = g ∨ a.heap.size ≤ p) : Kp g a c :=
 ⟨Nat.le_trans h.1 hg.size, fun k hk hl => (hg.block k (Nat.lt_of_lt_of_le hl h.1) (fun e => by injection e with e; omega)).trans (h.2 k hk hl)⟩
theorem Kp_start {g : Nat} {a b : World} (hb : Below a.heap.size a b) : Kp g a b := ⟨hb.size, fun k _ hl => hb.block k hl⟩
theorem cells2_step {p1 p2 : Addr} {a b : Value} {w W w2 : World} (h : (W.cell? p1 = some a ∧ W.cell? p2 = some b) ∧ Below w.heap.size w W) (hb : Below W.heap.size W w2) : (w2.cell? p1 = some a ∧ w2.cell? p2 = some b) ∧ Below w.heap.size w w2 :=
 ⟨⟨(hb.cell (World.block_lt_of_cell? _ _ h.1.1)).trans h.1.1, (hb.cell (World.block_lt_of_cell? _ _ h.1.2)).trans h.1.2⟩, below_step h.2 hb⟩
theorem seg2 (cur : List Value) (i : Nat) (a b v : Value) (h : seg cur 2 i = [a, b]) : seg (cur.set (i * 2 + 1) v) 2 i = [a, v] := by
 rw [seg_set _ 2 i 1 i _ (by decide), if_pos rfl, h]
 rfl
theorem seg5 (cur : List Value) (i : Nat) (a b c d e v1 v4 v3 : Value) (h : seg cur 5 i = [a, b, c, d, e]) : seg (((cur.set (i * 5 + 1) v1).set (i * 5 + 4) v4).set (i * 5 + 3) v3) 5 i = [a, v1, c, v3, v4] := by
 rw [seg_set _ 5 i 3 i _ (by decide), if_pos rfl, seg_set _ 5 i 4 i _ (by decide), if_pos rfl, seg_set _ 5 i 1 i _ (by decide), if_pos rfl, h]
 rfl
theorem seg5_ne (cur : List Value) (i j : Nat) (v1 v4 v3 : Value) (h : j ≠ i) : seg (((cur.set (i * 5 + 1) v1).set (i * 5 + 4) v4).set (i * 5 + 3) v3) 5 j = seg cur 5 j := by
 rw [seg_set _ 5 i 3 j _ (by decide), if_neg h, seg_set _ 5 i 4 j _ (by decide), if_neg h, seg_set _ 5 i 1 j _ (by decide), if_neg h]
/-- As PR, the elements' rows apart from one another. -/
def PX (w W : World) (base g n cap i : Nat) (xs : List S44) (cur : Array Value) : Prop := ∃ f, PR (Kd.tag f k44) 44 w W base g n cap i xs.zipIdx cur
theorem PX_PR {w W : World} {base g n cap i : Nat} {xs : List S44} {cur : Array Value} (h : PX w W base g n cap i xs cur) : PR k44 44 w W base g n cap i xs cur := by
 obtain ⟨f, hh, hb, hl, hnc, hcm, hcs, hj⟩ := h
 rw [List.length_zipIdx] at hl
 refine ⟨hh, hb, hl, hnc, hcm, hcs, fun j x hx => ?_⟩
 have h1 := hj j (x, j) (Kd.zip_at hx)
 split
 ·rename_i h2
  rw [if_pos h2] at h1
  exact k44.M_mono (fun k hk => hk.1) h1
 ·rename_i h2
  rw [if_neg h2] at h1
  exact h1
theorem PX_start {w W : World} {base g n cap : Nat} {xs : List S44} {cur : Array Value} (h : PR k44 44 w W base g n cap 0 xs cur) : PX w W base g n cap 0 xs cur := by
 obtain ⟨hh, hb, hl, hnc, hcm, hcs, hj⟩ := h
 refine ⟨fun _ => 0, hh, hb, by rw [List.length_zipIdx]; exact hl, hnc, hcm, hcs, fun j y hy => ?_⟩
 rw [if_neg (Nat.not_lt_zero j)]
 rw [List.getElem?_zipIdx] at hy
 obtain ⟨x, hx, rfl⟩ := Option.map_eq_some_iff.1 hy
 have h1 := hj j x hx
 rw [if_neg (Nat.not_lt_zero j)] at h1
 exact h1
theorem PR_tag {w W : World} {base g n cap i : Nat} {zs : List (S44 × Nat)} {cur : Array Value} {f f' : Nat → Nat} (h : PR (Kd.tag f k44) 44 w W base g n cap i zs cur) (hf : ∀ k, k < W.heap.size → f' k = f k) : PR (Kd.tag f' k44) 44 w W base g n cap i zs cur := by
 obtain ⟨hh, hb, hl, hnc, hcm, hcs, hj⟩ := h
 refine ⟨hh, hb, hl, hnc, hcm, hcs, fun j y hy => ?_⟩
 have h1 := hj j y hy
 split
 ·rename_i h2
  rw [if_pos h2] at h1
  exact k44.M_mono (fun k hk => ⟨hk.1.1, (hf k hk.2.2.1).trans hk.1.2⟩) (k44.M_bound h1)
 ·rename_i h2
  rw [if_neg h2] at h1
  exact h1
theorem PX_put {w W W' : World} {base g n cap i : Nat} {xs : List S44} {cur cur' : Array Value} {x : S44} (h : PX w W base g n cap i xs cur) (hx : xs[i]? = some x) (hh' : W'.heap[g]? = some (.cells cur' 44 (0, 0))) (hsz : cur'.size = cur.size) (hseg : ∀ j, j ≠ i → seg cur'.toList 5 j = seg cur.toList 5 j)
  (hM : k44.M W' base (fun k => k ≠ g ∧ W.heap.size ≤ k) x (seg cur'.toList 5 i)) (hm : ∀ k, k ≠ g → k < W.heap.size → W'.heap[k]? = W.heap[k]?) : PX w W' base g n cap (i + 1) xs cur' := by
 obtain ⟨f, hP⟩ := h
 refine ⟨fun k => if k < W.heap.size then f k else i, PR_put (PR_tag hP (fun k hk => if_pos hk)) hh' hsz hseg (fun y hy => ?_) hm⟩
 rw [Kd.zip_at hx] at hy
 obtain rfl := Option.some.inj hy
 exact k44.M_mono (fun k hk => ⟨hk.1, if_neg (by have := hk.2; omega)⟩) hM
set_option maxHeartbeats 16000000 in
set_option maxRecDepth 100000 in
theorem treeCopy_calls (A : Option Addr) (c : Nat) (l : List S44) (w : World) (hC : Kd.C k44 w A l.length l) (hc : l.length ≤ c) (hl : l.length * 96 < 140737488355328) (hG : ∀ x ∈ l, G91 x) :
  Calls Tryd.prog 15 #[.slice A l.length c] w fun e w' => ∃ v0_ : Value, e = .returned v0_ ∧ Kd.S k44 44 w' w.heap.size (fun _ => True) v0_ l ∧ Below w.heap.size w w' := by
 have hu91 := Tryd.underlying44
 have hu106 := Tryd.underlying53
 have hm := Kd.C_max hC
 have mixed : Tryd.prog.follows Departure.mixedOrders = true := by kernel_rfl
 obtain ⟨css, hcl, hck, hcall⟩ := cloneNodes A c l w hC hl
 have HCL := Aside0.mk hcall
 have HL := Aside0.mk hl
 have HGG := Aside0.mk hG
 have HC := Aside0.mk hC
 have HCK := Aside0.mk hck
 have HCS := Aside0.mk hcl
 by_cases hnil : l.length = 0
 ·have e1 : l = [] := List.eq_nil_of_length_eq_zero hnil
  subst e1
  have e2 : css = [] := List.eq_nil_of_length_eq_zero (by simpa using hcl)
  subst e2
  clear hC hc hl hG hcl hck hcall hm hnil
  go_enter Tryd.func15, Tryd.ntmps15
  go_wp2_with (go_at_call 47; refine HCL.out.mono ?_; rintro e w1 ⟨v, rfl, hR, hb⟩; obtain ⟨A1, c1, rfl⟩ := Kd.R_slice hR; have HR : Aside0 (Kd.S k44 44 w1 w.heap.size (fun _ => True) (.slice A1 0 c1) []) := Aside0.mk ⟨fun _ => 0, R_raw_nil (d := Kd.tag (fun _ => 0) k44) hR rfl⟩; have HB := Aside0.mk hb; clear hR hb)
  go_loopg [10] 0 (fun kq v10 w' => v10 = .int .i64 0 ∧ kq = 0 ∧ w' = w1)
  case atStart => exact ⟨rfl, rfl, rfl⟩
  case round =>
   obtain ⟨rfl, rfl, rfl⟩ := hrel
   go_wp2
   go_ret
   exact ⟨_, rfl, HR.out, HB.out⟩
 ·have HN := Aside0.mk hnil
  clear hC hc hl hG hcl hck hcall hnil
  go_enter Tryd.func15, Tryd.ntmps15
  go_wp2_with (go_at_call 47; refine HCL.out.mono ?_; rintro e w1 ⟨v, rfl, hR, hb⟩; obtain ⟨A1, cap, rfl⟩ := Kd.R_slice hR; rw [HCS.out] at hR ⊢; have HR := Aside0.mk hR; have HB1 := Aside0.mk hb; clear hR hb)
  obtain ⟨g, rfl⟩ : ∃ g, A1 = some ⟨g, 0, none⟩ := by
   cases A1 with
   | none =>
    have h := (Kd.R_reads' HR.out).2.2
    exact absurd (C_nil_eq h) (fun e => HN.out (by rw [← HCS.out, e]; rfl))
   | some ad =>
    obtain ⟨g, rfl⟩ := Kd.R_head HR.out
    exact ⟨g, rfl⟩
  obtain ⟨cur0, hP0⟩ := PR_start (d := k44) (xs := l) HR.out HCS.out HCK.out
  go_loopg [10] l.length (fun kq v10 w' => ∃ i : Nat, v10 = .int .i64 i ∧ Aside0 (i + kq = l.length) ∧ Aside0 (∃ cur, PX w w' w.heap.size g l.length cap i l cur) ∧ Aside0 (Below w.heap.size w w'))
  case atStart => exact ⟨0, rfl, ⟨by omega⟩, ⟨cur0, PX_start hP0⟩, HB1⟩
  case round =>
   obtain ⟨i, rfl, HI, HP, HB⟩ := hrel
   rename World => wa
   clear hP0
   cases gk with
   | zero =>
    have hlt : decide ((i : Int) < (l.length : Int)) = false := decide_eq_false (by have := HI.out; omega)
    have hltN : decide (i < l.length) = false := decide_eq_false (by have := HI.out; omega)
    go_wp2
    go_ret
    obtain ⟨cur, hp⟩ := HP.out
    have hi := HI.out
    rw [show i = l.length by omega] at hp
    obtain ⟨f, hp⟩ := hp
    exact ⟨_, rfl, ⟨f, PR_end hp⟩, HB.out⟩
   | succ k1 =>
    have hi := HI.out
    have hlt : decide ((i : Int) < (l.length : Int)) = true := decide_eq_true (by omega)
    have hltN : decide (i < l.length) = true := decide_eq_true (by omega)
    have p1 : (0 ≤ (i : Int)) = True := eq_true (by omega)
    have p2 : ((i : Int) < (l.length : Int)) = True := eq_true (by omega)
    have hwr : IntKind.i64.wrap ((i : Int) + 1) = ((i + 1 : Nat) : Int) := (i64_w _).trans (by unfold wrap64; have := HL.out; omega)
    have hwr2 : wrap64 ((i : Int) + 1) = ((i + 1 : Nat) : Int) := by unfold wrap64; have := HL.out; omega
    obtain ⟨cur, hp⟩ := HP.out
    obtain ⟨x, cs, hx, hseg, hK, hcell⟩ := PR_cell (PX_PR hp) (by omega)
    obtain ⟨A1, c1, A3, c3, A4, c4, rfl, hl1, hg1, hl3, hg3, hl4, hg4⟩ := k44_open hK
    have hy1 := hcell 1 _ rfl
    have hy3 := hcell 3 _ rfl
    have hy4 := hcell 4 _ rfl
    have hgx := HGG.out x (List.mem_of_getElem? hx)
    have HX := Aside0.mk hx
    have HSG := Aside0.mk hseg
    have HPP := Aside0.mk (PX_PR hp)
    have HAP := Aside0.mk hp
    have HG1 := Aside0.mk hgx.1
    have HG4 := Aside0.mk hgx.2.1
    have HG3 := Aside0.mk hgx.2.2.2
    have HG3L := Aside0.mk hgx.2.2.1
    have HC1 := Aside0.mk (fun (W : World) (hb : Below wa.heap.size wa W) => Kd.C_below (Kd.C_below hg1 HB.out) hb)
    have HC4 := Aside0.mk (fun (W : World) (hb : Below wa.heap.size wa W) => Kd.C_below (Kd.C_below hg4 HB.out) hb)
    obtain ⟨cs3, hcl3, hck3, hcall3⟩ := cloneProps A3 c3 x.f3 w hg3 hgx.2.2.1
    have HCP := Aside0.mk (fun (W : World) (hb : Below wa.heap.size wa W) => hcall3 W (below_step HB.out hb))
    have HCK3 := Aside0.mk hck3
    have HCL3 := Aside0.mk hcl3
    clear hcall3 hck3 hcl3 hx hseg hK hcell hp hgx hl1 hg1 hl3 hg3 hl4 hg4 hi
    go_wp2
    refine start_ (n := 27) (S := fun w' => (w'.cell? ⟨g, i * 5 + 1, none⟩ = some (.slice A1 x.f1.length c1) ∧ w'.cell? ⟨g, i * 5 + 4, none⟩ = some (.slice A4 x.f4.length c4) ∧ w'.cell? ⟨g, i * 5 + 3, none⟩ = some (.slice A3 x.f3.length c3)) ∧ Below wa.heap.size wa w') (ds := [20, 23, 26]) #[false, false, false, false, false, false, false, false, false, false, false, false, false, false, false, false, false, false, false, false, false, false, false, false, false, false, false] (by kernel_rfl) rfl rfl ⟨⟨hy1, hy4, hy3⟩, below_drew1 (Below.refl wa.heap.size wa)⟩ (fun hHeld => ?_)
    refine pure_ (i := 0) (N := some 16) (v := ?_) (a' := ?_) #[true, false, false, false, false, false, false, false, false, false, false, false, false, false, false, false, false, false, false, false, false, false, false, false, false, false, false] rfl rfl (by kernel_rfl) (fun _ _ _ h => h) (Or.inl ⟨by rfl, ?_⟩) ?_ ?_
    rotate_left
    ·intro w'
     go_simp
     with_reducible rfl
    rotate_left
    ·simp only [Act.put, List.setIfInBounds_toArray, List.set_cons_zero, List.set_cons_succ]
     rfl
    refine pure_ (i := 1) (N := some 17) (v := ?_) (a' := ?_) #[true, true, false, false, false, false, false, false, false, false, false, false, false, false, false, false, false, false, false, false, false, false, false, false, false, false, false] rfl rfl (by kernel_rfl) (fun _ _ _ h => h) (Or.inl ⟨by rfl, ?_⟩) ?_ ?_
    rotate_left
    ·intro w'
     go_simp
     with_reducible rfl
    rotate_left
    ·simp only [Act.put, List.setIfInBounds_toArray, List.set_cons_zero, List.set_cons_succ]
     rfl
    refine pure_ (i := 2) (N := some 18) (v := ?_) (a' := ?_) #[true, true, true, false, false, false, false, false, false, false, false, false, false, false, false, false, false, false, false, false, false, false, false, false, false, false, false] rfl rfl (by kernel_rfl) (fun _ _ _ h => h) (Or.inl ⟨by rfl, ?_⟩) ?_ ?_
    rotate_left
    ·intro w'
     go_simp
     with_reducible rfl
    rotate_left
    ·simp only [Act.put, List.setIfInBounds_toArray, List.set_cons_zero, List.set_cons_succ]
     rfl
    refine pure_ (i := 3) (N := some 19) (v := ?_) (a' := ?_) #[true, true, true, true, false, false, false, false, false, false, false, false, false, false, false, false, false, false, false, false, false, false, false, false, false, false, false] rfl rfl (by kernel_rfl) (fun _ _ _ h => h) (Or.inl ⟨by rfl, ?_⟩) ?_ ?_
    rotate_left
    ·intro w'
     go_simp
     with_reducible rfl
    rotate_left
    ·simp only [Act.put, List.setIfInBounds_toArray, List.set_cons_zero, List.set_cons_succ]
     rfl
    refine pure_ (i := 4) (N := some 20) (v := ?_) (a' := ?_) #[true, true, true, true, true, false, false, false, false, false, false, false, false, false, false, false, false, false, false, false, false, false, false, false, false, false, false] rfl rfl (by kernel_rfl) (fun _ _ _ h => h) (Or.inl ⟨by rfl, ?_⟩) ?_ ?_
    rotate_left
    ·intro w'
     go_simp
     with_reducible rfl
    rotate_left
    ·simp only [Act.put, List.setIfInBounds_toArray, List.set_cons_zero, List.set_cons_succ]
     rfl
    refine pure_ (i := 5) (N := some 21) (v := ?_) (a' := ?_) #[true, true, true, true, true, true, false, false, false, false, false, false, false, false, false, false, false, false, false, false, false, false, false, false, false, false, false] rfl rfl (by kernel_rfl) (fun _ _ _ h => h) (Or.inl ⟨by rfl, ?_⟩) ?_ ?_
    rotate_left
    ·intro w'
     go_simp
     with_reducible rfl
    rotate_left
    ·simp only [Act.put, List.setIfInBounds_toArray, List.set_cons_zero, List.set_cons_succ]
     rfl
    refine pure_ (i := 8) (N := some 24) (v := ?_) (a' := ?_) #[true, true, true, true, true, true, false, false, true, false, false, false, false, false, false, false, false, false, false, false, false, false, false, false, false, false, false] rfl rfl (by kernel_rfl) (fun _ _ _ h => h) (Or.inl ⟨by rfl, ?_⟩) ?_ ?_
    rotate_left
    ·intro w'
     go_simp
     with_reducible rfl
    rotate_left
    ·simp only [Act.put, List.setIfInBounds_toArray, List.set_cons_zero, List.set_cons_succ]
     rfl
    refine pure_ (i := 9) (N := some 25) (v := ?_) (a' := ?_) #[true, true, true, true, true, true, false, false, true, true, false, false, false, false, false, false, false, false, false, false, false, false, false, false, false, false, false] rfl rfl (by kernel_rfl) (fun _ _ _ h => h) (Or.inl ⟨by rfl, ?_⟩) ?_ ?_
    rotate_left
    ·intro w'
     go_simp
     with_reducible rfl
    rotate_left
    ·simp only [Act.put, List.setIfInBounds_toArray, List.set_cons_zero, List.set_cons_succ]
     rfl
    refine pure_ (i := 10) (N := some 26) (v := ?_) (a' := ?_) #[true, true, true, true, true, true, false, false, true, true, true, false, false, false, false, false, false, false, false, false, false, false, false, false, false, false, false] rfl rfl (by kernel_rfl) (fun _ _ _ h => h) (Or.inl ⟨by rfl, ?_⟩) ?_ ?_
    rotate_left
    ·intro w'
     go_simp
     with_reducible rfl
    rotate_left
    ·simp only [Act.put, List.setIfInBounds_toArray, List.set_cons_zero, List.set_cons_succ]
     rfl
    refine pure_ (i := 13) (N := some 29) (v := ?_) (a' := ?_) #[true, true, true, true, true, true, false, false, true, true, true, false, false, true, false, false, false, false, false, false, false, false, false, false, false, false, false] rfl rfl (by kernel_rfl) (fun _ _ _ h => h) (Or.inl ⟨by rfl, ?_⟩) ?_ ?_
    rotate_left
    ·intro w'
     go_simp
     with_reducible rfl
    rotate_left
    ·simp only [Act.put, List.setIfInBounds_toArray, List.set_cons_zero, List.set_cons_succ]
     rfl
    refine pure_ (i := 14) (N := some 30) (v := ?_) (a' := ?_) #[true, true, true, true, true, true, false, false, true, true, true, false, false, true, true, false, false, false, false, false, false, false, false, false, false, false, false] rfl rfl (by kernel_rfl) (fun _ _ _ h => h) (Or.inl ⟨by rfl, ?_⟩) ?_ ?_
    rotate_left
    ·intro w'
     go_simp
     with_reducible rfl
    rotate_left
    ·simp only [Act.put, List.setIfInBounds_toArray, List.set_cons_zero, List.set_cons_succ]
     rfl
    refine pure_ (i := 15) (N := some 31) (v := ?_) (a' := ?_) #[true, true, true, true, true, true, false, false, true, true, true, false, false, true, true, true, false, false, false, false, false, false, false, false, false, false, false] rfl rfl (by kernel_rfl) (fun _ _ _ h => h) (Or.inl ⟨by rfl, ?_⟩) ?_ ?_
    rotate_left
    ·intro w'
     go_simp
     with_reducible rfl
    rotate_left
    ·simp only [Act.put, List.setIfInBounds_toArray, List.set_cons_zero, List.set_cons_succ]
     rfl
    refine take_ (i := 6) (N := some 22) (v := (.slice A1 x.f1.length c1)) (a' := ?_) #[true, true, true, true, true, true, true, false, true, true, true, false, false, true, true, true, false, false, false, false, false, false, false, false, false, false, false] rfl rfl (by kernel_rfl) (fun _ _ _ h => h) (Or.inl ⟨by rfl, ?_⟩) hHeld ?_ ?_
    rotate_left
    rotate_left
    ·simp only [Act.put, List.setIfInBounds_toArray, List.set_cons_zero, List.set_cons_succ]
     rfl
    rotate_left
    ·rintro w' ⟨⟨s1, s4, s3⟩, s5⟩
     go_simp
    refine take_ (i := 11) (N := some 27) (v := (.slice A4 x.f4.length c4)) (a' := ?_) #[true, true, true, true, true, true, true, false, true, true, true, true, false, true, true, true, false, false, false, false, false, false, false, false, false, false, false] rfl rfl (by kernel_rfl) (fun _ _ _ h => h) (Or.inl ⟨by rfl, ?_⟩) hHeld ?_ ?_
    rotate_left
    rotate_left
    ·simp only [Act.put, List.setIfInBounds_toArray, List.set_cons_zero, List.set_cons_succ]
     rfl
    rotate_left
    ·rintro w' ⟨⟨s1, s4, s3⟩, s5⟩
     go_simp
    refine take_ (i := 16) (N := some 32) (v := (.slice A3 x.f3.length c3)) (a' := ?_) #[true, true, true, true, true, true, true, false, true, true, true, true, false, true, true, true, true, false, false, false, false, false, false, false, false, false, false] rfl rfl (by kernel_rfl) (fun _ _ _ h => h) (Or.inl ⟨by rfl, ?_⟩) hHeld ?_ ?_
    rotate_left
    rotate_left
    ·simp only [Act.put, List.setIfInBounds_toArray, List.set_cons_zero, List.set_cons_succ]
     rfl
    rotate_left
    ·rintro w' ⟨⟨s1, s4, s3⟩, s5⟩
     go_simp
    refine one_ (i := 7) (N := some 23) #[true, true, true, true, true, true, true, true, true, true, true, true, false, true, true, true, true, false, false, false, false, false, false, false, false, false, false] rfl rfl (by kernel_rfl) (by decide) (fun K hK => ?_)
    refine goes_ Tryd.func48 (by kernel_rfl) rfl #[.slice A1 x.f1.length c1] (by rfl) rfl rfl (by first | rfl | (simp only [List.map_toArray, List.map_cons, List.map_nil]; rfl)) ?_
    refine (cloneU32_calls A1 c1 x.f1 _ (HC1.out _ hHeld.2) HG1.out).mono ?_
    rintro e w2 ⟨v1, rfl, ho, hb⟩
    obtain ⟨B1, b1, rfl⟩ := Kd.R_slice ho
    have HO1 := Aside0.mk (Kd.R_lower ho hHeld.2.size)
    refine ⟨_, rfl, hK.out _ _ (cells3_step hHeld hb) (fun hHeld => ?_)⟩
    clear ho hb
    clear hK K
    simp only [Act.put, List.setIfInBounds_toArray, List.set_cons_zero, List.set_cons_succ]
    refine one_ (i := 12) (N := some 28) #[true, true, true, true, true, true, true, true, true, true, true, true, true, true, true, true, true, false, false, false, false, false, false, false, false, false, false] rfl rfl (by kernel_rfl) (by decide) (fun K hK => ?_)
    refine goes_ Tryd.func48 (by kernel_rfl) rfl #[.slice A4 x.f4.length c4] (by rfl) rfl rfl (by first | rfl | (simp only [List.map_toArray, List.map_cons, List.map_nil]; rfl)) ?_
    refine (cloneU32_calls A4 c4 x.f4 _ (HC4.out _ hHeld.2) HG4.out).mono ?_
    rintro e w3 ⟨v4, rfl, ho, hb⟩
    obtain ⟨B4, b4, rfl⟩ := Kd.R_slice ho
    have HO4 := Aside0.mk (Kd.R_lower ho hHeld.2.size)
    replace HO1 := Aside0.mk (Kd.R_below HO1.out hb)
    refine ⟨_, rfl, hK.out _ _ (cells3_step hHeld hb) (fun hHeld => ?_)⟩
    clear ho hb
    clear hK K
    simp only [Act.put, List.setIfInBounds_toArray, List.set_cons_zero, List.set_cons_succ]
    refine one_ (i := 17) (N := some 33) #[true, true, true, true, true, true, true, true, true, true, true, true, true, true, true, true, true, true, false, false, false, false, false, false, false, false, false] rfl rfl (by kernel_rfl) (by decide) (fun K hK => ?_)
    refine goes_ Tryd.func49 (by kernel_rfl) rfl #[.slice A3 x.f3.length c3] (by rfl) rfl rfl (by first | rfl | (simp only [List.map_toArray, List.map_cons, List.map_nil]; rfl)) ?_
    refine (HCP.out _ hHeld.2).mono ?_
    rintro e w4 ⟨v3, rfl, ho, hb⟩
    obtain ⟨B3, b3, rfl⟩ := Kd.R_slice ho
    rw [HCL3.out] at ho ⊢
    have HO3 := Aside0.mk (Kd.R_lower ho hHeld.2.size)
    replace HO1 := Aside0.mk (Kd.R_below HO1.out hb)
    replace HO4 := Aside0.mk (Kd.R_below HO4.out hb)
    refine ⟨_, rfl, hK.out _ _ (cells3_step hHeld hb) (fun hHeld => ?_)⟩
    clear ho hb
    clear hK K
    simp only [Act.put, List.setIfInBounds_toArray, List.set_cons_zero, List.set_cons_succ]
    refine pure_ (i := 18) (N := some 34) (v := ?_) (a' := ?_) #[true, true, true, true, true, true, true, true, true, true, true, true, true, true, true, true, true, true, true, false, false, false, false, false, false, false, false] rfl rfl (by kernel_rfl) (fun _ _ _ h => h) (Or.inl ⟨by rfl, ?_⟩) ?_ ?_
    rotate_left
    ·intro w'
     go_simp
     with_reducible rfl
    rotate_left
    ·simp only [Act.put, List.setIfInBounds_toArray, List.set_cons_zero, List.set_cons_succ]
     rfl
    refine pure_ (i := 19) (N := some 35) (v := ?_) (a' := ?_) #[true, true, true, true, true, true, true, true, true, true, true, true, true, true, true, true, true, true, true, true, false, false, false, false, false, false, false] rfl rfl (by kernel_rfl) (fun _ _ _ h => h) (Or.inl ⟨by rfl, ?_⟩) ?_ ?_
    rotate_left
    ·intro w'
     go_simp
     with_reducible rfl
    rotate_left
    ·simp only [Act.put, List.setIfInBounds_toArray, List.set_cons_zero, List.set_cons_succ]
     rfl
    refine last_ (i := 20) (N := none) #[true, true, true, true, true, true, true, true, true, true, true, true, true, true, true, true, true, true, true, true, true, false, false, false, false, false, false] rfl rfl (by kernel_rfl) (by decide) (fun K hK => ?_)
    have hh4 : w4.heap[g]? = some (.cells cur 44 (0, 0)) := (hHeld.2.block g (blk_lt HPP.out.1)).trans HPP.out.1
    have hsz : i * 5 + 5 ≤ cur.size := by
     have h1 := HPP.out.2.2.2.2.2.1
     have h2 := HPP.out.2.2.2.1
     have h3 := HI.out
     have h4 : cur.size = cap * 5 := h1
     omega
    have hy1 := hHeld.1.1
    have hy4 := hHeld.1.2.1
    have hy3 := hHeld.1.2.2
    have hf1 := blk_frozen hh4 (i * 5 + 1)
    refine skip_ (w1 := ?_) (by rfl) rfl ?_ ?_
    rotate_left
    ·go_simp
     rfl
    refine hK.out _ _ ?_
    obtain ⟨cur5, hh5, hs5, ht5, hg5⟩ := put_row hh4 (.slice B1 x.f1.length b1) (show i * 5 + 1 < cur.size by omega)
    generalize w4.setCell ⟨g, i * 5 + 1, none⟩ (.slice B1 x.f1.length b1) = w5 at hh5 hg5 ⊢
    have hy4' := put_other hh4 hh5 ht5 (by omega) hy4
    have hy3' := put_other hh4 hh5 ht5 (by omega) hy3
    have hf4 := blk_frozen hh5 (i * 5 + 4)
    clear hy1 hy4 hy3 hf1
    clear hK K
    refine pure_ (i := 21) (N := some 36) (v := ?_) (a' := ?_) #[true, true, true, true, true, true, true, true, true, true, true, true, true, true, true, true, true, true, true, true, true, true, false, false, false, false, false] rfl rfl (by kernel_rfl) (fun _ _ _ h => h) (Or.inl ⟨by rfl, ?_⟩) ?_ ?_
    rotate_left
    ·intro w'
     go_simp
     with_reducible rfl
    rotate_left
    ·simp only [Act.put, List.setIfInBounds_toArray, List.set_cons_zero, List.set_cons_succ]
     rfl
    refine pure_ (i := 22) (N := some 37) (v := ?_) (a' := ?_) #[true, true, true, true, true, true, true, true, true, true, true, true, true, true, true, true, true, true, true, true, true, true, true, false, false, false, false] rfl rfl (by kernel_rfl) (fun _ _ _ h => h) (Or.inl ⟨by rfl, ?_⟩) ?_ ?_
    rotate_left
    ·intro w'
     go_simp
     with_reducible rfl
    rotate_left
    ·simp only [Act.put, List.setIfInBounds_toArray, List.set_cons_zero, List.set_cons_succ]
     rfl
    refine last_ (i := 23) (N := none) #[true, true, true, true, true, true, true, true, true, true, true, true, true, true, true, true, true, true, true, true, true, true, true, true, false, false, false] rfl rfl (by kernel_rfl) (by decide) (fun K hK => ?_)
    refine skip_ (w1 := ?_) (by rfl) rfl ?_ ?_
    rotate_left
    ·go_simp
     rfl
    refine hK.out _ _ ?_
    obtain ⟨cur6, hh6, hs6, ht6, hg6⟩ := put_row hh5 (.slice B4 x.f4.length b4) (show i * 5 + 4 < cur5.size by omega)
    generalize w5.setCell ⟨g, i * 5 + 4, none⟩ (.slice B4 x.f4.length b4) = w6 at hh6 hg6 ⊢
    have hy3 := put_other hh5 hh6 ht6 (by omega) hy3'
    have hf3 := blk_frozen hh6 (i * 5 + 3)
    clear hy4' hy3' hf4
    clear hK K
    refine pure_ (i := 24) (N := some 38) (v := ?_) (a' := ?_) #[true, true, true, true, true, true, true, true, true, true, true, true, true, true, true, true, true, true, true, true, true, true, true, true, true, false, false] rfl rfl (by kernel_rfl) (fun _ _ _ h => h) (Or.inl ⟨by rfl, ?_⟩) ?_ ?_
    rotate_left
    ·intro w'
     go_simp
     with_reducible rfl
    rotate_left
    ·simp only [Act.put, List.setIfInBounds_toArray, List.set_cons_zero, List.set_cons_succ]
     rfl
    refine pure_ (i := 25) (N := some 39) (v := ?_) (a' := ?_) #[true, true, true, true, true, true, true, true, true, true, true, true, true, true, true, true, true, true, true, true, true, true, true, true, true, true, false] rfl rfl (by kernel_rfl) (fun _ _ _ h => h) (Or.inl ⟨by rfl, ?_⟩) ?_ ?_
    rotate_left
    ·intro w'
     go_simp
     with_reducible rfl
    rotate_left
    ·simp only [Act.put, List.setIfInBounds_toArray, List.set_cons_zero, List.set_cons_succ]
     rfl
    refine last_ (i := 26) (N := none) #[true, true, true, true, true, true, true, true, true, true, true, true, true, true, true, true, true, true, true, true, true, true, true, true, true, true, true] rfl rfl (by kernel_rfl) (by decide) (fun K hK => ?_)
    refine skip_ (w1 := ?_) (by rfl) rfl ?_ ?_
    rotate_left
    ·go_simp
     rfl
    refine hK.out _ _ ?_
    obtain ⟨cur7, hh7, hs7, ht7, hg7⟩ := put_row hh6 (.slice B3 x.f3.length b3) (show i * 5 + 3 < cur6.size by omega)
    generalize w6.setCell ⟨g, i * 5 + 3, none⟩ (.slice B3 x.f3.length b3) = w7 at hh7 hg7 ⊢
    clear hy3 hf3
    clear hK K
    refine done_ (n := 0) (by kernel_rfl) ?_
    have hgw : w.heap.size ≤ g := HPP.out.2.1
    have hgl : g < wa.heap.size := blk_lt HPP.out.1
    have hv3 : w7.cell? ⟨g, i * 5 + 3, none⟩ = some (.slice B3 x.f3.length b3) := by
     rw [blk_cell hh7, ← Array.getElem?_toList, ht7, List.getElem?_set_self (by rw [Array.length_toList]; omega)]
    rw [ht6, ht5] at ht7
    have HK7 := Aside0.mk (Kp_grown (Kp_grown (Kp_grown (Kp_start (g := g) hHeld.2) hg5 (.inl rfl)) hg6 (.inl rfl)) hg7 (.inl rfl))
    have hb4 := below_step HB.out hHeld.2
    have hn4 : w.heap.size ≤ w4.heap.size := hb4.size
    have hb5 := hb4.grown hg5 hn4 (fun k hk => by injection hk with hk; omega)
    have hn5 : w.heap.size ≤ w5.heap.size := hb5.size
    have hb6 := hb5.grown hg6 hn5 (fun k hk => by injection hk with hk; omega)
    have hn6 : w.heap.size ≤ w6.heap.size := hb6.size
    have HB7 := Aside0.mk (hb6.grown hg7 hn6 (fun k hk => by injection hk with hk; omega))
    have hr1 := Kd.R_grown (Kd.R_grown (Kd.R_grown (R_ge HO1.out hgl) hg5 (fun k hk e => hk (by injection e))) hg6 (fun k hk e => hk (by injection e))) hg7 (fun k hk e => hk (by injection e))
    have hr4 := Kd.R_grown (Kd.R_grown (Kd.R_grown (R_ge HO4.out hgl) hg5 (fun k hk e => hk (by injection e))) hg6 (fun k hk e => hk (by injection e))) hg7 (fun k hk e => hk (by injection e))
    have hr3 := Kd.R_grown (Kd.R_grown (Kd.R_grown (R_ge HO3.out hgl) hg5 (fun k hk e => hk (by injection e))) hg6 (fun k hk e => hk (by injection e))) hg7 (fun k hk e => hk (by injection e))
    have HR1 := Aside0.mk hr1
    have HR4 := Aside0.mk hr4
    have HR3 := Aside0.mk hr3
    have HH7 := Aside0.mk hh7
    have HT7 := Aside0.mk ht7
    have HS7 := Aside0.mk (show cur7.size = cur.size by omega)
    have HGW := Aside0.mk hgw
    have HGL := Aside0.mk hgl
    have HEND := Aside0.mk (fun (W' : World) (v3 : Value) (hv : v3 = .slice B3 x.f3.length b3) (h1 : Kd.R (Kd.int .u32) 66 W' wa.heap.size (fun k => k ≠ g) (.slice B1 x.f1.length b1) x.f1) (h4 : Kd.R (Kd.int .u32) 66 W' wa.heap.size (fun k => k ≠ g) (.slice B4 x.f4.length b4) x.f4) (h3 : Kd.R k53 53 W' wa.heap.size (fun k => k ≠ g) v3 x.f3) (hh : W'.heap[g]? = some (.cells cur7 44 (0, 0))) (hk : Kp g wa W') => (by
     subst hv
     have hwl : w.heap.size ≤ wa.heap.size := HB.out.size
     refine PX_put HAP.out HX.out hh HS7.out (fun j hj => by rw [HT7.out]; exact seg5_ne _ _ _ _ _ _ hj) ?_ (fun k h5 h6 => hk.2 k h5 h6)
     rw [HT7.out, show seg (((cur.toList.set (i * 5 + 1) (.slice B1 x.f1.length b1)).set (i * 5 + 4) (.slice B4 x.f4.length b4)).set (i * 5 + 3) (.slice B3 x.f3.length b3)) 5 i = _ from seg5 _ _ _ _ _ _ _ _ _ _ HSG.out.symm]
     exact k44_mkM _ _ _ _ (Kd.R_lower (Kd.R_mono (Kd.R_bound h1) (fun k hk => ⟨hk.1, hk.2.1⟩)) hwl) (Kd.R_lower (Kd.R_mono (Kd.R_bound h3) (fun k hk => ⟨hk.1, hk.2.1⟩)) hwl) (Kd.R_lower (Kd.R_mono (Kd.R_bound h4) (fun k hk => ⟨hk.1, hk.2.1⟩)) hwl) : PX w W' w.heap.size g l.length cap (i + 1) l cur7))
    clear hgw hgl ht7 hb4 hn4 hb5 hn5 hb6 hn6 hr1 hr4 hr3 hh7 hh4 hh5 hh6 hs5 hs6 hs7 ht5 ht6 hg5 hg6 hg7 hsz hHeld
    by_cases hn3 : x.f3.length = 0
    ·have e3 : x.f3 = [] := List.eq_nil_of_length_eq_zero hn3
     have e4 : cs3 = [] := List.eq_nil_of_length_eq_zero (by rw [HCL3.out]; exact hn3)
     have hend := HEND.out w7 _ rfl HR1.out HR4.out (by
      have h := HR3.out
      rw [e4] at h
      rw [e3]
      have h2 := R_raw_nil (d := k53) h rfl
      rw [e3] at h2
      exact h2) HH7.out HK7.out
     have HEN := Aside0.mk hend
     rw [hn3] at hv3
     clear e3 e4 hend
     go_wp2
     go_loopg [45] 0 (fun kq v45 w' => v45 = .int .i64 0 ∧ kq = 0 ∧ w' = w7)
     case atStart => exact ⟨rfl, rfl, rfl⟩
     case round =>
      obtain ⟨rfl, rfl, rfl⟩ := hrel
      go_wp2
      go_roundg k1
      case measure => omega
      case rel => exact ⟨i + 1, rfl, ⟨by have := HI.out; omega⟩, ⟨cur7, HEN.out⟩, HB7⟩
    ·obtain ⟨g3, rfl⟩ : ∃ g3, B3 = some ⟨g3, 0, none⟩ := by
      cases B3 with
      | none => exact absurd (C_nil_eq (Kd.R_reads' HR3.out).2.2) (fun e => hn3 (by rw [← HCL3.out, e]; rfl))
      | some ad =>
       obtain ⟨g3, rfl⟩ := Kd.R_head HR3.out
       exact ⟨g3, rfl⟩
     obtain ⟨cur30, hP30⟩ := PR_start (d := k53) (xs := x.f3) (w := w) HR3.out HCL3.out HCK3.out
     have HP30 := Aside0.mk hP30
     have h31 := Aside0.mk (R_and HR1.out hP30.1 (by decide))
     have h34 := Aside0.mk (R_and HR4.out hP30.1 (by decide))
     clear hP30 hn3
     go_wp2
     go_loopg [45] x.f3.length (fun kq v45 w' => ∃ k : Nat, v45 = .int .i64 k ∧ Aside0 (k + kq = x.f3.length) ∧ Aside0 (∃ cur3, PR k53 53 w w' wa.heap.size g3 x.f3.length b3 k x.f3 cur3) ∧ Aside0 (w'.heap[g]? = some (.cells cur7 44 (0, 0))) ∧ Aside0 (Kd.R (Kd.int .u32) 66 w' wa.heap.size (fun k => k ≠ g ∧ k ≠ g3) (.slice B1 x.f1.length b1) x.f1) ∧ Aside0 (Kd.R (Kd.int .u32) 66 w' wa.heap.size (fun k => k ≠ g ∧ k ≠ g3) (.slice B4 x.f4.length b4) x.f4) ∧ Aside0 (Kp g wa w') ∧ Aside0 (Below w.heap.size w w'))
     case atStart => exact ⟨0, rfl, ⟨by omega⟩, ⟨cur30, HP30.out⟩, HH7, h31, h34, HK7, HB7⟩
     case round =>
      obtain ⟨k, rfl, JI, JP, JH, J1, J4, JK, JB⟩ := hrel
      have hv3r : wr.cell? ⟨g, i * 5 + 3, none⟩ = some (.slice (some ⟨g3, 0, none⟩) x.f3.length b3) := by
       rw [blk_cell JH.out, ← blk_cell HH7.out]
       exact hv3
      clear hv3
      cases gk with
      | zero =>
       have hltN : decide (k < x.f3.length) = false := decide_eq_false (by have := JI.out; omega)
       have HEN : Aside0 (PX w wr w.heap.size g l.length cap (i + 1) l cur7) := ⟨by
        obtain ⟨cur3, hp3⟩ := JP.out
        rw [show k = x.f3.length by have := JI.out; omega] at hp3
        have h3 : Kd.R k53 53 wr wa.heap.size (fun k => k ≠ g) (.slice (some ⟨g3, 0, none⟩) x.f3.length b3) x.f3 := R_ge (PR_end hp3) HGL.out
        exact HEND.out wr _ rfl (Kd.R_mono J1.out (fun _ h => h.1)) (Kd.R_mono J4.out (fun _ h => h.1)) h3 JH.out JK.out⟩
       go_wp2
       go_roundg k1
       case measure => omega
       case rel => exact ⟨i + 1, rfl, ⟨by have := HI.out; omega⟩, ⟨cur7, HEN.out⟩, JB⟩
      | succ k2 =>
       obtain ⟨cur3, hp3⟩ := JP.out
       have hkl : k < x.f3.length := by have := JI.out; omega
       obtain ⟨y, cs, hy, hseg, hK, hcell⟩ := PR_cell hp3 hkl
       obtain ⟨A5, c5, rfl, hl5, hg5⟩ := k53_open hK
       have hd5 := hcell 1 _ rfl
       have HGY := Aside0.mk (HG3.out y (List.mem_of_getElem? hy))
       have HY := Aside0.mk hy
       have HSY := Aside0.mk hseg
       have HP3 := Aside0.mk hp3
       have HC5 := Aside0.mk (fun (W : World) (hb : Below wr.heap.size wr W) => Kd.C_below (Kd.C_below hg5 JB.out) hb)
       have HX3 := Aside0.mk (show x.f3.length ≤ 1000000000000000 by have := HG3L.out; omega)
       have hltN : decide (k < x.f3.length) = true := decide_eq_true hkl
       have q1 : (0 ≤ (k : Int)) = True := eq_true (by omega)
       have q2 : ((k : Int) < (x.f3.length : Int)) = True := eq_true (by omega)
       have hkr : IntKind.i64.wrap ((k : Int) + 1) = ((k + 1 : Nat) : Int) := (i64_w _).trans (by unfold wrap64; have := HX3.out; omega)
       have hkr2 : wrap64 ((k : Int) + 1) = ((k + 1 : Nat) : Int) := by unfold wrap64; have := HX3.out; omega
       clear hy hseg hp3 hK hcell hl5 hg5
       go_wp2
       refine start_ (n := 17) (S := fun w' => (w'.cell? ⟨g, i * 5 + 3, none⟩ = some (.slice (some ⟨g3, 0, none⟩) x.f3.length b3) ∧ w'.cell? ⟨g3, k * 2 + 1, none⟩ = some (.slice A5 y.f1.length c5)) ∧ Below wr.heap.size wr w') (ds := [16]) #[false, false, false, false, false, false, false, false, false, false, false, false, false, false, false, false, false] (by kernel_rfl) rfl rfl ⟨⟨hv3r, hd5⟩, below_drew1 (Below.refl wr.heap.size wr)⟩ (fun hHeld => ?_)
       refine pure_ (i := 0) (N := some 48) (v := ?_) (a' := ?_) #[true, false, false, false, false, false, false, false, false, false, false, false, false, false, false, false, false] rfl rfl (by kernel_rfl) (fun _ _ _ h => h) (Or.inl ⟨by rfl, ?_⟩) ?_ ?_
       rotate_left
       ·intro w'
        go_simp
        with_reducible rfl
       rotate_left
       ·simp only [Act.put, List.setIfInBounds_toArray, List.set_cons_zero, List.set_cons_succ]
        rfl
       refine pure_ (i := 1) (N := some 49) (v := ?_) (a' := ?_) #[true, true, false, false, false, false, false, false, false, false, false, false, false, false, false, false, false] rfl rfl (by kernel_rfl) (fun _ _ _ h => h) (Or.inl ⟨by rfl, ?_⟩) ?_ ?_
       rotate_left
       ·intro w'
        go_simp
        with_reducible rfl
       rotate_left
       ·simp only [Act.put, List.setIfInBounds_toArray, List.set_cons_zero, List.set_cons_succ]
        rfl
       refine pure_ (i := 2) (N := some 50) (v := ?_) (a' := ?_) #[true, true, true, false, false, false, false, false, false, false, false, false, false, false, false, false, false] rfl rfl (by kernel_rfl) (fun _ _ _ h => h) (Or.inl ⟨by rfl, ?_⟩) ?_ ?_
       rotate_left
       ·intro w'
        go_simp
        with_reducible rfl
       rotate_left
       ·simp only [Act.put, List.setIfInBounds_toArray, List.set_cons_zero, List.set_cons_succ]
        rfl
       refine pure_ (i := 4) (N := some 52) (v := ?_) (a' := ?_) #[true, true, true, false, true, false, false, false, false, false, false, false, false, false, false, false, false] rfl rfl (by kernel_rfl) (fun _ _ _ h => h) (Or.inl ⟨by rfl, ?_⟩) ?_ ?_
       rotate_left
       ·intro w'
        go_simp
        with_reducible rfl
       rotate_left
       ·simp only [Act.put, List.setIfInBounds_toArray, List.set_cons_zero, List.set_cons_succ]
        rfl
       refine pure_ (i := 5) (N := some 53) (v := ?_) (a' := ?_) #[true, true, true, false, true, true, false, false, false, false, false, false, false, false, false, false, false] rfl rfl (by kernel_rfl) (fun _ _ _ h => h) (Or.inl ⟨by rfl, ?_⟩) ?_ ?_
       rotate_left
       ·intro w'
        go_simp
        with_reducible rfl
       rotate_left
       ·simp only [Act.put, List.setIfInBounds_toArray, List.set_cons_zero, List.set_cons_succ]
        rfl
       refine pure_ (i := 6) (N := some 54) (v := ?_) (a' := ?_) #[true, true, true, false, true, true, true, false, false, false, false, false, false, false, false, false, false] rfl rfl (by kernel_rfl) (fun _ _ _ h => h) (Or.inl ⟨by rfl, ?_⟩) ?_ ?_
       rotate_left
       ·intro w'
        go_simp
        with_reducible rfl
       rotate_left
       ·simp only [Act.put, List.setIfInBounds_toArray, List.set_cons_zero, List.set_cons_succ]
        rfl
       refine pure_ (i := 7) (N := some 55) (v := ?_) (a' := ?_) #[true, true, true, false, true, true, true, true, false, false, false, false, false, false, false, false, false] rfl rfl (by kernel_rfl) (fun _ _ _ h => h) (Or.inl ⟨by rfl, ?_⟩) ?_ ?_
       rotate_left
       ·intro w'
        go_simp
        with_reducible rfl
       rotate_left
       ·simp only [Act.put, List.setIfInBounds_toArray, List.set_cons_zero, List.set_cons_succ]
        rfl
       refine pure_ (i := 9) (N := some 57) (v := ?_) (a' := ?_) #[true, true, true, false, true, true, true, true, false, true, false, false, false, false, false, false, false] rfl rfl (by kernel_rfl) (fun _ _ _ h => h) (Or.inl ⟨by rfl, ?_⟩) ?_ ?_
       rotate_left
       ·intro w'
        go_simp
        with_reducible rfl
       rotate_left
       ·simp only [Act.put, List.setIfInBounds_toArray, List.set_cons_zero, List.set_cons_succ]
        rfl
       refine take_ (i := 3) (N := some 51) (v := (.slice (some ⟨g3, 0, none⟩) x.f3.length b3)) (a' := ?_) #[true, true, true, true, true, true, true, true, false, true, false, false, false, false, false, false, false] rfl rfl (by kernel_rfl) (fun _ _ _ h => h) (Or.inl ⟨by rfl, ?_⟩) hHeld ?_ ?_
       rotate_left
       rotate_left
       ·simp only [Act.put, List.setIfInBounds_toArray, List.set_cons_zero, List.set_cons_succ]
        rfl
       rotate_left
       ·rintro w' ⟨⟨s1, s2⟩, s5⟩
        go_simp
       refine take_ (i := 8) (N := some 56) (v := (.slice (some ⟨g3, 0, none⟩) x.f3.length b3)) (a' := ?_) #[true, true, true, true, true, true, true, true, true, true, false, false, false, false, false, false, false] rfl rfl (by kernel_rfl) (fun _ _ _ h => h) (Or.inl ⟨by rfl, ?_⟩) hHeld ?_ ?_
       rotate_left
       rotate_left
       ·simp only [Act.put, List.setIfInBounds_toArray, List.set_cons_zero, List.set_cons_succ]
        rfl
       rotate_left
       ·rintro w' ⟨⟨s1, s2⟩, s5⟩
        go_simp
       refine pure_ (i := 10) (N := some 58) (v := ?_) (a' := ?_) #[true, true, true, true, true, true, true, true, true, true, true, false, false, false, false, false, false] rfl rfl (by kernel_rfl) (fun _ _ _ h => h) (Or.inl ⟨by rfl, ?_⟩) ?_ ?_
       rotate_left
       ·intro w'
        go_simp
        with_reducible rfl
       rotate_left
       ·simp only [Act.put, List.setIfInBounds_toArray, List.set_cons_zero, List.set_cons_succ]
        rfl
       refine pure_ (i := 11) (N := some 59) (v := ?_) (a' := ?_) #[true, true, true, true, true, true, true, true, true, true, true, true, false, false, false, false, false] rfl rfl (by kernel_rfl) (fun _ _ _ h => h) (Or.inl ⟨by rfl, ?_⟩) ?_ ?_
       rotate_left
       ·intro w'
        go_simp
        with_reducible rfl
       rotate_left
       ·simp only [Act.put, List.setIfInBounds_toArray, List.set_cons_zero, List.set_cons_succ]
        rfl
       refine take_ (i := 12) (N := some 60) (v := (.slice A5 y.f1.length c5)) (a' := ?_) #[true, true, true, true, true, true, true, true, true, true, true, true, true, false, false, false, false] rfl rfl (by kernel_rfl) (fun _ _ _ h => h) (Or.inl ⟨by rfl, ?_⟩) hHeld ?_ ?_
       rotate_left
       rotate_left
       ·simp only [Act.put, List.setIfInBounds_toArray, List.set_cons_zero, List.set_cons_succ]
        rfl
       rotate_left
       ·rintro w' ⟨⟨s1, s2⟩, s5⟩
        go_simp
       refine one_ (i := 13) (N := some 61) #[true, true, true, true, true, true, true, true, true, true, true, true, true, true, false, false, false] rfl rfl (by kernel_rfl) (by decide) (fun K hK => ?_)
       refine goes_ Tryd.func50 (by kernel_rfl) rfl #[.slice A5 y.f1.length c5] (by rfl) rfl rfl (by first | rfl | (simp only [List.map_toArray, List.map_cons, List.map_nil]; rfl)) ?_
       refine (cloneByte_calls A5 c5 y.f1 _ (HC5.out _ hHeld.2) HGY.out).mono ?_
       rintro e w8 ⟨v5, rfl, ho, hb⟩
       obtain ⟨B5, b5, rfl⟩ := Kd.R_slice ho
       have HO5 := Aside0.mk (Kd.R_lower ho hHeld.2.size)
       refine ⟨_, rfl, hK.out _ _ (cells2_step hHeld hb) (fun hHeld => ?_)⟩
       clear ho hb
       clear hK K
       simp only [Act.put, List.setIfInBounds_toArray, List.set_cons_zero, List.set_cons_succ]
       refine pure_ (i := 14) (N := some 62) (v := ?_) (a' := ?_) #[true, true, true, true, true, true, true, true, true, true, true, true, true, true, true, false, false] rfl rfl (by kernel_rfl) (fun _ _ _ h => h) (Or.inl ⟨by rfl, ?_⟩) ?_ ?_
       rotate_left
       ·intro w'
        go_simp
        with_reducible rfl
       rotate_left
       ·simp only [Act.put, List.setIfInBounds_toArray, List.set_cons_zero, List.set_cons_succ]
        rfl
       refine pure_ (i := 15) (N := some 63) (v := ?_) (a' := ?_) #[true, true, true, true, true, true, true, true, true, true, true, true, true, true, true, true, false] rfl rfl (by kernel_rfl) (fun _ _ _ h => h) (Or.inl ⟨by rfl, ?_⟩) ?_ ?_
       rotate_left
       ·intro w'
        go_simp
        with_reducible rfl
       rotate_left
       ·simp only [Act.put, List.setIfInBounds_toArray, List.set_cons_zero, List.set_cons_succ]
        rfl
       refine last_ (i := 16) (N := none) #[true, true, true, true, true, true, true, true, true, true, true, true, true, true, true, true, true] rfl rfl (by kernel_rfl) (by decide) (fun K hK => ?_)
       have hh8 : w8.heap[g3]? = some (.cells cur3 53 (0, 0)) := (hHeld.2.block g3 (blk_lt HP3.out.1)).trans HP3.out.1
       have hd8 := hHeld.1.2
       have hf8 := blk_frozen hh8 (k * 2 + 1)
       refine skip_ (w1 := ?_) (by rfl) rfl ?_ ?_
       rotate_left
       ·go_simp
        rfl
       refine hK.out _ _ ?_
       obtain ⟨cur9, hh9, hs9, ht9, hg9⟩ := put_row hh8 (.slice B5 y.f1.length b5) (show k * 2 + 1 < cur3.size by
        have h1 : cur3.size = b3 * 2 := HP3.out.2.2.2.2.2.1
        have h2 := HP3.out.2.2.2.1
        have h3 := JI.out
        omega)
       generalize w8.setCell ⟨g3, k * 2 + 1, none⟩ (.slice B5 y.f1.length b5) = w9 at hh9 hg9 ⊢
       clear hd8 hf8
       clear hK K
       refine done_ (n := 0) (by kernel_rfl) ?_
       have hgl3 : g3 < wr.heap.size := blk_lt HP3.out.1
       have hgw3 : wa.heap.size ≤ g3 := HP3.out.2.1
       have hne : g3 ≠ g := by have := HGL.out; omega
       have hgl := HGL.out
       have hgw := HGW.out
       have hwl : w.heap.size ≤ wa.heap.size := HB.out.size
       have hm9 : ∀ k', k' ≠ g3 → k' < wr.heap.size → w9.heap[k']? = wr.heap[k']? := fun k' h5 h6 => (hg9.block k' (Nat.lt_of_lt_of_le h6 hHeld.2.size) (fun e => h5 (by injection e))).trans (hHeld.2.block k' h6)
       have hr5 := Kd.R_grown (R_ge HO5.out hgl3) hg9 (fun k hk e => hk (by injection e))
       have hB8 := below_step JB.out hHeld.2
       have hB9 := Aside0.mk (hB8.grown hg9 (show w.heap.size ≤ w8.heap.size from hB8.size) (fun k hk => by injection hk with hk; omega))
       have hK9 := Aside0.mk (Kp_grown (Kp_below JK.out (show Below wr.heap.size wr w8 from hHeld.2)) hg9 (.inr hgw3))
       have hG9 := Aside0.mk ((hm9 g (fun e => hne e.symm) (blk_lt JH.out)).trans JH.out)
       have h91 := Aside0.mk (Kd.R_step J1.out (fun k' hk' hl => hm9 k' hk'.2 hl))
       have h94 := Aside0.mk (Kd.R_step J4.out (fun k' hk' hl => hm9 k' hk'.2 hl))
       have hp9 := Aside0.mk (PR_put HP3.out hh9 hs9 (fun j hj => by rw [ht9]; exact (seg_set _ 2 k 1 j _ (by decide)).trans (if_neg hj)) (fun z hz => by
        rw [HY.out] at hz
        obtain rfl := Option.some.inj hz
        rw [ht9, show seg (cur3.toList.set (k * 2 + 1) (.slice B5 y.f1.length b5)) k53.sz k = _ from seg2 _ _ _ _ _ HSY.out.symm]
        exact k53_mkM _ _ _ _ (Kd.R_lower hr5 JK.out.1)) hm9)
       clear hHeld hgl3 hgw3 hne hgl hgw hwl hm9 hr5 hB8 hh9 hs9 ht9 hg9 hh8
       go_wp2
       go_roundg k2
       case measure => omega
       case rel => exact ⟨k + 1, rfl, ⟨by have := JI.out; omega⟩, ⟨_, hp9.out⟩, hG9, h91, h94, hK9, hB9⟩
end Go.Proofs.YtnalcjgefbelnaaDoor.Q
end
section
set_option linter.unusedVariables false
namespace Go.Proofs.YtnalcjgefbelnaaDoor.Q
open Go.RowKit Go.Proofs.YtnalcjgefbelnaaDoorW.PrintWords Go.Proofs.YtnalcjgefbelnaaDoorW.PrintLast
def idxP {α : Type} (P : α → Bool) : List α → Int
 | [] => -1
 | x :: r => if P x = true then 0 else if idxP P r < 0 then -1 else idxP P r + 1
theorem idxP_range {α : Type} (P : α → Bool) : ∀ l : List α, -1 ≤ idxP P l ∧ idxP P l < l.length
 | [] => ⟨Int.le_refl _, by simp [idxP]⟩
 | x :: r => by
  have ih := idxP_range P r
  unfold idxP
  rw [List.length_cons]
  split
  ·omega
  ·split <;> omega
theorem idxP_drop {α : Type} (P : α → Bool) (z : α) : ∀ (l : List α) (i : Nat), (∀ j, j < i → P (l.getD j z) = false) → idxP P l = if idxP P (l.drop i) < 0 then -1 else idxP P (l.drop i) + i
 | l, 0, _ => by
  have := idxP_range P l
  rw [List.drop_zero]
  split <;> omega
 | [], i + 1, _ => by simp [idxP]
 | x :: r, i + 1, h => by
  have ih := idxP_drop P z r i (fun j hj => by
   have := h (j + 1) (by omega)
   rwa [List.getD_cons_succ] at this)
  have h0 : ¬ P x = true := by
   have := h 0 (by omega)
   rw [List.getD_cons_zero] at this
   rw [this]
   exact Bool.false_ne_true
  have hr := idxP_range P (r.drop i)
  rw [List.drop_succ_cons, idxP, if_neg h0, ih]
  by_cases hq : idxP P (List.drop i r) < 0
  ·rw [if_pos hq, if_pos (by decide), if_pos hq]
  ·rw [if_neg hq, if_neg (by omega)]
   omega
theorem idxP_here {α : Type} (P : α → Bool) (z : α) (l : List α) (i : Nat) (h : ∀ j, j < i → P (l.getD j z) = false) (hi : i < l.length) (hp : P (l.getD i z) = true) : idxP P l = i := by
 rw [idxP_drop P z l i h, List.drop_eq_getElem_cons hi, idxP]
 rw [List.getD_eq_getElem?_getD, List.getElem?_eq_getElem hi, Option.getD_some] at hp
 rw [if_pos hp, if_neg (by decide)]
 omega
theorem idxP_any {α : Type} (P : α → Bool) : ∀ l : List α, decide (0 ≤ idxP P l) = l.any P
 | [] => rfl
 | x :: r => by
  have ih := idxP_any P r
  have hr := idxP_range P r
  rw [idxP, List.any_cons, ← ih]
  by_cases hp : P x = true
  ·rw [if_pos hp, hp]; rfl
  ·rw [if_neg hp, Bool.eq_false_iff.2 hp, Bool.false_or]
   by_cases hq : idxP P r < 0
   ·rw [if_pos hq]
    exact decide_eq_decide.2 (by omega)
   ·rw [if_neg hq]
    exact decide_eq_decide.2 (by omega)
end Go.Proofs.YtnalcjgefbelnaaDoor.Q
end
section
set_option linter.unusedSimpArgs false
set_option linter.unusedVariables false
namespace Go.Proofs.YtnalcjgefbelnaaDoor.Q
open Go.RowKit Go.Proofs.YtnalcjgefbelnaaDoorW.PrintWords Go.Proofs.YtnalcjgefbelnaaDoorW.PrintLast Go.Proofs.YtnalcjgefbelnaaDoorW.PrintMore
attribute [local go_sem] max2_int min2_int max_two min_two max_three min_three max_four min_four
def isP (s : ByteArray) (x : S53) : Bool := x.f0.toList == s.toList
theorem namedP_calls (s : ByteArray) (w : World) :
  Calls Tryd.prog 67 #[.string s] w fun e w' => ∃ gb, e = .returned (.func (.func 78) #[] #[.pointer (some ⟨gb, 0, none⟩)]) ∧ w.heap.size ≤ gb ∧ w'.heap[gb]? = some (.cells #[.string s] 9 (0, 0)) ∧ Below w.heap.size w w' := by
 have HB := Aside0.mk (Below.refl w.heap.size w)
 go_enter Tryd.func67, Tryd.ntmps67
 go_wp2_with (first
  | ((with_reducible refine gate_dst (N := 1) rfl ?_); refine box_event ?hg (N := 1) ?hd (cs := #[.string s]) (t := 9) ?hr ?_; (case hd => rfl); (case hg => rfl); (case hr => first | (go_simp; done) | (go_simp; rfl)); intro gb hg w1 hbox hb; have BK := Aside0.mk hbox; have HB := Aside0.mk hb; have GB := Aside0.mk (show w.heap.size ≤ gb from hg ▸ Nat.le_refl _); clear hbox hb hg))
 go_ret
 exact ⟨gb, rfl, GB.out, BK.out, HB.out⟩
set_option maxHeartbeats 1000000 in
theorem namedPC_calls (x : S53) (A1 : Option Addr) (c1 : Nat) (s : ByteArray) (gb : Nat) (w : World) (hh : w.heap[gb]? = some (.cells #[.string s] 9 (0, 0))) :
  Calls Tryd.prog 78 #[.agg #[.string x.f0, .slice A1 x.f1.length c1], .pointer (some ⟨gb, 0, none⟩)] w fun e w' => e = .returned (.bool (isP s x)) ∧ Below w.heap.size w w' := by
 have hu106 := Tryd.underlying53
 have hlt : gb < w.heap.size := by
  rw [Array.getElem?_eq_some_iff] at hh
  exact hh.1
 have HH := Aside0.mk hh
 have HLT := Aside0.mk hlt
 clear hh hlt
 go_enter Tryd.func78, Tryd.ntmps78
 go_wp2_with (first
  | ((with_reducible refine gate_dst (N := 2) rfl ?_); refine box_event ?hg (N := 2) ?hd (cs := #[.string x.f0, .slice A1 x.f1.length c1]) (t := 53) ?hr ?_; (case hd => rfl); (case hg => rfl); (case hr => first | (go_simp; done) | (go_simp; rfl)); intro ga hg w1 hbox hb; have BK := Aside0.mk hbox; have hz0 := (blk_cell BK.out 0).trans rfl; have hz1 := (blk_cell BK.out 1).trans rfl; have hf0 := blk_frozen BK.out 0; have hf1 := blk_frozen BK.out 1; have hz2 : w1.cell? ⟨gb, 0, none⟩ = some (.string s) := (hb.cell (p := ⟨gb, 0, none⟩) HLT.out).trans ((blk_cell HH.out 0).trans rfl); have HB := Aside0.mk hb; clear hbox hb hg))
 go_ret
 exact ⟨rfl, HB.out⟩
set_option maxHeartbeats 2000000 in
set_option maxRecDepth 100000 in
theorem indexProp_calls (s : ByteArray) (gb : Nat) (A : Option Addr) (c : Nat) (l : List S53) (w : World) (hC : Kd.C k53 w A l.length l) (hh : w.heap[gb]? = some (.cells #[.string s] 9 (0, 0))) :
  Calls Tryd.prog 77 #[.slice A l.length c, .func (.func 78) #[] #[.pointer (some ⟨gb, 0, none⟩)]] w fun e w' => e = .returned (.int .i64 (idxP (isP s) l)) ∧ Below w.heap.size w w' := by
 have hu106 := Tryd.underlying53
 have hlt := blk_lt hh
 have HC := Aside0.mk hC
 have HF := Aside0.mk (fun (x : S53) (A1 : Option Addr) (c1 : Nat) (W : World) (hb : Below w.heap.size w W)  => namedPC_calls x A1 c1 s gb W (by rw [hb.block gb hlt]; exact hh))
 clear hC hh
 go_enter Tryd.func77, Tryd.ntmps77
 go_wp2
 go_loopg [8] l.length (fun kq v8 w' => ∃ i : Int, v8 = .int .i64 i ∧ Aside0 (0 ≤ i ∧ i + kq = l.length) ∧ Aside0 (∀ j : Nat, j < i.toNat → (isP s) (l.getD j z53) = false) ∧ Aside0 (Below w.heap.size w w'))
 case atStart => exact ⟨0, rfl, ⟨by omega, by omega⟩, ⟨fun j hj => absurd hj (by simp)⟩, ⟨Below.refl _ _⟩⟩
 case round =>
  obtain ⟨i, rfl, HI, HZ, HB⟩ := hrel
  cases gk with
  | zero =>
   have hlt : decide (i < (l.length : Int)) = false := decide_eq_false (by have := HI.out; omega)
   go_wp2
   go_ret
   have hz := HZ.out
   have hi := HI.out
   refine ⟨?_, HB.out⟩
   rw [idxP_drop (isP s) z53 l i.toNat hz, List.drop_eq_nil_of_le (by omega)]
   rfl
  | succ k1 =>
   have hi := HI.out
   have hm := Kd.C_max HC.out
   have hlt : decide (i < (l.length : Int)) = true := decide_eq_true (by omega)
   have p1 : (0 ≤ i) = True := eq_true (by omega)
   have p2 : (i < (l.length : Int)) = True := eq_true (by omega)
   obtain ⟨ad, A1, c1, eA, hx0, hx1, hl1, hg1⟩ := at_T53 (Kd.C_below HC.out HB.out) i (by omega) (by omega)
   cases eA
   have HGD := Aside0.mk (show rd_T53 l i = l.getD i.toNat z53 from rfl)
   have HIN := Aside0.mk (show (isP s) (rd_T53 l i) = true → idxP (isP s) l = i from fun h => by
    rw [idxP_here (isP s) z53 l i.toNat HZ.out (by omega) h]
    omega)
   have hwr : IntKind.i64.wrap (i + 1) = i + 1 := (i64_w _).trans (by unfold wrap64; omega)
   have hwr2 : wrap64 (i + 1) = i + 1 := by unfold wrap64; omega
   clear hl1 hg1
   clear hi hm
   obtain ⟨b, hb0⟩ : ∃ b, b = (isP s) (rd_T53 l i) := ⟨_, rfl⟩
   have HBP := Aside0.mk hb0
   cases b with
   | true =>
    clear hb0
    go_wp2_with (first
     | (go_at_call 78; (with_reducible refine (HF.out (rd_T53 l i) A1 c1 _ HB.out ).mono ?_); rintro e w2 ⟨rfl, hb⟩; rw [← HBP.out]; have HB2 := Aside0.mk (below_step HB.out hb); clear hb))
    go_ret
    exact ⟨by rw [HIN.out HBP.out.symm]; rfl, HB2.out⟩
   | false =>
    clear hb0
    go_wp2_with (first
     | (go_at_call 78; (with_reducible refine (HF.out (rd_T53 l i) A1 c1 _ HB.out ).mono ?_); rintro e w2 ⟨rfl, hb⟩; rw [← HBP.out]; have HB2 := Aside0.mk (below_step HB.out hb); clear hb))
    go_roundg k1
    case measure => omega
    case rel =>
     have hi := HI.out
     refine ⟨i + 1, rfl, ⟨by omega, by omega⟩, ⟨fun j hj => ?_⟩, HB2⟩
     by_cases hji : j = i.toNat
     ·subst hji
      rw [← HGD.out]
      exact HBP.out.symm
     ·exact HZ.out j (by omega)
theorem containsProp_calls (s : ByteArray) (gb : Nat) (A : Option Addr) (c : Nat) (l : List S53) (w : World) (hC : Kd.C k53 w A l.length l) (hh : w.heap[gb]? = some (.cells #[.string s] 9 (0, 0))) :
  Calls Tryd.prog 66 #[.slice A l.length c, .func (.func 78) #[] #[.pointer (some ⟨gb, 0, none⟩)]] w fun e w' => e = .returned (.bool (l.any (isP s))) ∧ Below w.heap.size w w' := by
 have HIX := Aside0.mk (indexProp_calls s gb A c l w hC hh)
 have HAN := Aside0.mk (idxP_any (isP s) l)
 clear hC hh
 go_enter Tryd.func66, Tryd.ntmps66
 go_wp2_with (go_at_call 77; refine HIX.out.mono ?_; rintro e w1 ⟨rfl, hb⟩; have HB := Aside0.mk hb; clear hb)
 go_ret
 exact ⟨by rw [← HAN.out]; rfl, HB.out⟩
end Go.Proofs.YtnalcjgefbelnaaDoor.Q
end
section
namespace Go.Proofs
open Go.Shelf
def Tryd.lays170_ren : Go.Shelf.Ren := ⟨fun | 170 => 73 | n => n, fun | 70 => 92 | 3 => 3 | 0 => 0 | 72 => 94 | 37 => 28 | 5 => 5 | n => n, fun | n => n⟩
theorem Tryd.lays170 : Go.Proofs.Lays.n170 Tryd.prog Tryd.lays170_ren := {
 mixed := by kernel_rfl
 f170 := Tryd.func73.trans (congrArg some (by kernel_rfl))
 t0 := Tryd.underlying0
 a0 := Tryd.isAgg0
 z0 := Tryd.sizeOf0
 v0 := Tryd.zeroValue0
 t3 := Tryd.underlying3
 a3 := Tryd.isAgg3
 z3 := Tryd.sizeOf3
 v3 := Tryd.zeroValue3
 t37 := Tryd.underlying28
 a37 := Tryd.isAgg28
 z37 := Tryd.sizeOf28
 v37 := Tryd.zeroValue28
 t70 := Tryd.underlying92
 a70 := Tryd.isAgg92
 z70 := Tryd.sizeOf92
 v70 := Tryd.zeroValue92
 t72 := Tryd.underlying94
 a72 := Tryd.isAgg94
 z72 := Tryd.sizeOf94
 v72 := Tryd.zeroValue94 }
open Go.RowKit in
/-- (*strings.Builder).Len: "Len returns the number of accumulated bytes; b.Len() == len(b.String()).": the world is as it was. (LAID: no walk: one application.) -/
theorem Tryd.Builder_Len (B b : Nat) (bs : List Value) (w : World) (h : Lib.IsBuilder 94 5 B b bs w) :
  Calls Tryd.prog 73 #[.pointer (some ⟨b, 0, none⟩)] w fun e w' => e = .returned (.int .i64 bs.length) ∧ w' = w := Any.Builder_Len Tryd.lays170 B b bs w h
def Tryd.lays169_ren : Go.Shelf.Ren := ⟨fun | 169 => 74 | n => n, fun | 70 => 92 | 9 => 9 | 0 => 0 | 72 => 94 | 37 => 28 | 127 => 110 | 3 => 3 | 5 => 5 | n => n, fun | n => n⟩
theorem Tryd.lays169 : Go.Proofs.Lays.n169 Tryd.prog Tryd.lays169_ren := {
 mixed := by kernel_rfl
 f169 := Tryd.func74.trans (congrArg some (by kernel_rfl))
 t0 := Tryd.underlying0
 a0 := Tryd.isAgg0
 z0 := Tryd.sizeOf0
 v0 := Tryd.zeroValue0
 t3 := Tryd.underlying3
 a3 := Tryd.isAgg3
 z3 := Tryd.sizeOf3
 v3 := Tryd.zeroValue3
 t9 := Tryd.underlying9
 a9 := Tryd.isAgg9
 z9 := Tryd.sizeOf9
 v9 := Tryd.zeroValue9
 t37 := Tryd.underlying28
 a37 := Tryd.isAgg28
 z37 := Tryd.sizeOf28
 v37 := Tryd.zeroValue28
 t70 := Tryd.underlying92
 a70 := Tryd.isAgg92
 z70 := Tryd.sizeOf92
 v70 := Tryd.zeroValue92
 t72 := Tryd.underlying94
 a72 := Tryd.isAgg94
 z72 := Tryd.sizeOf94
 v72 := Tryd.zeroValue94
 t127 := Tryd.underlying110
 a127 := Tryd.isAgg110
 z127 := Tryd.sizeOf110
 v127 := Tryd.zeroValue110 }
theorem Tryd.Builder_Extra_169 : Builder.Extra Tryd.prog Tryd.lays169_ren := {
 sizeBuilder := by kernel_rfl
 liesBuilder := by kernel_rfl
 t5 := Tryd.underlying5
 a5 := Tryd.isAgg5
 z5 := Tryd.sizeOf5
 v5 := Tryd.zeroValue5
 infoByte := by kernel_rfl
 cellsByte := by kernel_rfl
 sizeByte := by kernel_rfl
 neB5 := by decide }
open Go.RowKit in
/-- (*strings.Builder).String: "String returns the accumulated string.": WHATEVER THE BUILDER HOLDS. (LAID: no walk: one application.) -/
theorem Tryd.Builder_String_any (B b : Nat) (l : List UInt8) (w : World) (h : Lib.IsBuilder 94 5 B b (Lib.byteCells l) w) (hBw : B ≤ w.heap.size) :
  Calls Tryd.prog 74 #[.pointer (some ⟨b, 0, none⟩)] w fun e w' => e = .returned (.string ⟨l.toArray⟩) ∧ Below B w w' := Any.Builder_String_any Tryd.lays169 Tryd.Builder_Extra_169 B b l w h hBw
def Tryd.lays241_ren : Go.Shelf.Ren := ⟨fun | 241 => 97 | 277 => 104 | n => n, fun | 70 => 92 | 3 => 3 | 0 => 0 | 72 => 94 | 37 => 28 | 5 => 5 | n => n, fun | n => n⟩
def Tryd.lays165_ren : Go.Shelf.Ren := ⟨fun | 165 => 91 | 240 => 81 | 241 => 97 | 276 => 88 | 277 => 104 | n => n, fun | 70 => 92 | 3 => 3 | 0 => 0 | 4 => 4 | 9 => 9 | 20 => 20 | 72 => 94 | 37 => 28 | 164 => 113 | 5 => 5 | n => n, fun | n => n⟩
def Tryd.lays137_ren : Go.Shelf.Ren := ⟨fun | 137 => 68 | 217 => 79 | 266 => 86 | n => n, fun | 9 => 9 | 5 => 5 | 3 => 3 | n => n, fun | n => n⟩
theorem Tryd.lays137 : Go.Proofs.Lays.n137 Tryd.prog Tryd.lays137_ren := {
 mixed := by kernel_rfl
 f137 := Tryd.func68.trans (congrArg some (by kernel_rfl))
 f217 := Tryd.func79.trans (congrArg some (by kernel_rfl))
 f266 := Tryd.func86.trans (congrArg some (by kernel_rfl))
 t3 := Tryd.underlying3
 a3 := Tryd.isAgg3
 z3 := Tryd.sizeOf3
 v3 := Tryd.zeroValue3
 t5 := Tryd.underlying5
 a5 := Tryd.isAgg5
 z5 := Tryd.sizeOf5
 v5 := Tryd.zeroValue5
 t9 := Tryd.underlying9
 a9 := Tryd.isAgg9
 z9 := Tryd.sizeOf9
 v9 := Tryd.zeroValue9 }
open Go.RowKit in
/-- strings.IndexByte: "IndexByte returns the index of the first instance of c in s, or -1 if c is not present in s.": IT RETURNS 'Lib.indexByte s c'; the world is as it was. (LAID: no walk: one application.) -/
theorem Tryd.strings_IndexByte (s : ByteArray) (c : Int) (w : World) :
  Calls Tryd.prog 68 #[.string s, .int .u8 c] w fun e w' => e = .returned (.int .i64 (Lib.indexByte s.data.toList c.toNat.toUInt8)) ∧ w' = w := Any.strings_IndexByte Tryd.lays137 s c w
def Tryd.lays129_ren : Go.Shelf.Ren := ⟨fun | 129 => 106 | n => n, fun | 53 => 117 | 3 => 3 | 4 => 4 | 46 => 122 | 5 => 5 | 9 => 9 | n => n, fun | n => n⟩
def Tryd.lays317_ren : Go.Shelf.Ren := ⟨fun | 317 => 105 | n => n, fun | 3 => 3 | 46 => 122 | n => n, fun | n => n⟩
def Tryd.lays318_ren : Go.Shelf.Ren := ⟨fun | 318 => 107 | n => n, fun | 3 => 3 | 4 => 4 | n => n, fun | n => n⟩
def Tryd.lays283_ren : Go.Shelf.Ren := ⟨fun | 283 => 100 | n => n, fun | 3 => 3 | 9 => 9 | 4 => 4 | n => n, fun | n => n⟩
def Tryd.laysM284_ren : Go.Shelf.Ren := ⟨fun | 284 => 101 | 129 => 106 | 317 => 105 | 318 => 107 | n => n, fun | 53 => 117 | 3 => 3 | 212 => 134 | 0 => 0 | 4 => 4 | 46 => 122 | 5 => 5 | 9 => 9 | n => n, fun | 17 => 1 | n => n⟩
def Tryd.lays285_ren : Go.Shelf.Ren := ⟨fun | 285 => 102 | n => n, fun | 37 => 28 | 53 => 117 | 3 => 3 | 4 => 4 | 51 => 66 | 9 => 9 | 5 => 5 | 0 => 0 | n => n, fun | n => n⟩
def Tryd.lays144_ren : Go.Shelf.Ren := ⟨fun | 144 => 70 | 143 => 80 | 219 => 87 | 217 => 79 | 225 => 93 | 224 => 94 | 267 => 95 | 266 => 86 | 314 => 99 | n => n, fun | 9 => 9 | 4 => 4 | 3 => 3 | 5 => 5 | 46 => 122 | 146 => 124 | 51 => 66 | n => n, fun | 1 => 0 | n => n⟩
theorem Tryd.lays144 : Go.Proofs.Lays.n144 Tryd.prog Tryd.lays144_ren := {
 mixed := by kernel_rfl
 f143 := Tryd.func80.trans (congrArg some (by kernel_rfl))
 f144 := Tryd.func70.trans (congrArg some (by kernel_rfl))
 f217 := Tryd.func79.trans (congrArg some (by kernel_rfl))
 f219 := Tryd.func87.trans (congrArg some (by kernel_rfl))
 f224 := Tryd.func94.trans (congrArg some (by kernel_rfl))
 f225 := Tryd.func93.trans (congrArg some (by kernel_rfl))
 f266 := Tryd.func86.trans (congrArg some (by kernel_rfl))
 f267 := Tryd.func95.trans (congrArg some (by kernel_rfl))
 f314 := Tryd.func99.trans (congrArg some (by kernel_rfl))
 t3 := Tryd.underlying3
 a3 := Tryd.isAgg3
 z3 := Tryd.sizeOf3
 v3 := Tryd.zeroValue3
 t4 := Tryd.underlying4
 a4 := Tryd.isAgg4
 z4 := Tryd.sizeOf4
 v4 := Tryd.zeroValue4
 t5 := Tryd.underlying5
 a5 := Tryd.isAgg5
 z5 := Tryd.sizeOf5
 v5 := Tryd.zeroValue5
 t9 := Tryd.underlying9
 a9 := Tryd.isAgg9
 z9 := Tryd.sizeOf9
 v9 := Tryd.zeroValue9
 t46 := Tryd.underlying122
 a46 := Tryd.isAgg122
 z46 := Tryd.sizeOf122
 v46 := Tryd.zeroValue122
 t51 := Tryd.underlying66
 a51 := Tryd.isAgg66
 z51 := Tryd.sizeOf66
 v51 := Tryd.zeroValue66
 t146 := Tryd.underlying124
 a146 := Tryd.isAgg124
 z146 := Tryd.sizeOf124
 v146 := Tryd.zeroValue124
 g1 := by kernel_rfl }
open Go.RowKit Go.Lib in
/-- strings.Contains: "Contains reports whether substr is within s.": AT A substr OF ONE BYTE c: IT RETURNS 'decide (0 ≤ Lib.indexByte s c)'; the world is as it was. (LAID: no walk: one application.) -/
theorem Tryd.strings_Contains_one (s : ByteArray) (c : UInt8) (w : World) :
  Calls Tryd.prog 70 #[.string s, .string ⟨#[c]⟩] w fun e w' => e = .returned (.bool (decide (0 ≤ Lib.indexByte s.data.toList c))) ∧ w' = w := Any.strings_Contains_one Tryd.lays144 s c w
end Go.Proofs
end
section
namespace Go.Proofs.YtnalcjgefbelnaaDoor.Q
open Go.RowKit Go.Proofs.YtnalcjgefbelnaaDoorW.PrintWords Go.Proofs.YtnalcjgefbelnaaDoorW.PrintLast
def strings_IndexByte.f (a0 : ByteArray) (a1 : Int) : Option Int := some (Lib.indexByte a0.data.toList a1.toNat.toUInt8)
theorem strings_IndexByte.calls (a0 : ByteArray) (a1 : Int) (r : Int) (w : World) (h : strings_IndexByte.f a0 a1 = some r) : Calls Tryd.prog 68 #[.string a0, .int .u8 a1] w fun e w' => e = .returned (.int .i64 r) ∧ Below w.heap.size w w' := by
 obtain rfl := Option.some.inj h
 refine (Tryd.strings_IndexByte a0 a1 w).mono ?_
 rintro e w' ⟨rfl, rfl⟩
 exact ⟨rfl, Below.refl _ _⟩
def strings_Contains.f (a0 a1 : ByteArray) : Option Bool := if a1.data = #[47] then some (decide (0 ≤ Lib.indexByte a0.data.toList 47)) else none
end Go.Proofs.YtnalcjgefbelnaaDoor.Q
end
section
namespace Go.Proofs.YtnalcjgefbelnaaDoor.Q
open Go.RowKit Go.Proofs.YtnalcjgefbelnaaDoorW.PrintWords Go.Proofs.YtnalcjgefbelnaaDoorW.PrintLast Go.Proofs.YtnalcjgefbelnaaDoorW.PrintMore
set_option linter.unusedVariables false
set_option linter.unusedSimpArgs false

attribute [local go_sem] max2_int min2_int max_two min_two max_three min_three max_four min_four
/-! ### prop_Named: function 41 -/
mutual
def prop_Named.j0 : Nat → ByteArray → Bool → Option (Bool)
 | 0, _, _ => none
 | k + 1, x0, x11 => if x11 = true then (some false) else (prop_Named.l0 k x0 (x0.size : Int) 0)
def prop_Named.l0 : Nat → ByteArray → Int → Int → Option (Bool)
 | 0, _, _, _ => none
 | k + 1, x0, x13, x14 => if x14 < x13 then (if 0 ≤ x14 then (if x14 < (x0.size : Int) then (if (bt x0 x14) ≤ 32 then (prop_Named.j2 k x0 (bt x0 x14) x13 x14 true) else (if (bt x0 x14) > 126 then (prop_Named.j2 k x0 (bt x0 x14) x13 x14 true) else (if (bt x0 x14) ≥ 65 then (prop_Named.j2 k x0 (bt x0 x14) x13 x14 (decide ((bt x0 x14) ≤ 90))) else (prop_Named.j2 k x0 (bt x0 x14) x13 x14 false)))) else (none)) else (none)) else (some true)
def prop_Named.j2 : Nat → ByteArray → Int → Int → Int → Bool → Option (Bool)
 | 0, _, _, _, _, _ => none
 | k + 1, x0, x4, x13, x14, x20 => if x20 = true then (some false) else ((strings_IndexByte.f (⟨#[47, 92, 58, 91, 93, 64]⟩ : ByteArray) x4).bind fun t42001 => (if t42001 ≥ 0 then (some false) else (prop_Named.l0 k x0 x13 (wrap64 (x14 + 1)))))
end
def prop_Named.f (k : Nat) (a0 : ByteArray) : Option (Bool) := if a0.toList = ([] : List UInt8) then (prop_Named.j0 k a0 true) else (prop_Named.j0 k a0 (decide ((a0.size : Int) > 31)))
set_option maxHeartbeats 8000000 in
set_option maxRecDepth 100000 in
theorem prop_Named.calls (k : Nat) (a0 : ByteArray) (r : Bool) (w : World) (h : prop_Named.f k a0 = some r) :
  Calls Tryd.prog 41 #[.string a0] w fun e w' => e = .returned (.bool r) ∧ Below w.heap.size w w' := by
 have HB := Aside0.mk (Below.refl w.heap.size w)
 have H : (if a0.toList = ([] : List UInt8) then (prop_Named.j0 k a0 true) else (prop_Named.j0 k a0 (decide ((a0.size : Int) > 31)))) = some r := h
 clear h
 have HC2 := Aside0.mk H
 clear H
 go_enter Tryd.func41, Tryd.ntmps41
 go_upto_region 1 with (fail)
 go_cut [11] (fun v11 wc => ∃ (kq : Nat) (x11_1 : Bool), v11 = .bool x11_1 ∧ Aside0 (prop_Named.j0 kq a0 x11_1 = some r) ∧ Aside0 (kq ≤ k) ∧ Aside0 (Below w.heap.size w wc))
 case first =>
  have H := HC2.out
  clear HC2
  by_cases c3 : a0.toList = ([] : List UInt8)
  ·rw [if_pos c3] at H
   have c3b0 : (a0.toList == ([] : List UInt8)) = true := beq_iff_eq.mpr c3
   have c3b1 : (a0.toList != ([] : List UInt8)) = false := bne_eq_false_iff_eq.mpr c3
   clear c3
   (first | rw [c3b0] | (simp only [i64_w, i32_w]; rw [c3b0]) | skip)
   have H' := Aside0.mk H
   clear H
   go_wp2
   go_meet
   case rel => exact ⟨_, (true), (by first | rfl | (simp; done) | (simp [*]; done)), H', ⟨by first | omega | exact Nat.le_refl _⟩, ⟨by repeat (first | (with_reducible first | exact HB.out | apply below_alloc | apply pw_below_drewN | apply below_drew1) | exact HB.out)⟩⟩
  ·rw [if_neg c3] at H
   have c3b0 : (a0.toList == ([] : List UInt8)) = false := beq_eq_false_iff_ne.mpr c3
   have c3b1 : (a0.toList != ([] : List UInt8)) = true := bne_iff_ne.mpr c3
   (first | rw [c3b0] | (simp only [i64_w, i32_w]; rw [c3b0]) | skip)
   have H' := Aside0.mk H
   clear H
   go_wp2
   go_meet
   case rel => exact ⟨_, (decide ((a0.size : Int) > 31)), (by first | rfl | (simp; done) | (simp [*]; done)), H', ⟨by first | omega | exact Nat.le_refl _⟩, ⟨by repeat (first | (with_reducible first | exact HB.out | apply below_alloc | apply pw_below_drewN | apply below_drew1) | exact HB.out)⟩⟩
 case rest =>
  clear HC2
  try clear p2
  try clear c3
  try clear c3b0
  try clear c3b1
  obtain ⟨kq, x11_1, rfl, HA, HJ1, HB⟩ := hcut
  cases kq with
  | zero => exact absurd HA.out (by simp [prop_Named.j0])
  | succ kj1 =>
   have H := HA.out
   clear HA
   simp only [prop_Named.j0] at H
   by_cases c4 : x11_1 = true
   ·subst c4
    have H1 : (some false) = some r := by rw [if_pos rfl] at H; exact H
    clear H
    have H := H1
    clear H1
    obtain rfl := Option.some.inj H
    go_wp2
    go_ret
    exact ⟨by first | rfl | (simp [errW_none, errW_some] <;> rfl) | (simp [*, errW_none, errW_some] <;> rfl), by repeat (first | (with_reducible first | exact HB.out | apply below_alloc | apply pw_below_drewN | apply below_drew1) | exact HB.out)⟩
   ·replace c4 := Bool.eq_false_iff.mpr c4
    subst c4
    have H1 : (prop_Named.l0 kj1 a0 (a0.size : Int) 0) = some r := by rw [if_neg (show ¬ (false = true) by decide)] at H; exact H
    clear H
    have H := H1
    clear H1
    have H' := Aside0.mk H
    clear H
    go_wp2
    go_loopg [14] kj1 (fun kq v14 w' => ∃ (x14_2 : Int), v14 = .int .i64 x14_2 ∧ Aside0 (prop_Named.l0 kq a0 (a0.size : Int) x14_2 = some r) ∧ Aside0 (kq ≤ kj1) ∧ Aside0 (Below w.heap.size w w'))
    case atStart => exact ⟨(0), (by first | rfl | (simp; done) | (simp [*]; done)), H', ⟨Nat.le_refl _⟩, ⟨by repeat (first | (with_reducible first | exact HB.out | apply below_alloc | apply pw_below_drewN | apply below_drew1) | exact HB.out)⟩⟩
    case round =>
     clear H'
     try clear p2
     try clear c3
     try clear c3b0
     try clear c3b1
     try clear c4
     try clear p2
     obtain ⟨x14_2, rfl, HA, HK2, HB⟩ := hrel
     cases gk with
     | zero => exact absurd HA.out (by simp [prop_Named.l0])
     | succ k2 =>
      have H := HA.out
      clear HA
      simp only [prop_Named.l0] at H
      by_cases c5 : x14_2 < (a0.size : Int)
      ·rw [if_pos c5] at H
       have c5b0 : decide (x14_2 < (a0.size : Int)) = true := decide_eq_true c5
       clear c5
       by_cases c6 : 0 ≤ x14_2
       ·rw [if_pos c6] at H
        have c6b0 : decide (0 ≤ x14_2) = true := decide_eq_true c6
        clear c6
        by_cases c7 : x14_2 < (a0.size : Int)
        ·rw [if_pos c7] at H
         have c7b0 : decide (x14_2 < (a0.size : Int)) = true := decide_eq_true c7
         clear c7
         have HC9 := Aside0.mk H
         clear H
         have p8 : 0 ≤ (x14_2 : Int) := of_decide_eq_true (by first | (with_reducible assumption) | assumption)
         have q8 : x14_2 < (a0.size : Int) := of_decide_eq_true (by first | (with_reducible assumption) | assumption)
         have hx8 := bt_at a0 x14_2
         replace p8 := eq_true p8
         replace q8 := eq_true q8
         go_upto_region 7 with (fail)
         go_cut [20] (fun v20 wc => ∃ (kq : Nat) (x20_8 : Bool), v20 = .bool x20_8 ∧ Aside0 (prop_Named.j2 kq a0 (bt a0 x14_2) (a0.size : Int) x14_2 x20_8 = some r) ∧ Aside0 (kq ≤ k2) ∧ Aside0 (Below w.heap.size w wc))
         case first =>
          have H := HC9.out
          clear HC9
          by_cases c10 : (bt a0 x14_2) ≤ 32
          ·rw [if_pos c10] at H
           have c10b0 : decide ((bt a0 x14_2) ≤ 32) = true := decide_eq_true c10
           clear c10
           (first | rw [c10b0] | (simp only [i64_w, i32_w]; rw [c10b0]) | skip)
           have H' := Aside0.mk H
           clear H
           go_wp2
           go_meet
           case rel => exact ⟨_, (true), (by first | rfl | (simp; done) | (simp [*]; done)), H', ⟨by have := HJ1.out; have := HK2.out; first | omega | exact Nat.le_refl _⟩, ⟨by repeat (first | (with_reducible first | exact HB.out | apply below_alloc | apply pw_below_drewN | apply below_drew1) | exact HB.out)⟩⟩
          ·rw [if_neg c10] at H
           have c10b0 : decide ((bt a0 x14_2) ≤ 32) = false := decide_eq_false c10
           clear c10
           (first | rw [c10b0] | (simp only [i64_w, i32_w]; rw [c10b0]) | skip)
           by_cases c11 : (bt a0 x14_2) > 126
           ·rw [if_pos c11] at H
            have c11b0 : decide (126 < (bt a0 x14_2)) = true := decide_eq_true c11
            clear c11
            have H' := Aside0.mk H
            clear H
            go_wp2
            go_meet
            case rel => exact ⟨_, (true), (by first | rfl | (simp; done) | (simp [*]; done)), H', ⟨by have := HJ1.out; have := HK2.out; first | omega | exact Nat.le_refl _⟩, ⟨by repeat (first | (with_reducible first | exact HB.out | apply below_alloc | apply pw_below_drewN | apply below_drew1) | exact HB.out)⟩⟩
           ·rw [if_neg c11] at H
            have c11b0 : decide (126 < (bt a0 x14_2)) = false := decide_eq_false c11
            clear c11
            by_cases c12 : (bt a0 x14_2) ≥ 65
            ·rw [if_pos c12] at H
             have c12b0 : decide (65 ≤ (bt a0 x14_2)) = true := decide_eq_true c12
             clear c12
             have H' := Aside0.mk H
             clear H
             go_wp2
             go_meet
             case rel => exact ⟨_, (decide ((bt a0 x14_2) ≤ 90)), (by first | rfl | (simp; done) | (simp [*]; done)), H', ⟨by have := HJ1.out; have := HK2.out; first | omega | exact Nat.le_refl _⟩, ⟨by repeat (first | (with_reducible first | exact HB.out | apply below_alloc | apply pw_below_drewN | apply below_drew1) | exact HB.out)⟩⟩
            ·rw [if_neg c12] at H
             have c12b0 : decide (65 ≤ (bt a0 x14_2)) = false := decide_eq_false c12
             clear c12
             have H' := Aside0.mk H
             clear H
             go_wp2
             go_meet
             case rel => exact ⟨_, (false), (by first | rfl | (simp; done) | (simp [*]; done)), H', ⟨by have := HJ1.out; have := HK2.out; first | omega | exact Nat.le_refl _⟩, ⟨by repeat (first | (with_reducible first | exact HB.out | apply below_alloc | apply pw_below_drewN | apply below_drew1) | exact HB.out)⟩⟩
         case rest =>
          clear HC9
          try clear c1
          try clear p2
          try clear c3
          try clear c3b0
          try clear c3b1
          try clear c4
          try clear c5
          try clear c5b0
          try clear c6
          try clear c6b0
          try clear c7
          try clear c7b0
          try clear p8
          try clear q8
          try clear hx8
          try clear c10
          try clear c10b0
          try clear c11
          try clear c11b0
          try clear c12
          try clear c12b0
          try clear p2
          try clear p8
          try clear q8
          obtain ⟨kq, x20_8, rfl, HA, HJ8, HB⟩ := hcut
          cases kq with
          | zero => exact absurd HA.out (by simp [prop_Named.j2])
          | succ kj8 =>
           have H := HA.out
           clear HA
           simp only [prop_Named.j2] at H
           by_cases c13 : x20_8 = true
           ·subst c13
            have H1 : (some false) = some r := by rw [if_pos rfl] at H; exact H
            clear H
            have H := H1
            clear H1
            obtain rfl := Option.some.inj H
            go_wp2
            go_ret
            exact ⟨by first | rfl | (simp [errW_none, errW_some] <;> rfl) | (simp [*, errW_none, errW_some] <;> rfl), by repeat (first | (with_reducible first | exact HB.out | apply below_alloc | apply pw_below_drewN | apply below_drew1) | exact HB.out)⟩
           ·replace c13 := Bool.eq_false_iff.mpr c13
            subst c13
            have H1 : ((strings_IndexByte.f (⟨#[47, 92, 58, 91, 93, 64]⟩ : ByteArray) (bt a0 x14_2)).bind fun t42001 => (if t42001 ≥ 0 then (some false) else (prop_Named.l0 kj8 a0 (a0.size : Int) (wrap64 (x14_2 + 1))))) = some r := by rw [if_neg (show ¬ (false = true) by decide)] at H; exact H
            clear H
            have H := H1
            clear H1
            replace H := Option.bind_eq_some_iff.mp H
            obtain ⟨t42001, A140, H⟩ := H
            replace H : (if t42001 ≥ 0 then (some false) else (prop_Named.l0 kj8 a0 (a0.size : Int) (wrap64 (x14_2 + 1)))) = some r := H
            have A14 := Aside0.mk A140
            clear A140
            by_cases c15 : t42001 ≥ 0
            ·rw [if_pos c15] at H
             have c15b0 : decide (0 ≤ t42001) = true := decide_eq_true c15
             clear c15
             obtain rfl := Option.some.inj H
             go_wp2_with (first | ((with_reducible refine gate_callee (f := 68) rfl ?_); refine goesL_ (some 37) rfl rfl Tryd.func68 (by kernel_rfl) rfl #[.string (⟨#[47, 92, 58, 91, 93, 64]⟩ : ByteArray), .int .u8 (bt a0 x14_2)] rfl (by (try simp only [List.map_toArray, List.map_cons, List.map_nil]); first | done | rfl | (simp only [List.length_drop, List.length_take]; rfl)) ?_; (with_reducible refine (strings_IndexByte.calls (⟨#[47, 92, 58, 91, 93, 64]⟩ : ByteArray) (bt a0 x14_2) t42001 _ A14.out).mono ?_); rintro e w16 ⟨rfl, hb⟩; refine ⟨_, rfl, ?_⟩; have n0_ := Aside0.mk (below_step (by repeat (first | (with_reducible first | exact HB.out | apply below_alloc | apply pw_below_drewN | apply below_drew1) | exact HB.out)) hb); clear HB; have HB := n0_; clear n0_; (try clear hb); (try clear hb2); (try clear hk); (try clear hi)))
             go_ret
             exact ⟨by first | rfl | (simp [errW_none, errW_some] <;> rfl) | (simp [*, errW_none, errW_some] <;> rfl), by repeat (first | (with_reducible first | exact HB.out | apply below_alloc | apply pw_below_drewN | apply below_drew1) | exact HB.out)⟩
            ·rw [if_neg c15] at H
             have c15b0 : decide (0 ≤ t42001) = false := decide_eq_false c15
             clear c15
             have H' := Aside0.mk H
             clear H
             go_wp2_with (first | ((with_reducible refine gate_callee (f := 68) rfl ?_); refine goesL_ (some 37) rfl rfl Tryd.func68 (by kernel_rfl) rfl #[.string (⟨#[47, 92, 58, 91, 93, 64]⟩ : ByteArray), .int .u8 (bt a0 x14_2)] rfl (by (try simp only [List.map_toArray, List.map_cons, List.map_nil]); first | done | rfl | (simp only [List.length_drop, List.length_take]; rfl)) ?_; (with_reducible refine (strings_IndexByte.calls (⟨#[47, 92, 58, 91, 93, 64]⟩ : ByteArray) (bt a0 x14_2) t42001 _ A14.out).mono ?_); rintro e w17 ⟨rfl, hb⟩; refine ⟨_, rfl, ?_⟩; have n0_ := Aside0.mk (below_step (by repeat (first | (with_reducible first | exact HB.out | apply below_alloc | apply pw_below_drewN | apply below_drew1) | exact HB.out)) hb); clear HB; have HB := n0_; clear n0_; (try clear hb); (try clear hb2); (try clear hk); (try clear hi)))
             go_roundg kj8
             case measure => have := HJ1.out; have := HK2.out; have := HJ8.out; omega
             case rel => exact ⟨(wrap64 (x14_2 + 1)), (by first | rfl | (simp; done) | (simp [*]; done)), H', ⟨by have := HJ1.out; have := HK2.out; have := HJ8.out; omega⟩, ⟨by repeat (first | (with_reducible first | exact HB.out | apply below_alloc | apply pw_below_drewN | apply below_drew1) | exact HB.out)⟩⟩
        ·rw [if_neg c7] at H
         exact absurd H (by simp)
       ·rw [if_neg c6] at H
        exact absurd H (by simp)
      ·rw [if_neg c5] at H
       have c5b0 : decide (x14_2 < (a0.size : Int)) = false := decide_eq_false c5
       clear c5
       obtain rfl := Option.some.inj H
       go_wp2
       go_ret
       exact ⟨by first | rfl | (simp [errW_none, errW_some] <;> rfl) | (simp [*, errW_none, errW_some] <;> rfl), by repeat (first | (with_reducible first | exact HB.out | apply below_alloc | apply pw_below_drewN | apply below_drew1) | exact HB.out)⟩

end Go.Proofs.YtnalcjgefbelnaaDoor.Q
end
section
namespace Go.Proofs.YtnalcjgefbelnaaDoor.Q
open Go.RowKit Go.Proofs.YtnalcjgefbelnaaDoorW.PrintWords Go.Proofs.YtnalcjgefbelnaaDoorW.PrintLast Go.Proofs.YtnalcjgefbelnaaDoorW.PrintMore
set_option linter.unusedVariables false
set_option linter.unusedSimpArgs false

attribute [local go_sem] max2_int min2_int max_two min_two max_three min_three max_four min_four
/-! ### tinderref05_Named: function 44 -/
mutual
def tinderref05_Named.j0 : Nat → ByteArray → Bool → Option (Bool)
 | 0, _, _ => none
 | k + 1, x0, x13 => if x13 = true then (some false) else (tinderref05_Named.l0 k x0 0)
def tinderref05_Named.l0 : Nat → ByteArray → Int → Option (Bool)
 | 0, _, _ => none
 | k + 1, x0, x3 => if x3 < (x0.size : Int) then (if 0 ≤ x3 then (if (bt x0 x3) < 33 then (tinderref05_Named.j2 k x0 x3 (bt x0 x3) true) else (if (bt x0 x3) > 126 then (tinderref05_Named.j2 k x0 x3 (bt x0 x3) true) else (if (bt x0 x3) ≥ 65 then (tinderref05_Named.j2 k x0 x3 (bt x0 x3) (decide ((bt x0 x3) ≤ 90))) else (tinderref05_Named.j2 k x0 x3 (bt x0 x3) false)))) else (none)) else (some true)
def tinderref05_Named.j2 : Nat → ByteArray → Int → Int → Bool → Option (Bool)
 | 0, _, _, _, _ => none
 | k + 1, x0, x3, x4, x36 => if x36 = true then (some false) else (tinderref05_Named.l1 k x0 x3 x4 0)
def tinderref05_Named.l1 : Nat → ByteArray → Int → Int → Int → Option (Bool)
 | 0, _, _, _, _ => none
 | k + 1, x0, x3, x4, x5 => if x5 < 6 then (if 0 ≤ x5 then (if x4 = (bt (⟨#[47, 92, 58, 91, 93, 64]⟩ : ByteArray) x5) then (some false) else (tinderref05_Named.l1 k x0 x3 x4 (wrap64 (x5 + 1)))) else (none)) else (tinderref05_Named.l0 k x0 (wrap64 (x3 + 1)))
end
def tinderref05_Named.f (k : Nat) (a0 : ByteArray) : Option (Bool) := if (a0.size : Int) < 1 then (tinderref05_Named.j0 k a0 true) else (tinderref05_Named.j0 k a0 (decide ((a0.size : Int) > 31)))
set_option maxHeartbeats 8000000 in
set_option maxRecDepth 100000 in
theorem tinderref05_Named.calls (k : Nat) (a0 : ByteArray) (r : Bool) (w : World) (h : tinderref05_Named.f k a0 = some r) :
  Calls Tryd.prog 44 #[.string a0] w fun e w' => e = .returned (.bool r) ∧ Drawn0 w w' := by
 have H : (if (a0.size : Int) < 1 then (tinderref05_Named.j0 k a0 true) else (tinderref05_Named.j0 k a0 (decide ((a0.size : Int) > 31)))) = some r := h
 clear h
 have HC2 := Aside0.mk H
 clear H
 go_enter Tryd.func44, Tryd.ntmps44
 go_upto_region 1 with (fail)
 go_cut [13] (fun v13 wc => ∃ (kq : Nat) (x13_1 : Bool), v13 = .bool x13_1 ∧ Aside0 (tinderref05_Named.j0 kq a0 x13_1 = some r) ∧ Aside0 (kq ≤ k) ∧ Drawn0 w wc)
 case first =>
  have H := HC2.out
  clear HC2
  by_cases c3 : (a0.size : Int) < 1
  ·rw [if_pos c3] at H
   have c3b0 : decide ((a0.size : Int) < 1) = true := decide_eq_true c3
   have c3b1 : decide (a0.size < 1) = true := decide_eq_true (by omega)
   clear c3
   (first | rw [c3b0] | (simp only [i64_w, i32_w]; rw [c3b0]) | skip)
   have H' := Aside0.mk H
   clear H
   go_wp2
   go_meet
   case rel => exact ⟨_, (true), (by first | rfl | (simp; done) | (simp [*]; done)), H', ⟨by first | omega | exact Nat.le_refl _⟩, by repeat (first | exact Drawn0.refl _ | apply Drawn0.step)⟩
  ·rw [if_neg c3] at H
   have c3b0 : decide ((a0.size : Int) < 1) = false := decide_eq_false c3
   have c3b1 : decide (a0.size < 1) = false := decide_eq_false (by omega)
   clear c3
   (first | rw [c3b0] | (simp only [i64_w, i32_w]; rw [c3b0]) | skip)
   have H' := Aside0.mk H
   clear H
   go_wp2
   go_meet
   case rel => exact ⟨_, (decide ((a0.size : Int) > 31)), (by first | rfl | (simp; done) | (simp [*]; done)), H', ⟨by first | omega | exact Nat.le_refl _⟩, by repeat (first | exact Drawn0.refl _ | apply Drawn0.step)⟩
 case rest =>
  clear HC2
  try clear p2
  try clear c3
  try clear c3b0
  try clear c3b1
  obtain ⟨kq, x13_1, rfl, HA, HJ1, ⟨mc1, rfl⟩⟩ := hcut
  cases kq with
  | zero => exact absurd HA.out (by simp [tinderref05_Named.j0])
  | succ kj1 =>
   have H := HA.out
   clear HA
   simp only [tinderref05_Named.j0] at H
   by_cases c4 : x13_1 = true
   ·subst c4
    have H1 : (some false) = some r := by rw [if_pos rfl] at H; exact H
    clear H
    have H := H1
    clear H1
    obtain rfl := Option.some.inj H
    go_wp2
    go_ret
    exact ⟨by first | rfl | (simp; done) | (simp [*]; done), by repeat (first | exact Drawn0.refl _ | apply Drawn0.step)⟩
   ·replace c4 := Bool.eq_false_iff.mpr c4
    subst c4
    have H1 : (tinderref05_Named.l0 kj1 a0 0) = some r := by rw [if_neg (show ¬ (false = true) by decide)] at H; exact H
    clear H
    have H := H1
    clear H1
    have H' := Aside0.mk H
    clear H
    go_wp2
    go_loopg [3] kj1 (fun kq v3 w' => ∃ (x3_2 : Int), v3 = .int .i64 x3_2 ∧ Aside0 (tinderref05_Named.l0 kq a0 x3_2 = some r) ∧ Aside0 (kq ≤ kj1) ∧ Drawn0 w w')
    case atStart => exact ⟨(0), (by first | rfl | (simp; done) | (simp [*]; done)), H', ⟨Nat.le_refl _⟩, by repeat (first | exact Drawn0.refl _ | apply Drawn0.step)⟩
    case round =>
     clear H'
     try clear c1
     try clear p2
     try clear c3
     try clear c3b0
     try clear c3b1
     try clear c4
     try clear p2
     obtain ⟨x3_2, rfl, HA, HK2, ⟨m2, rfl⟩⟩ := hrel
     cases gk with
     | zero => exact absurd HA.out (by simp [tinderref05_Named.l0])
     | succ k2 =>
      have H := HA.out
      clear HA
      simp only [tinderref05_Named.l0] at H
      by_cases c5 : x3_2 < (a0.size : Int)
      ·rw [if_pos c5] at H
       have c5b0 : decide (x3_2 < (a0.size : Int)) = true := decide_eq_true c5
       clear c5
       by_cases c6 : 0 ≤ x3_2
       ·rw [if_pos c6] at H
        have c6b0 : decide (0 ≤ x3_2) = true := decide_eq_true c6
        clear c6
        have HC8 := Aside0.mk H
        clear H
        have p7 : 0 ≤ (x3_2 : Int) := of_decide_eq_true (by first | (with_reducible assumption) | assumption)
        have q7 : x3_2 < (a0.size : Int) := of_decide_eq_true (by first | (with_reducible assumption) | assumption)
        have hx7 := bt_at a0 x3_2
        replace p7 := eq_true p7
        replace q7 := eq_true q7
        go_upto_region 7 with (fail)
        go_cut [36] (fun v36 wc => ∃ (kq : Nat) (x36_7 : Bool), v36 = .bool x36_7 ∧ Aside0 (tinderref05_Named.j2 kq a0 x3_2 (bt a0 x3_2) x36_7 = some r) ∧ Aside0 (kq ≤ k2) ∧ Drawn0 w wc)
        case first =>
         have H := HC8.out
         clear HC8
         by_cases c9 : (bt a0 x3_2) < 33
         ·rw [if_pos c9] at H
          have c9b0 : decide ((bt a0 x3_2) < 33) = true := decide_eq_true c9
          clear c9
          (first | rw [c9b0] | (simp only [i64_w, i32_w]; rw [c9b0]) | skip)
          have H' := Aside0.mk H
          clear H
          go_wp2
          go_meet
          case rel => exact ⟨_, (true), (by first | rfl | (simp; done) | (simp [*]; done)), H', ⟨by have := HJ1.out; have := HK2.out; first | omega | exact Nat.le_refl _⟩, by repeat (first | exact Drawn0.refl _ | apply Drawn0.step)⟩
         ·rw [if_neg c9] at H
          have c9b0 : decide ((bt a0 x3_2) < 33) = false := decide_eq_false c9
          clear c9
          (first | rw [c9b0] | (simp only [i64_w, i32_w]; rw [c9b0]) | skip)
          by_cases c10 : (bt a0 x3_2) > 126
          ·rw [if_pos c10] at H
           have c10b0 : decide (126 < (bt a0 x3_2)) = true := decide_eq_true c10
           clear c10
           have H' := Aside0.mk H
           clear H
           go_wp2
           go_meet
           case rel => exact ⟨_, (true), (by first | rfl | (simp; done) | (simp [*]; done)), H', ⟨by have := HJ1.out; have := HK2.out; first | omega | exact Nat.le_refl _⟩, by repeat (first | exact Drawn0.refl _ | apply Drawn0.step)⟩
          ·rw [if_neg c10] at H
           have c10b0 : decide (126 < (bt a0 x3_2)) = false := decide_eq_false c10
           clear c10
           by_cases c11 : (bt a0 x3_2) ≥ 65
           ·rw [if_pos c11] at H
            have c11b0 : decide (65 ≤ (bt a0 x3_2)) = true := decide_eq_true c11
            clear c11
            have H' := Aside0.mk H
            clear H
            go_wp2
            go_meet
            case rel => exact ⟨_, (decide ((bt a0 x3_2) ≤ 90)), (by first | rfl | (simp; done) | (simp [*]; done)), H', ⟨by have := HJ1.out; have := HK2.out; first | omega | exact Nat.le_refl _⟩, by repeat (first | exact Drawn0.refl _ | apply Drawn0.step)⟩
           ·rw [if_neg c11] at H
            have c11b0 : decide (65 ≤ (bt a0 x3_2)) = false := decide_eq_false c11
            clear c11
            have H' := Aside0.mk H
            clear H
            go_wp2
            go_meet
            case rel => exact ⟨_, (false), (by first | rfl | (simp; done) | (simp [*]; done)), H', ⟨by have := HJ1.out; have := HK2.out; first | omega | exact Nat.le_refl _⟩, by repeat (first | exact Drawn0.refl _ | apply Drawn0.step)⟩
        case rest =>
         clear HC8
         try clear c1
         try clear p2
         try clear c3
         try clear c3b0
         try clear c3b1
         try clear c4
         try clear c5
         try clear c5b0
         try clear c6
         try clear c6b0
         try clear p7
         try clear q7
         try clear hx7
         try clear c9
         try clear c9b0
         try clear c10
         try clear c10b0
         try clear c11
         try clear c11b0
         try clear p2
         try clear p7
         try clear q7
         obtain ⟨kq, x36_7, rfl, HA, HJ7, ⟨mc7, rfl⟩⟩ := hcut
         cases kq with
         | zero => exact absurd HA.out (by simp [tinderref05_Named.j2])
         | succ kj7 =>
          have H := HA.out
          clear HA
          simp only [tinderref05_Named.j2] at H
          by_cases c12 : x36_7 = true
          ·subst c12
           have H1 : (some false) = some r := by rw [if_pos rfl] at H; exact H
           clear H
           have H := H1
           clear H1
           obtain rfl := Option.some.inj H
           go_wp2
           go_ret
           exact ⟨by first | rfl | (simp; done) | (simp [*]; done), by repeat (first | exact Drawn0.refl _ | apply Drawn0.step)⟩
          ·replace c12 := Bool.eq_false_iff.mpr c12
           subst c12
           have H1 : (tinderref05_Named.l1 kj7 a0 x3_2 (bt a0 x3_2) 0) = some r := by rw [if_neg (show ¬ (false = true) by decide)] at H; exact H
           clear H
           have H := H1
           clear H1
           have H' := Aside0.mk H
           clear H
           go_wp2
           go_loopg [5] kj7 (fun kq v5 w' => ∃ (x5_4 : Int), v5 = .int .i64 x5_4 ∧ Aside0 (tinderref05_Named.l1 kq a0 x3_2 (bt a0 x3_2) x5_4 = some r) ∧ Aside0 (kq ≤ kj7) ∧ Drawn0 w w')
           case atStart => exact ⟨(0), (by first | rfl | (simp; done) | (simp [*]; done)), H', ⟨Nat.le_refl _⟩, by repeat (first | exact Drawn0.refl _ | apply Drawn0.step)⟩
           case round =>
            clear H'
            try clear c1
            try clear p2
            try clear c3
            try clear c3b0
            try clear c3b1
            try clear c4
            try clear c5
            try clear c5b0
            try clear c6
            try clear c6b0
            try clear c7
            try clear p7
            try clear q7
            try clear hx7
            try clear c9
            try clear c9b0
            try clear c10
            try clear c10b0
            try clear c11
            try clear c11b0
            try clear c12
            try clear p2
            try clear p7
            try clear q7
            obtain ⟨x5_4, rfl, HA, HK4, ⟨m4, rfl⟩⟩ := hrel
            cases gk with
            | zero => exact absurd HA.out (by simp [tinderref05_Named.l1])
            | succ k4 =>
             have H := HA.out
             clear HA
             simp only [tinderref05_Named.l1] at H
             by_cases c13 : x5_4 < 6
             ·rw [if_pos c13] at H
              have c13b0 : decide (x5_4 < 6) = true := decide_eq_true c13
              clear c13
              by_cases c14 : 0 ≤ x5_4
              ·rw [if_pos c14] at H
               have c14b0 : decide (0 ≤ x5_4) = true := decide_eq_true c14
               clear c14
               by_cases c16 : (bt a0 x3_2) = (bt (⟨#[47, 92, 58, 91, 93, 64]⟩ : ByteArray) x5_4)
               ·rw [if_pos c16] at H
                have c16b0 : ((bt a0 x3_2) == (bt (⟨#[47, 92, 58, 91, 93, 64]⟩ : ByteArray) x5_4)) = true := beq_iff_eq.mpr c16
                have c16b1 : ((bt a0 x3_2) != (bt (⟨#[47, 92, 58, 91, 93, 64]⟩ : ByteArray) x5_4)) = false := bne_eq_false_iff_eq.mpr c16
                clear c16
                obtain rfl := Option.some.inj H
                have p15 : 0 ≤ (x5_4 : Int) := of_decide_eq_true (by first | (with_reducible assumption) | assumption)
                have q15 : x5_4 < (6 : Int) := of_decide_eq_true (by first | (with_reducible assumption) | assumption)
                have hx15 := bt_at (⟨#[47, 92, 58, 91, 93, 64]⟩ : ByteArray) x5_4
                replace p15 := eq_true p15
                replace q15 := eq_true q15
                go_wp2
                go_ret
                exact ⟨by first | rfl | (simp; done) | (simp [*]; done), by repeat (first | exact Drawn0.refl _ | apply Drawn0.step)⟩
               ·rw [if_neg c16] at H
                have c16b0 : ((bt a0 x3_2) == (bt (⟨#[47, 92, 58, 91, 93, 64]⟩ : ByteArray) x5_4)) = false := beq_eq_false_iff_ne.mpr c16
                have c16b1 : ((bt a0 x3_2) != (bt (⟨#[47, 92, 58, 91, 93, 64]⟩ : ByteArray) x5_4)) = true := bne_iff_ne.mpr c16
                have H' := Aside0.mk H
                clear H
                have p15 : 0 ≤ (x5_4 : Int) := of_decide_eq_true (by first | (with_reducible assumption) | assumption)
                have q15 : x5_4 < (6 : Int) := of_decide_eq_true (by first | (with_reducible assumption) | assumption)
                have hx15 := bt_at (⟨#[47, 92, 58, 91, 93, 64]⟩ : ByteArray) x5_4
                replace p15 := eq_true p15
                replace q15 := eq_true q15
                go_wp2
                go_roundg k4
                case measure => have := HJ1.out; have := HK2.out; have := HJ7.out; have := HK4.out; omega
                case rel => exact ⟨(wrap64 (x5_4 + 1)), (by first | rfl | (simp; done) | (simp [*]; done)), H', ⟨by have := HJ1.out; have := HK2.out; have := HJ7.out; have := HK4.out; omega⟩, by repeat (first | exact Drawn0.refl _ | apply Drawn0.step)⟩
              ·rw [if_neg c14] at H
               exact absurd H (by simp)
             ·rw [if_neg c13] at H
              have c13b0 : decide (x5_4 < 6) = false := decide_eq_false c13
              clear c13
              have H' := Aside0.mk H
              clear H
              go_wp2
              go_roundg k4
              case measure => have := HJ1.out; have := HK2.out; have := HJ7.out; have := HK4.out; omega
              case rel => exact ⟨(wrap64 (x3_2 + 1)), (by first | rfl | (simp; done) | (simp [*]; done)), H', ⟨by have := HJ1.out; have := HK2.out; have := HJ7.out; have := HK4.out; omega⟩, by repeat (first | exact Drawn0.refl _ | apply Drawn0.step)⟩
       ·rw [if_neg c6] at H
        exact absurd H (by simp)
      ·rw [if_neg c5] at H
       have c5b0 : decide (x3_2 < (a0.size : Int)) = false := decide_eq_false c5
       clear c5
       obtain rfl := Option.some.inj H
       go_wp2
       go_ret
       exact ⟨by first | rfl | (simp; done) | (simp [*]; done), by repeat (first | exact Drawn0.refl _ | apply Drawn0.step)⟩

end Go.Proofs.YtnalcjgefbelnaaDoor.Q
end
section
set_option linter.unusedSimpArgs false
set_option linter.unusedVariables false
namespace Go.Proofs.YtnalcjgefbelnaaDoor.Q
open Go.RowKit Go.Proofs.YtnalcjgefbelnaaDoorW.PrintWords Go.Proofs.YtnalcjgefbelnaaDoorW.PrintLast
theorem bytes_at (s : ByteArray) (i : Int) (h0 : 0 ≤ i) (h1 : i < s.size) : (bytesOf s).drop i.toNat = bt s i :: (bytesOf s).drop (i + 1).toNat := by
 have hl : i.toNat < (bytesOf s).length := by rw [bytesOf_length]; omega
 rw [List.drop_eq_getElem_cons hl, show (i + 1).toNat = i.toNat + 1 by omega, ← rd_bytesOf]
 simp [rd, List.getD_eq_getElem?_getD, List.getElem?_eq_getElem hl]
theorem empty_iff (s : ByteArray) : s.toList = ([] : List UInt8) ↔ s.size = 0 := by
 rw [ByteArray.toList_eq, ← List.length_eq_zero_iff, data_length]
def badB (c : Int) : Bool := decide (c = 47) || decide (c = 92) || decide (c = 58) || decide (c = 91) || decide (c = 93) || decide (c = 64)
def okC (c : Int) : Bool := decide (33 ≤ c) && decide (c ≤ 126) && !(decide (65 ≤ c) && decide (c ≤ 90)) && !badB c
def namedF (s : ByteArray) : Bool := decide (1 ≤ s.size) && decide (s.size ≤ 31) && (bytesOf s).all okC
theorem bad_all : ((List.range 256).all fun (c : Nat) => decide (0 ≤ Lib.indexByte (⟨#[47, 92, 58, 91, 93, 64]⟩ : ByteArray).data.toList ((c : Int).toNat.toUInt8)) == badB (c : Int)) = true := by kernel_rfl
theorem bad_idx (c : Int) (h : 0 ≤ c ∧ c ≤ 255) : decide (0 ≤ Lib.indexByte (⟨#[47, 92, 58, 91, 93, 64]⟩ : ByteArray).data.toList c.toNat.toUInt8) = badB c := by
 have h1 := List.all_eq_true.1 bad_all c.toNat (List.mem_range.2 (by omega))
 rw [beq_iff_eq, show ((c.toNat : Nat) : Int) = c by omega] at h1
 exact h1
theorem named_go (s : ByteArray) (hs : s.size ≤ 31) : ∀ (d k : Nat) (i : Int), 0 ≤ i → i + d = s.size → 2 * d + 2 ≤ k → prop_Named.l0 k s s.size i = some (((bytesOf s).drop i.toNat).all okC)
 | 0, k, i, h0, h1, hk => by
  obtain ⟨k, rfl⟩ : ∃ m, k = m + 1 := ⟨k - 1, by omega⟩
  rw [prop_Named.l0, if_neg (by omega), List.drop_eq_nil_of_le (by rw [bytesOf_length]; omega)]
  rfl
 | d + 1, k, i, h0, h1, hk => by
  obtain ⟨k, rfl⟩ : ∃ m, k = m + 1 + 1 := ⟨k - 2, by omega⟩
  have hb := bt_range s i
  have ih := named_go s hs d k (i + 1) (by omega) (by omega) (by omega)
  have hw : wrap64 (i + 1) = i + 1 := by unfold wrap64; omega
  rw [prop_Named.l0, if_pos (by omega), if_pos h0, if_pos (by omega), bytes_at s i h0 (by omega), List.all_cons]
  have ht : prop_Named.j2 (k + 1) s (bt s i) s.size i true = some false := by rw [prop_Named.j2, if_pos rfl]
  have hf : prop_Named.j2 (k + 1) s (bt s i) s.size i false = some (!badB (bt s i) && ((bytesOf s).drop (i + 1).toNat).all okC) := by
   rw [prop_Named.j2, if_neg (by decide), strings_IndexByte.f, Option.bind_some, hw, ih, ← bad_idx (bt s i) hb]
   by_cases hx : 0 ≤ Lib.indexByte (⟨#[47, 92, 58, 91, 93, 64]⟩ : ByteArray).data.toList (bt s i).toNat.toUInt8
   ·rw [if_pos hx]; simp [hx]
   ·rw [if_neg hx]; simp [hx]
  rw [show okC (bt s i) = (decide (33 ≤ bt s i) && decide (bt s i ≤ 126) && !(decide (65 ≤ bt s i) && decide (bt s i ≤ 90)) && !badB (bt s i)) from rfl]
  by_cases h2 : bt s i ≤ 32
  ·rw [if_pos h2, ht]
   simp [show ¬ 33 ≤ bt s i by omega]
  ·rw [if_neg h2]
   by_cases h3 : bt s i > 126
   ·rw [if_pos h3, ht]
    simp [show ¬ bt s i ≤ 126 by omega]
   ·rw [if_neg h3]
    by_cases h4 : bt s i ≥ 65
    ·rw [if_pos h4]
     by_cases h5 : bt s i ≤ 90
     ·rw [decide_eq_true h5, ht]
      simp [h5, show 65 ≤ bt s i by omega]
     ·rw [decide_eq_false h5, hf]
      simp [h5, show 33 ≤ bt s i by omega, show bt s i ≤ 126 by omega]
    ·rw [if_neg h4, hf]
     simp [show ¬ 65 ≤ bt s i by omega, show 33 ≤ bt s i by omega, show bt s i ≤ 126 by omega]
theorem named_eq (k : Nat) (hk : 100 ≤ k) (s : ByteArray) : prop_Named.f k s = some (namedF s) := by
 obtain ⟨k, rfl⟩ : ∃ m, k = m + 1 := ⟨k - 1, by omega⟩
 unfold prop_Named.f namedF
 by_cases h0 : s.size = 0
 ·rw [if_pos ((empty_iff s).2 h0), prop_Named.j0, if_pos rfl]
  simp [h0]
 ·rw [if_neg (fun h => h0 ((empty_iff s).1 h)), prop_Named.j0]
  by_cases h1 : (s.size : Int) > 31
  ·rw [decide_eq_true h1, if_pos rfl]
   simp [show ¬ s.size ≤ 31 by omega]
  ·rw [decide_eq_false h1, if_neg (by decide), named_go s (by omega) s.size k 0 (Int.le_refl 0) (by omega) (by omega)]
   simp [show 1 ≤ s.size by omega, show s.size ≤ 31 by omega]
theorem bad_bt : (bt (⟨#[47, 92, 58, 91, 93, 64]⟩ : ByteArray) 0 = 47 ∧ bt (⟨#[47, 92, 58, 91, 93, 64]⟩ : ByteArray) 1 = 92 ∧ bt (⟨#[47, 92, 58, 91, 93, 64]⟩ : ByteArray) 2 = 58) ∧ (bt (⟨#[47, 92, 58, 91, 93, 64]⟩ : ByteArray) 3 = 91 ∧ bt (⟨#[47, 92, 58, 91, 93, 64]⟩ : ByteArray) 4 = 93 ∧ bt (⟨#[47, 92, 58, 91, 93, 64]⟩ : ByteArray) 5 = 64) := ⟨⟨by kernel_rfl, by kernel_rfl, by kernel_rfl⟩, by kernel_rfl, by kernel_rfl, by kernel_rfl⟩
theorem refbad_go (k : Nat) (s : ByteArray) (i c : Int) : tinderref05_Named.l1 (k + 7) s i c 0 = if badB c = true then some false else tinderref05_Named.l0 k s (wrap64 (i + 1)) := by
 obtain ⟨⟨b0, b1, b2⟩, b3, b4, b5⟩ := bad_bt
 have w1 : wrap64 ((0 : Int) + 1) = 1 := by unfold wrap64; omega
 have w2 : wrap64 ((1 : Int) + 1) = 2 := by unfold wrap64; omega
 have w3 : wrap64 ((2 : Int) + 1) = 3 := by unfold wrap64; omega
 have w4 : wrap64 ((3 : Int) + 1) = 4 := by unfold wrap64; omega
 have w5 : wrap64 ((4 : Int) + 1) = 5 := by unfold wrap64; omega
 have w6 : wrap64 ((5 : Int) + 1) = 6 := by unfold wrap64; omega
 unfold badB
 rw [tinderref05_Named.l1, if_pos (by decide), if_pos (by decide), b0]
 by_cases h0 : c = 47
 ·rw [if_pos h0]; simp [h0]
 ·rw [if_neg h0, w1, tinderref05_Named.l1, if_pos (by decide), if_pos (by decide), b1]
  by_cases h1 : c = 92
  ·rw [if_pos h1]; simp [h1]
  ·rw [if_neg h1, w2, tinderref05_Named.l1, if_pos (by decide), if_pos (by decide), b2]
   by_cases h2 : c = 58
   ·rw [if_pos h2]; simp [h2]
   ·rw [if_neg h2, w3, tinderref05_Named.l1, if_pos (by decide), if_pos (by decide), b3]
    by_cases h3 : c = 91
    ·rw [if_pos h3]; simp [h3]
    ·rw [if_neg h3, w4, tinderref05_Named.l1, if_pos (by decide), if_pos (by decide), b4]
     by_cases h4 : c = 93
     ·rw [if_pos h4]; simp [h4]
     ·rw [if_neg h4, w5, tinderref05_Named.l1, if_pos (by decide), if_pos (by decide), b5]
      by_cases h5 : c = 64
      ·rw [if_pos h5]; simp [h5]
      ·rw [if_neg h5, w6, tinderref05_Named.l1, if_neg (by decide)]
       simp [h0, h1, h2, h3, h4, h5]
theorem refnamed_go (s : ByteArray) (hs : s.size ≤ 31) : ∀ (d k : Nat) (i : Int), 0 ≤ i → i + d = s.size → 10 * d + 2 ≤ k → tinderref05_Named.l0 k s i = some (((bytesOf s).drop i.toNat).all okC)
 | 0, k, i, h0, h1, hk => by
  obtain ⟨k, rfl⟩ : ∃ m, k = m + 1 := ⟨k - 1, by omega⟩
  rw [tinderref05_Named.l0, if_neg (by omega), List.drop_eq_nil_of_le (by rw [bytesOf_length]; omega)]
  rfl
 | d + 1, k, i, h0, h1, hk => by
  obtain ⟨k, rfl⟩ : ∃ m, k = m + 7 + 1 + 1 := ⟨k - 9, by omega⟩
  have hb := bt_range s i
  have ih := refnamed_go s hs d k (i + 1) (by omega) (by omega) (by omega)
  have hw : wrap64 (i + 1) = i + 1 := by unfold wrap64; omega
  rw [tinderref05_Named.l0, if_pos (by omega), if_pos h0, bytes_at s i h0 (by omega), List.all_cons]
  have ht : tinderref05_Named.j2 (k + 7 + 1) s i (bt s i) true = some false := by rw [tinderref05_Named.j2, if_pos rfl]
  have hf : tinderref05_Named.j2 (k + 7 + 1) s i (bt s i) false = some (!badB (bt s i) && ((bytesOf s).drop (i + 1).toNat).all okC) := by
   rw [tinderref05_Named.j2, if_neg (by decide), refbad_go, hw, ih]
   cases badB (bt s i) <;> simp
  rw [show okC (bt s i) = (decide (33 ≤ bt s i) && decide (bt s i ≤ 126) && !(decide (65 ≤ bt s i) && decide (bt s i ≤ 90)) && !badB (bt s i)) from rfl]
  by_cases h2 : bt s i < 33
  ·rw [if_pos h2, ht]
   simp [show ¬ 33 ≤ bt s i by omega]
  ·rw [if_neg h2]
   by_cases h3 : bt s i > 126
   ·rw [if_pos h3, ht]
    simp [show ¬ bt s i ≤ 126 by omega]
   ·rw [if_neg h3]
    by_cases h4 : bt s i ≥ 65
    ·rw [if_pos h4]
     by_cases h5 : bt s i ≤ 90
     ·rw [decide_eq_true h5, ht]
      simp [h5, show 65 ≤ bt s i by omega]
     ·rw [decide_eq_false h5, hf]
      simp [h5, show 33 ≤ bt s i by omega, show bt s i ≤ 126 by omega]
    ·rw [if_neg h4, hf]
     simp [show ¬ 65 ≤ bt s i by omega, show 33 ≤ bt s i by omega, show bt s i ≤ 126 by omega]
theorem refnamed_eq (k : Nat) (hk : 400 ≤ k) (s : ByteArray) : tinderref05_Named.f k s = some (namedF s) := by
 obtain ⟨k, rfl⟩ : ∃ m, k = m + 1 := ⟨k - 1, by omega⟩
 unfold tinderref05_Named.f namedF
 by_cases h0 : s.size = 0
 ·rw [if_pos (by omega), tinderref05_Named.j0, if_pos rfl]
  simp [h0]
 ·rw [if_neg (by omega), tinderref05_Named.j0]
  by_cases h1 : (s.size : Int) > 31
  ·rw [decide_eq_true h1, if_pos rfl]
   simp [show ¬ s.size ≤ 31 by omega]
  ·rw [decide_eq_false h1, if_neg (by decide), refnamed_go s (by omega) s.size k 0 (Int.le_refl 0) (by omega) (by omega)]
   simp [show 1 ≤ s.size by omega, show s.size ≤ 31 by omega]
end Go.Proofs.YtnalcjgefbelnaaDoor.Q
end
