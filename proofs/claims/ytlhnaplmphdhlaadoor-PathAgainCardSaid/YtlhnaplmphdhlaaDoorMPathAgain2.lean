/- Contracts of Go functions and plain facts, of several texts, one behind the other; no condition. -/
import Derived.Test.YtlhnaplmphdhlaaDoorProg
import Derived.Below
import Derived.Deep.Draws
import Derived.Deep.AppendLies
import Derived.Maps.AppendAt
import Derived.OwnWalk
import Derived.Laws.BytesArg
import Derived.Laws.MakeOwn
import Derived.Laws.OwnMore
import Derived.Deep.OwnRows
import Derived.Tactics
import Derived.Lib.ConvBytes
import Derived.Laws.Slices
import Derived.WalkKit
import Derived.KernelRfl
import Derived.RowKit3
import Derived.Deep.LoopGhost
import Derived.Deep.QuietTactic
import Derived.BigQuiet
import Derived.WideLaws
import Derived.Deep.DeepCutAuto
import Derived.Deep.CutBlock
import Derived.Deep.RegionHeld3
import Derived.Laws.Rows
import Derived.Lib.AppendStr
import Derived.ArgAppend
import Derived.Laws.IdiomCopy
import Derived.OrdersHeld
import Derived.Laws.BitsLemmas
import Derived.RowKit
import Derived.Test.YtlhnaplmphdhlaaDoorMPathAgain1
import Derived.Test.YtlhnaplmphdhlaaDoorRows
import Derived.Lib.LaidTab
import Derived.LaidMore
import Derived.ProofKit
import Derived.OpenShut
import Derived.MakeChecks
import Derived.Stop.LaidErr
import Derived.Shelf.Strings.Builder1
import Derived.Shelf.Strings.Builder2
import Derived.Shelf.Strings.OnBuilder
import Derived.Shelf.Small.Strs
import Derived.Shelf.Small.Wraps
import Derived.Shelf.Strings.BuilderF
import Derived.Shelf.Strings.BuilderK
import Derived.Shelf.Utf8.RuneCount
import Derived.Shelf.Strings.Builder2Cap
import Derived.Shelf.Strconv.Itoa0
import Derived.Shelf.Strconv.Itoa1
import Derived.Shelf.LaysM
import Derived.Shelf.Strconv.Itoa2
import Derived.Shelf.Strings.Search1
import Derived.Shelf.Strings.Search2
import Derived.Shelf.Strings.Search3
import Derived.Shelf.Strings.Cut
import Derived.Shelf.Strings.Count
import Derived.Shelf.Strings.Shaped
import Derived.Shelf.Strings.Prefix
import Derived.Shelf.Strings.Split
import Derived.Shelf.Strings.SplitShaped
import Derived.Shelf.Unicode.Decode
import Derived.Shelf.Strings.RuneCount
import Derived.Shelf.Strings.Explode
import Derived.Shelf.Unicode.DecodeSlow
import Derived.Shelf.Unicode.DecodeAny
import Derived.Shelf.Strings.BuilderCap
import Derived.Shelf.Bytes.SlIndexSmall
import Derived.Shelf.Bytes.SlIndexAt
import Derived.Shelf.Bytes.SlSearch0
import Derived.Shelf.Bytes.SlSearch1
import Derived.Shelf.Bytes.Small
import Derived.Shelf.Bytes.IndexByte
import Derived.WalkSpells
import Derived.Laws.CopyOwn
import Derived.Lib.Strings
import Derived.Lib.ItoaNum
section
namespace Go.Proofs.YtlhnaplmphdhlaaDoor.Q
open Go.RowKit Go.Proofs.YtlhnaplmphdhlaaDoorW.PrintWords Go.Proofs.YtlhnaplmphdhlaaDoorW.PrintLast Go.Proofs.YtlhnaplmphdhlaaDoorW.PrintMore
set_option linter.unusedVariables false
set_option linter.unusedSimpArgs false

def errW : Option Int → Value
  | none => .nilIface
  | some c => .iface 0 (.int .i64 c)
theorem errW_none : errW none = .nilIface := rfl
theorem errW_some (c : Int) : errW (some c) = .iface 0 (.int .i64 c) := rfl

theorem info9 : (Tryd.prog.info? 9).map (fun i => (i.zero, i.size, i.bytes)) = some (some (.string ⟨#[]⟩), 1, 16) := by kernel_rfl
-- the values' own types
/-! #### struct type 7 -/
structure S7 where
  f0 : Int
  f1 : Int
  f2 : Bool
  f3 : Int
def z7 : S7 := ⟨(0 : Int), (0 : Int), false, (0 : Int)⟩
def k7 : Kd S7 := Kd.iso (Kd.pair (Kd.int .i64) (Kd.pair (Kd.int .i64) (Kd.pair Kd.bool (Kd.int .u8)))) (fun x : S7 => (x.f0, x.f1, x.f2, x.f3))
def rd_T7 (xs : List S7) (i : Int) : S7 := xs.getD i.toNat z7

/-! #### struct type 8 -/
structure S8 where
  f0 : Int
  f1 : Int
  f2 : Bool
  f3 : Int
def z8 : S8 := ⟨(0 : Int), (0 : Int), false, (0 : Int)⟩
def k8 : Kd S8 := Kd.iso (Kd.pair (Kd.int .i64) (Kd.pair (Kd.int .i64) (Kd.pair Kd.bool (Kd.int .u8)))) (fun x : S8 => (x.f0, x.f1, x.f2, x.f3))
def rd_T8 (xs : List S8) (i : Int) : S8 := xs.getD i.toNat z8

/-! #### struct type 13 -/
structure S13 where
  f0 : ByteArray
  f1 : Int
def z13 : S13 := ⟨(⟨#[]⟩ : ByteArray), (0 : Int)⟩
def k13 : Kd S13 := Kd.iso (Kd.pair Kd.string (Kd.int .u64)) (fun x : S13 => (x.f0, x.f1))
def rd_T13 (xs : List S13) (i : Int) : S13 := xs.getD i.toNat z13

/-! #### struct type 14 -/
structure S14 where
  f0 : ByteArray
  f1 : Int
def z14 : S14 := ⟨(⟨#[]⟩ : ByteArray), (0 : Int)⟩
def k14 : Kd S14 := Kd.iso (Kd.pair Kd.string (Kd.int .u64)) (fun x : S14 => (x.f0, x.f1))
def rd_T14 (xs : List S14) (i : Int) : S14 := xs.getD i.toNat z14

def rd_L11 (xs : List (List Int)) (i : Int) : (List Int) := xs.getD i.toNat ([] : List Int)

def rd_L12 (xs : List (List (List Int))) (i : Int) : (List (List Int)) := xs.getD i.toNat ([] : List (List Int))

def rd_L13 (xs : List (List Int)) (i : Int) : (List Int) := xs.getD i.toNat ([] : List Int)

def rd_L14 (xs : List (List ByteArray)) (i : Int) : (List ByteArray) := xs.getD i.toNat ([] : List ByteArray)

/-! #### struct type 81 -/
structure S81 where
  f0 : ByteArray
  f1 : (List Int)
  f2 : ByteArray
def z81 : S81 := ⟨(⟨#[]⟩ : ByteArray), ([] : List Int), (⟨#[]⟩ : ByteArray)⟩
def k81 : Kd S81 := Kd.iso (Kd.pair Kd.string (Kd.pair (Kd.slice 24 (Kd.int .u32)) Kd.string)) (fun x : S81 => (x.f0, x.f1, x.f2))
theorem k81_open {w : World} {x : S81} {cs : List Value} (h : k81.K w x cs) : ∃ A1 c1, cs = [.string x.f0, .slice A1 x.f1.length c1, .string x.f2] ∧ x.f1.length ≤ c1 ∧ (Kd.int .u32).C w A1 x.f1.length x.f1 := by
  obtain ⟨_, _, rfl, rfl, ⟨_, _, rfl, ⟨A1, c1, rfl, l1, g1⟩, rfl⟩⟩ := h
  exact ⟨A1, c1, rfl, l1, g1⟩
theorem k81_mk (w : World) (x : S81) {A1 : Option Addr} {c1 : Nat} (l1 : x.f1.length ≤ c1) (g1 : (Kd.int .u32).C w A1 x.f1.length x.f1) : k81.K w x [.string x.f0, .slice A1 x.f1.length c1, .string x.f2] := ⟨[.string x.f0], [.slice A1 x.f1.length c1, .string x.f2], rfl, rfl, ⟨[.slice A1 x.f1.length c1], [.string x.f2], rfl, ⟨A1, c1, rfl, l1, g1⟩, rfl⟩⟩
theorem k81_mkM (w : World) (base : Nat) (ok : Nat → Prop) (x : S81) {v1 : Value} (g1 : (Kd.int .u32).R 24 w base ok v1 x.f1) : k81.M w base ok x [.string x.f0, v1, .string x.f2] := ⟨[.string x.f0], [v1, .string x.f2], rfl, rfl, ⟨[v1], [.string x.f2], rfl, ⟨v1, rfl, g1⟩, rfl⟩⟩
theorem k81_mkF (W : World) (ok : Nat → Prop) (x : S81) {A1 : Option Addr} {c1 : Nat} (l1 : x.f1.length ≤ c1) (g1 : Kd.F (Kd.int .u32) W ok A1 x.f1.length x.f1) : Kd.FK k81 W ok x [.string x.f0, .slice A1 x.f1.length c1, .string x.f2] := fun W2 hW => k81_mk W2 x l1 (g1 W2 hW)
def rd_T81 (xs : List S81) (i : Int) : S81 := xs.getD i.toNat z81
theorem at_T81 {w : World} {A : Option Addr} {n : Nat} {xs : List S81} (h : Kd.C k81 w A n xs) (i : Int) (h0 : 0 ≤ i) (h1 : i < n) : ∃ ad A1 c1, A = some ad ∧ w.cell? (ad.add (i.toNat * 3)) = some (.string (rd_T81 xs i).f0) ∧ w.cell? ⟨(ad.add (i.toNat * 3)).block, (ad.add (i.toNat * 3)).off + 1, none⟩ = some (.slice A1 (rd_T81 xs i).f1.length c1) ∧ w.cell? ⟨(ad.add (i.toNat * 3)).block, (ad.add (i.toNat * 3)).off + 2, none⟩ = some (.string (rd_T81 xs i).f2) ∧ (rd_T81 xs i).f1.length ≤ c1 ∧ (Kd.int .u32).C w A1 (rd_T81 xs i).f1.length (rd_T81 xs i).f1 := by
  obtain ⟨ad, c, e, _, hK, hc0⟩ := Kd.C_get h z81 i h0 h1
  have hc : ∀ j u, c[j]? = some u → w.cell? (ad.add (i.toNat * 3 + j)) = some u := hc0
  obtain ⟨A1, c1, rfl, l1, g1⟩ := k81_open hK
  exact ⟨ad, A1, c1, e, hc 0 _ rfl, by rw [← add_field _ _ 1 (by omega)]; exact hc 1 _ rfl, by rw [← add_field _ _ 2 (by omega)]; exact hc 2 _ rfl, l1, g1⟩

def rd_L16 (xs : List (List S81)) (i : Int) : (List S81) := xs.getD i.toNat ([] : List S81)

/-! #### struct type 80 -/
structure S80 where
  f0 : ByteArray
  f1 : (List Int)
  f2 : ByteArray
def z80 : S80 := ⟨(⟨#[]⟩ : ByteArray), ([] : List Int), (⟨#[]⟩ : ByteArray)⟩
def k80 : Kd S80 := Kd.iso (Kd.pair Kd.string (Kd.pair (Kd.slice 24 (Kd.int .u32)) Kd.string)) (fun x : S80 => (x.f0, x.f1, x.f2))
def rd_T80 (xs : List S80) (i : Int) : S80 := xs.getD i.toNat z80

/-! #### struct type 128 -/
structure S128 where
  f0 : Int
  f1 : Int
def z128 : S128 := ⟨(0 : Int), (0 : Int)⟩
def k128 : Kd S128 := Kd.iso (Kd.pair (Kd.int .u8) (Kd.int .u8)) (fun x : S128 => (x.f0, x.f1))
def rd_T128 (xs : List S128) (i : Int) : S128 := xs.getD i.toNat z128

/-! #### struct type 129 -/
structure S129 where
  f0 : Int
  f1 : Int
def z129 : S129 := ⟨(0 : Int), (0 : Int)⟩
def k129 : Kd S129 := Kd.iso (Kd.pair (Kd.int .u8) (Kd.int .u8)) (fun x : S129 => (x.f0, x.f1))
def rd_T129 (xs : List S129) (i : Int) : S129 := xs.getD i.toNat z129

end Go.Proofs.YtlhnaplmphdhlaaDoor.Q
end
section
set_option linter.unusedVariables false
namespace Go.Proofs.YtlhnaplmphdhlaaDoor.QB
open Go.ChangeShapes Go.WideShapes Go.ChangeAt Go.RowKit
def laidL : List (String × DataW Unit) := Rows.propUnitsRow.laid
def tab_bits_deBruijn32tab : List Int := [0, 1, 28, 2, 29, 14, 24, 3, 30, 22, 20, 15, 25, 17, 4, 8, 31, 27, 13, 23, 21, 19, 16, 7, 26, 12, 18, 6, 11, 5, 10, 9]
def tab_bits_deBruijn64tab : List Int := [0, 1, 56, 2, 57, 49, 28, 3, 61, 58, 42, 50, 38, 29, 17, 4, 62, 47, 59, 36, 45, 43, 51, 22, 53, 39, 33, 30, 24, 18, 12, 5, 63, 55, 48, 27, 60, 41, 37, 16, 46, 35, 44, 21, 52, 32, 23, 11, 54, 26, 40, 15, 34, 20, 31, 10, 25, 14, 19, 9, 13, 8, 7, 6]
def tab_strconv_uint64pow10 : List Int := [1, 10, 100, 1000, 10000, 100000, 1000000, 10000000, 100000000, 1000000000, 10000000000, 100000000000, 1000000000000, 10000000000000, 100000000000000, 1000000000000000, 10000000000000000, 100000000000000000, 1000000000000000000, 10000000000000000000]
structure Tabs (w : World) : Prop where
  bits_deBruijn32tab : Lib.TabIs Tryd.prog w "math/bits.deBruijn32tab" .u8 tab_bits_deBruijn32tab
  bits_deBruijn64tab : Lib.TabIs Tryd.prog w "math/bits.deBruijn64tab" .u8 tab_bits_deBruijn64tab
  strconv_uint64pow10 : Lib.TabIs Tryd.prog w "internal/strconv.uint64pow10" .u64 tab_strconv_uint64pow10
theorem tabs_of_laid {W : World} (h : laidMetH Tryd.prog laidL W) : Tabs W := by
  rw [MakeChecks.laidMetH_plain _ _ _ (by kernel_rfl)] at h
  refine ⟨?_, ?_, ?_⟩
  · exact Lib.tabIs_of_head (g := 4) (t := 138) (e := 5) (n := 32) (by kernel_rfl) (by kernel_rfl) Tryd.underlying138 Tryd.underlying5 (by kernel_rfl) (by kernel_rfl) (show laidMet Tryd.prog ((_, Lib.tabData _ _) :: _) W from h)
  · exact Lib.tabIs_of_head (g := 5) (t := 139) (e := 5) (n := 64) (by kernel_rfl) (by kernel_rfl) Tryd.underlying139 Tryd.underlying5 (by kernel_rfl) (by kernel_rfl) (show laidMet Tryd.prog ((_, Lib.tabData _ _) :: _) W from h.tail)
  · exact Lib.tabIs_of_head (g := 3) (t := 132) (e := 100) (n := 20) (by kernel_rfl) (by kernel_rfl) Tryd.underlying132 Tryd.underlying100 (by kernel_rfl) (by kernel_rfl) (show laidMet Tryd.prog ((_, Lib.tabData _ _) :: _) W from h.tail.tail)
theorem var_below {P : Program} {g : Nat} {W W' : World} {n : String} {cs : Array Value} (h : Below W.heap.size W W') (hg : P.globalNamed n = some g) (hv : W.var? P n = some cs) : W'.var? P n = some cs := by
  unfold World.var? at hv ⊢
  simp only [hg, Option.bind_some] at hv ⊢
  rw [h.block g (by
    rcases Nat.lt_or_ge g W.heap.size with h1 | h1
    · exact h1
    · rw [Array.getElem?_eq_none h1] at hv
      simp at hv)]
  exact hv
theorem Tabs.below {w w1 : World} (h : Tabs w) (hb : Below w.heap.size w w1) : Tabs w1 :=
  ⟨var_below hb (g := 4) (by kernel_rfl) h.bits_deBruijn32tab, var_below hb (g := 5) (by kernel_rfl) h.bits_deBruijn64tab, var_below hb (g := 3) (by kernel_rfl) h.strconv_uint64pow10⟩
theorem Tabs.at_bits_deBruijn64tab {w : World} (h : Tabs w) (i : Nat) (hi : i < 64) : w.cell? ⟨5, i, none⟩ = some (.int .u8 (tab_bits_deBruijn64tab.getD i 0)) := h.bits_deBruijn64tab.cell (by kernel_rfl) i hi
end Go.Proofs.YtlhnaplmphdhlaaDoor.QB
end
section
namespace Go.Proofs
open Go.Shelf
def Tryd.lays156_ren : Go.Shelf.Ren := ⟨fun | 156 => 57 | 165 => 78 | 166 => 64 | 169 => 66 | 240 => 82 | 241 => 96 | 276 => 100 | 277 => 110 | n => n, fun | 31 => 39 | 9 => 9 | 3 => 3 | 4 => 4 | 0 => 0 | 20 => 20 | 72 => 87 | 76 => 91 | 70 => 85 | 37 => 25 | 75 => 90 | 127 => 108 | 164 => 115 | 5 => 5 | 80 => 94 | n => n, fun | n => n⟩
theorem Tryd.lays156 : Go.Proofs.Lays.n156 Tryd.prog Tryd.lays156_ren := {
  mixed := by kernel_rfl
  f156 := Tryd.func57.trans (congrArg some (by kernel_rfl))
  f165 := Tryd.func78.trans (congrArg some (by kernel_rfl))
  f166 := Tryd.func64.trans (congrArg some (by kernel_rfl))
  f169 := Tryd.func66.trans (congrArg some (by kernel_rfl))
  f240 := Tryd.func82.trans (congrArg some (by kernel_rfl))
  f241 := Tryd.func96.trans (congrArg some (by kernel_rfl))
  f276 := Tryd.func100.trans (congrArg some (by kernel_rfl))
  f277 := Tryd.func110.trans (congrArg some (by kernel_rfl))
  t0 := Tryd.underlying0
  a0 := Tryd.isAgg0
  z0 := Tryd.sizeOf0
  v0 := Tryd.zeroValue0
  t3 := Tryd.underlying3
  a3 := Tryd.isAgg3
  z3 := Tryd.sizeOf3
  v3 := Tryd.zeroValue3
  t4 := Tryd.underlying4
  a4 := Tryd.isAgg4
  z4 := Tryd.sizeOf4
  v4 := Tryd.zeroValue4
  t9 := Tryd.underlying9
  a9 := Tryd.isAgg9
  z9 := Tryd.sizeOf9
  v9 := Tryd.zeroValue9
  t20 := Tryd.underlying20
  a20 := Tryd.isAgg20
  z20 := Tryd.sizeOf20
  v20 := Tryd.zeroValue20
  t31 := Tryd.underlying39
  a31 := Tryd.isAgg39
  z31 := Tryd.sizeOf39
  v31 := Tryd.zeroValue39
  t37 := Tryd.underlying25
  a37 := Tryd.isAgg25
  z37 := Tryd.sizeOf25
  v37 := Tryd.zeroValue25
  t70 := Tryd.underlying85
  a70 := Tryd.isAgg85
  z70 := Tryd.sizeOf85
  v70 := Tryd.zeroValue85
  t72 := Tryd.underlying87
  a72 := Tryd.isAgg87
  z72 := Tryd.sizeOf87
  v72 := Tryd.zeroValue87
  t75 := Tryd.underlying90
  a75 := Tryd.isAgg90
  z75 := Tryd.sizeOf90
  v75 := Tryd.zeroValue90
  t76 := Tryd.underlying91
  a76 := Tryd.isAgg91
  z76 := Tryd.sizeOf91
  v76 := Tryd.zeroValue91
  t127 := Tryd.underlying108
  a127 := Tryd.isAgg108
  z127 := Tryd.sizeOf108
  v127 := Tryd.zeroValue108
  t164 := Tryd.underlying115
  a164 := Tryd.isAgg115
  z164 := Tryd.sizeOf115
  v164 := Tryd.zeroValue115 }
theorem Tryd.Builder_Extra_156 : Builder.Extra Tryd.prog Tryd.lays156_ren := {
  sizeBuilder := by kernel_rfl
  liesBuilder := by kernel_rfl
  t5 := Tryd.underlying5
  a5 := Tryd.isAgg5
  z5 := Tryd.sizeOf5
  v5 := Tryd.zeroValue5
  infoByte := by kernel_rfl
  cellsByte := by kernel_rfl
  sizeByte := by kernel_rfl
  neB5 := by decide }
open Go.RowKit in
/-- No element: the empty string; the world is as it was. (Whatever the slice's address and capacity: a nil slice too.) (LAID: no walk: one application.) -/
theorem Tryd.strings_Join_none (a : Option Addr) (c : Nat) (sep : ByteArray) (w : World) :
    Calls Tryd.prog 57 #[.slice a 0 c, .string sep] w fun e w' => e = .returned (.string ⟨#[]⟩) ∧ w' = w := Any.strings_Join_none Tryd.lays156 Tryd.Builder_Extra_156 a c sep w
open Go.RowKit in
/-- strings.Join: "Join concatenates the elements of its first argument to create a single string. The separator string sep is placed between elements in the resulting string.": HOWEVER MANY ELEMENTS. Below the heap's end the world is as it was. (LAID: no walk: one application.) -/
theorem Tryd.strings_Join (bk o c : Nat) (xs : List ByteArray) (sep : ByteArray) (w : World) (hcells : ∀ (j : Nat) x, xs[j]? = some x → w.cell? ⟨bk, o + j, none⟩ = some (.string x)) (hbk : bk < w.heap.size) (hN : xs.length ≤ 140737488355328) (hcap : xs.length ≤ c) (hlen : (Lib.join (xs.map (·.data.toList)) sep.data.toList).length ≤ 140737488355328) :
    Calls Tryd.prog 57 #[.slice (some ⟨bk, o, none⟩) xs.length c, .string sep] w fun e w' => e = .returned (.string ⟨(Lib.join (xs.map (·.data.toList)) sep.data.toList).toArray⟩) ∧ Below w.heap.size w w' := Any.strings_Join Tryd.lays156 Tryd.Builder_Extra_156 bk o c xs sep w hcells hbk hN hcap hlen
def Tryd.lays137_ren : Go.Shelf.Ren := ⟨fun | 137 => 45 | 217 => 67 | 266 => 83 | n => n, fun | 9 => 9 | 5 => 5 | 3 => 3 | n => n, fun | n => n⟩
theorem Tryd.lays137 : Go.Proofs.Lays.n137 Tryd.prog Tryd.lays137_ren := {
  mixed := by kernel_rfl
  f137 := Tryd.func45.trans (congrArg some (by kernel_rfl))
  f217 := Tryd.func67.trans (congrArg some (by kernel_rfl))
  f266 := Tryd.func83.trans (congrArg some (by kernel_rfl))
  t3 := Tryd.underlying3
  a3 := Tryd.isAgg3
  z3 := Tryd.sizeOf3
  v3 := Tryd.zeroValue3
  t5 := Tryd.underlying5
  a5 := Tryd.isAgg5
  z5 := Tryd.sizeOf5
  v5 := Tryd.zeroValue5
  t9 := Tryd.underlying9
  a9 := Tryd.isAgg9
  z9 := Tryd.sizeOf9
  v9 := Tryd.zeroValue9 }
open Go.RowKit in
/-- strings.IndexByte: "IndexByte returns the index of the first instance of c in s, or -1 if c is not present in s.": IT RETURNS 'Lib.indexByte s c'; the world is as it was. (LAID: no walk: one application.) -/
theorem Tryd.strings_IndexByte (s : ByteArray) (c : Int) (w : World) :
    Calls Tryd.prog 45 #[.string s, .int .u8 c] w fun e w' => e = .returned (.int .i64 (Lib.indexByte s.data.toList c.toNat.toUInt8)) ∧ w' = w := Any.strings_IndexByte Tryd.lays137 s c w
def Tryd.lays103_ren : Go.Shelf.Ren := ⟨fun | 103 => 59 | 210 => 79 | 206 => 97 | n => n, fun | 9 => 9 | 4 => 4 | 24 => 68 | 3 => 3 | n => n, fun | n => n⟩
theorem Tryd.lays103 : Go.Proofs.Lays.n103 Tryd.prog Tryd.lays103_ren := {
  mixed := by kernel_rfl
  f103 := Tryd.func59.trans (congrArg some (by kernel_rfl))
  f206 := Tryd.func97.trans (congrArg some (by kernel_rfl))
  f210 := Tryd.func79.trans (congrArg some (by kernel_rfl))
  t3 := Tryd.underlying3
  a3 := Tryd.isAgg3
  z3 := Tryd.sizeOf3
  v3 := Tryd.zeroValue3
  t4 := Tryd.underlying4
  a4 := Tryd.isAgg4
  z4 := Tryd.sizeOf4
  v4 := Tryd.zeroValue4
  t9 := Tryd.underlying9
  a9 := Tryd.isAgg9
  z9 := Tryd.sizeOf9
  v9 := Tryd.zeroValue9
  t24 := Tryd.underlying68
  a24 := Tryd.isAgg68
  z24 := Tryd.sizeOf68
  v24 := Tryd.zeroValue68 }
open Go.RowKit in
/-- strings.CutPrefix: "CutPrefix returns s without the provided leading prefix string and reports whether it found the prefix. If s doesn't start with prefix, CutPrefix returns s, false. If prefix is the empty string, CutPrefix returns s, true.": IT RETURNS '(Lib.trimPrefix s p, Lib.hasPrefix s p)'; the world is as it was. (LAID: no walk: one application.) -/
theorem Tryd.strings_CutPrefix (s p : ByteArray) (w : World) :
    Calls Tryd.prog 59 #[.string s, .string p] w fun e w' => e = .returned (.tuple #[.string ⟨(Lib.trimPrefix s.data.toList p.data.toList).toArray⟩, .bool (Lib.hasPrefix s.data.toList p.data.toList)]) ∧ w' = w := Any.strings_CutPrefix Tryd.lays103 s p w
def Tryd.lays104_ren : Go.Shelf.Ren := ⟨fun | 104 => 49 | 211 => 70 | 207 => 84 | n => n, fun | 9 => 9 | 4 => 4 | 24 => 68 | 3 => 3 | n => n, fun | n => n⟩
def Tryd.lays219_ren : Go.Shelf.Ren := ⟨fun | 219 => 99 | 217 => 67 | 225 => 111 | 224 => 90 | 267 => 112 | 266 => 83 | 314 => 118 | n => n, fun | 9 => 9 | 3 => 3 | 4 => 4 | 5 => 5 | 46 => 62 | 146 => 118 | 51 => 24 | n => n, fun | 1 => 0 | n => n⟩
theorem Tryd.lays219 : Go.Proofs.Lays.n219 Tryd.prog Tryd.lays219_ren := {
  mixed := by kernel_rfl
  f217 := Tryd.func67.trans (congrArg some (by kernel_rfl))
  f219 := Tryd.func99.trans (congrArg some (by kernel_rfl))
  f224 := Tryd.func90.trans (congrArg some (by kernel_rfl))
  f225 := Tryd.func111.trans (congrArg some (by kernel_rfl))
  f266 := Tryd.func83.trans (congrArg some (by kernel_rfl))
  f267 := Tryd.func112.trans (congrArg some (by kernel_rfl))
  f314 := Tryd.func118.trans (congrArg some (by kernel_rfl))
  t3 := Tryd.underlying3
  a3 := Tryd.isAgg3
  z3 := Tryd.sizeOf3
  v3 := Tryd.zeroValue3
  t4 := Tryd.underlying4
  a4 := Tryd.isAgg4
  z4 := Tryd.sizeOf4
  v4 := Tryd.zeroValue4
  t5 := Tryd.underlying5
  a5 := Tryd.isAgg5
  z5 := Tryd.sizeOf5
  v5 := Tryd.zeroValue5
  t9 := Tryd.underlying9
  a9 := Tryd.isAgg9
  z9 := Tryd.sizeOf9
  v9 := Tryd.zeroValue9
  t46 := Tryd.underlying62
  a46 := Tryd.isAgg62
  z46 := Tryd.sizeOf62
  v46 := Tryd.zeroValue62
  t51 := Tryd.underlying24
  a51 := Tryd.isAgg24
  z51 := Tryd.sizeOf24
  v51 := Tryd.zeroValue24
  t146 := Tryd.underlying118
  a146 := Tryd.isAgg118
  z146 := Tryd.sizeOf118
  v146 := Tryd.zeroValue118
  g1 := by kernel_rfl }
open Go.RowKit Go.Lib in
/-- internal/stringslite.Index (what strings.Index calls) AT A substr OF ONE BYTE c: IT RETURNS 'Lib.indexByte s c'; the world is as it was. (LAID: no walk: one application.) -/
theorem Tryd.stringslite_Index_one (s : ByteArray) (c : UInt8) (w : World) :
    Calls Tryd.prog 99 #[.string s, .string ⟨#[c]⟩] w fun e w' => e = .returned (.int .i64 (Lib.indexByte s.data.toList c)) ∧ w' = w := Any.stringslite_Index_one Tryd.lays219 s c w
def Tryd.lays143_ren : Go.Shelf.Ren := ⟨fun | 143 => 81 | 219 => 99 | 217 => 67 | 225 => 111 | 224 => 90 | 267 => 112 | 266 => 83 | 314 => 118 | n => n, fun | 9 => 9 | 3 => 3 | 4 => 4 | 5 => 5 | 46 => 62 | 146 => 118 | 51 => 24 | n => n, fun | 1 => 0 | n => n⟩
theorem Tryd.lays143 : Go.Proofs.Lays.n143 Tryd.prog Tryd.lays143_ren := {
  mixed := by kernel_rfl
  f143 := Tryd.func81.trans (congrArg some (by kernel_rfl))
  f217 := Tryd.func67.trans (congrArg some (by kernel_rfl))
  f219 := Tryd.func99.trans (congrArg some (by kernel_rfl))
  f224 := Tryd.func90.trans (congrArg some (by kernel_rfl))
  f225 := Tryd.func111.trans (congrArg some (by kernel_rfl))
  f266 := Tryd.func83.trans (congrArg some (by kernel_rfl))
  f267 := Tryd.func112.trans (congrArg some (by kernel_rfl))
  f314 := Tryd.func118.trans (congrArg some (by kernel_rfl))
  t3 := Tryd.underlying3
  a3 := Tryd.isAgg3
  z3 := Tryd.sizeOf3
  v3 := Tryd.zeroValue3
  t4 := Tryd.underlying4
  a4 := Tryd.isAgg4
  z4 := Tryd.sizeOf4
  v4 := Tryd.zeroValue4
  t5 := Tryd.underlying5
  a5 := Tryd.isAgg5
  z5 := Tryd.sizeOf5
  v5 := Tryd.zeroValue5
  t9 := Tryd.underlying9
  a9 := Tryd.isAgg9
  z9 := Tryd.sizeOf9
  v9 := Tryd.zeroValue9
  t46 := Tryd.underlying62
  a46 := Tryd.isAgg62
  z46 := Tryd.sizeOf62
  v46 := Tryd.zeroValue62
  t51 := Tryd.underlying24
  a51 := Tryd.isAgg24
  z51 := Tryd.sizeOf24
  v51 := Tryd.zeroValue24
  t146 := Tryd.underlying118
  a146 := Tryd.isAgg118
  z146 := Tryd.sizeOf118
  v146 := Tryd.zeroValue118
  g1 := by kernel_rfl }
open Go.RowKit Go.Lib in
/-- strings.Index: "Index returns the index of the first instance of substr in s, or -1 if substr is not present in s.": AT A substr OF ONE BYTE c: IT RETURNS 'Lib.indexByte s c'; the world is as it was. (LAID: no walk: one application.) -/
theorem Tryd.strings_Index_one (s : ByteArray) (c : UInt8) (w : World) :
    Calls Tryd.prog 81 #[.string s, .string ⟨#[c]⟩] w fun e w' => e = .returned (.int .i64 (Lib.indexByte s.data.toList c)) ∧ w' = w := Any.strings_Index_one Tryd.lays143 s c w
def Tryd.lays144_ren : Go.Shelf.Ren := ⟨fun | 144 => 63 | 143 => 81 | 219 => 99 | 217 => 67 | 225 => 111 | 224 => 90 | 267 => 112 | 266 => 83 | 314 => 118 | n => n, fun | 9 => 9 | 4 => 4 | 3 => 3 | 5 => 5 | 46 => 62 | 146 => 118 | 51 => 24 | n => n, fun | 1 => 0 | n => n⟩
theorem Tryd.lays144 : Go.Proofs.Lays.n144 Tryd.prog Tryd.lays144_ren := {
  mixed := by kernel_rfl
  f143 := Tryd.func81.trans (congrArg some (by kernel_rfl))
  f144 := Tryd.func63.trans (congrArg some (by kernel_rfl))
  f217 := Tryd.func67.trans (congrArg some (by kernel_rfl))
  f219 := Tryd.func99.trans (congrArg some (by kernel_rfl))
  f224 := Tryd.func90.trans (congrArg some (by kernel_rfl))
  f225 := Tryd.func111.trans (congrArg some (by kernel_rfl))
  f266 := Tryd.func83.trans (congrArg some (by kernel_rfl))
  f267 := Tryd.func112.trans (congrArg some (by kernel_rfl))
  f314 := Tryd.func118.trans (congrArg some (by kernel_rfl))
  t3 := Tryd.underlying3
  a3 := Tryd.isAgg3
  z3 := Tryd.sizeOf3
  v3 := Tryd.zeroValue3
  t4 := Tryd.underlying4
  a4 := Tryd.isAgg4
  z4 := Tryd.sizeOf4
  v4 := Tryd.zeroValue4
  t5 := Tryd.underlying5
  a5 := Tryd.isAgg5
  z5 := Tryd.sizeOf5
  v5 := Tryd.zeroValue5
  t9 := Tryd.underlying9
  a9 := Tryd.isAgg9
  z9 := Tryd.sizeOf9
  v9 := Tryd.zeroValue9
  t46 := Tryd.underlying62
  a46 := Tryd.isAgg62
  z46 := Tryd.sizeOf62
  v46 := Tryd.zeroValue62
  t51 := Tryd.underlying24
  a51 := Tryd.isAgg24
  z51 := Tryd.sizeOf24
  v51 := Tryd.zeroValue24
  t146 := Tryd.underlying118
  a146 := Tryd.isAgg118
  z146 := Tryd.sizeOf118
  v146 := Tryd.zeroValue118
  g1 := by kernel_rfl }
open Go.RowKit Go.Lib in
/-- strings.Contains: "Contains reports whether substr is within s.": AT A substr OF ONE BYTE c: IT RETURNS 'decide (0 ≤ Lib.indexByte s c)'; the world is as it was. (LAID: no walk: one application.) -/
theorem Tryd.strings_Contains_one (s : ByteArray) (c : UInt8) (w : World) :
    Calls Tryd.prog 63 #[.string s, .string ⟨#[c]⟩] w fun e w' => e = .returned (.bool (decide (0 ≤ Lib.indexByte s.data.toList c))) ∧ w' = w := Any.strings_Contains_one Tryd.lays144 s c w
def Tryd.lays138_ren : Go.Shelf.Ren := ⟨fun | 138 => 86 | 195 => 101 | 218 => 102 | 143 => 81 | 219 => 99 | 217 => 67 | 225 => 111 | 224 => 90 | 267 => 112 | 266 => 83 | 314 => 118 | n => n, fun | 9 => 9 | 3 => 3 | 4 => 4 | 5 => 5 | 0 => 0 | 46 => 62 | 146 => 118 | 51 => 24 | n => n, fun | 1 => 0 | n => n⟩
def Tryd.lays146_ren : Go.Shelf.Ren := ⟨fun | 146 => 50 | 221 => 71 | 268 => 85 | 138 => 86 | 143 => 81 | 195 => 101 | 197 => 93 | 218 => 102 | 219 => 99 | 260 => 105 | 217 => 67 | 225 => 111 | 224 => 90 | 267 => 112 | 266 => 83 | 314 => 118 | n => n, fun | 9 => 9 | 31 => 39 | 3 => 3 | 4 => 4 | 0 => 0 | 105 => 112 | 21 => 21 | 5 => 5 | 46 => 62 | 119 => 127 | 139 => 130 | 138 => 129 | 146 => 118 | 51 => 24 | n => n, fun | 1 => 0 | 3 => 1 | 4 => 2 | n => n⟩
def Tryd.lays185_ren : Go.Shelf.Ren := ⟨fun | 185 => 72 | 187 => 87 | 115 => 88 | 253 => 89 | 224 => 90 | 254 => 91 | 255 => 103 | 291 => 104 | n => n, fun | 37 => 25 | 3 => 3 | 4 => 4 | 0 => 0 | 5 => 5 | 46 => 62 | 9 => 9 | 146 => 118 | 51 => 24 | n => n, fun | 1 => 0 | n => n⟩
end Go.Proofs
end
section
namespace Go.Proofs.YtlhnaplmphdhlaaDoor.Q
open Go.RowKit Go.Proofs.YtlhnaplmphdhlaaDoorW.PrintWords Go.Proofs.YtlhnaplmphdhlaaDoorW.PrintLast Go.Proofs.YtlhnaplmphdhlaaDoorW.PrintMore
/-- Where a cut from 'lo' on begins. -/
def cutAt (A : Option Addr) (cap lo sz : Nat) : Option Addr := if cap = lo then A else A.map (·.add (lo * sz))
theorem cutAt_own {g cap lo sz : Nat} (h : lo < cap) : cutAt (some ⟨g, 0, none⟩) cap lo sz = some ⟨g, lo * sz, none⟩ := by
  unfold cutAt
  rw [if_neg (by omega)]
  simp [add_plain]
section
variable {P : Program} {t e : TypeId} {sz : Nat}
theorem run_size (hi : (P.info? e).map (·.size) = some sz) (W : World) : (sizeOf e).run P W = .ok sz W := by
  obtain ⟨i, h1, h2⟩ := Option.map_eq_some_iff.1 hi
  subst h2
  rw [run_sizeOf W h1]; simp [Program.cellsOf, h1]
end
theorem C_cut {α : Type} {d : Kd α} {w : World} {A : Option Addr} {n c : Nat} {xs : List α} (h : d.C w A n xs) (hc : n ≤ c) (lo m : Nat) (hm : lo + m ≤ n) : d.C w (cutAt A c lo d.sz) m ((xs.drop lo).take m) := by
  have hl : xs.length = n := h.1
  refine ⟨by simp [hl]; omega, by have := h.2.1; omega, fun hp => ?_⟩
  obtain ⟨ad, rfl, hcell⟩ := h.2.2 (by omega)
  refine ⟨ad.add (lo * d.sz), by unfold cutAt; rw [if_neg (by omega)]; rfl, fun j p hj => ?_⟩
  have hjm : j < m := by
    have := (List.getElem?_eq_some_iff.1 hj).1
    simp at this; omega
  have hj' : xs[lo + j]? = some p := by
    rw [List.getElem?_take, if_pos hjm, List.getElem?_drop] at hj
    exact hj
  obtain ⟨cs, h1, h2, h3⟩ := hcell (lo + j) p hj'
  refine ⟨cs, h1, h2, fun i u hu => ?_⟩
  have := h3 i u hu
  rw [show (lo + j) * d.sz + i = lo * d.sz + (j * d.sz + i) by rw [Nat.add_mul]; omega] at this
  rw [add_add]
  exact this
theorem reps_scalar {α : Type} {enc : α → Value} {R : α → List Value → Prop} (hR : ∀ x c, R x c → c = [enc x]) {xs : List α} {inner : List Value} (h : Reps R 1 xs inner) : inner = xs.map enc := by
  have hl : inner.length = xs.length := by have := h.1; omega
  apply List.ext_getElem
  · rw [hl, List.length_map]
  · intro i h1 h2
    have h3 : i < xs.length := by omega
    have := hR _ _ (h.2 i _ (List.getElem?_eq_getElem h3))
    have h4 : ((inner.drop (i * 1)).take 1)[0]? = some (enc xs[i]) := by rw [this]; rfl
    rw [List.getElem?_take, if_pos (by omega), List.getElem?_drop, Nat.mul_one, Nat.add_zero, List.getElem?_eq_getElem h1] at h4
    rw [List.getElem_map]
    exact Option.some.inj h4
theorem reps_scalar_mk {α : Type} {enc : α → Value} {R : α → List Value → Prop} (hR : ∀ x, R x [enc x]) (xs : List α) : Reps R 1 xs (xs.map enc) := by
  refine ⟨by simp, fun j p hj => ?_⟩
  obtain ⟨hjl, rfl⟩ := List.getElem?_eq_some_iff.1 hj
  have : ((xs.map enc).drop (j * 1)).take 1 = [enc xs[j]] := by
    rw [Nat.mul_one, List.drop_eq_getElem_cons (by simpa using hjl)]
    simp
  rw [this]
  exact hR _
/-! copy -/
section
variable {P : Program} {ops : Array Oper} {rest : List Oper} {o : Oper} {a : Act} {Q : Exit → Act → World → Prop}
end
/-! rows whose elements lead nowhere -/
section
variable {α : Type} {d : Kd α} {e base : Nat} {ok : Nat → Prop} {W w1 : World} {v : Value} {xs : List α}
end
end Go.Proofs.YtlhnaplmphdhlaaDoor.Q
end
section
set_option linter.unusedSimpArgs false
set_option linter.unusedVariables false
namespace Go.Proofs.YtlhnaplmphdhlaaDoor.Q
open Go.RowKit Go.Shelf Go.Proofs.YtlhnaplmphdhlaaDoorW.PrintWords Go.Proofs.YtlhnaplmphdhlaaDoorW.PrintLast
set_option maxHeartbeats 1000000 in
set_option maxRecDepth 100000 in
theorem copyCheck_used (b : Nat) (w : World) (h0 : w.cell? ⟨b, 0, none⟩ = some (.pointer (some ⟨b, 0, none⟩))) :
    Calls Tryd.prog 82 #[.pointer (some ⟨b, 0, none⟩)] w fun e w' => e = .returned (.tuple #[]) ∧ w' = w := by
  obtain ⟨j, hj, _⟩ := Option.map_eq_some_iff.1 Tryd.Builder_Extra_156.sizeBuilder
  go_enter Tryd.func82, Tryd.ntmps82
  go_wp2
  rw [Lib.run_neq_ptr_same w _ Tryd.underlying85 hj]
  go_wp2
  go_end0
  exact ⟨rfl, rfl⟩
set_option maxHeartbeats 1000000 in
set_option maxRecDepth 100000 in
theorem copyCheck_fresh (b : Nat) (w : World) (h0 : w.cell? ⟨b, 0, none⟩ = some (.pointer none)) (hsh : w.shape? b = some (87, 2)) (hfz : w.frozen? ⟨b, 0, none⟩ = false) :
    Calls Tryd.prog 82 #[.pointer (some ⟨b, 0, none⟩)] w fun e w' => e = .returned (.tuple #[]) ∧ w' = w.setCell ⟨b, 0, none⟩ (.pointer (some ⟨b, 0, none⟩)) := by
  obtain ⟨j, hj, hjs⟩ := Option.map_eq_some_iff.1 Tryd.Builder_Extra_156.sizeBuilder
  go_enter Tryd.func82, Tryd.ntmps82
  go_wp2
  rw [Lib.run_to_unsafe w ⟨b, 0, none⟩ Tryd.underlying85 Tryd.underlying115 hj (by rw [hjs]; decide) hsh (Nat.zero_lt_succ 1)]
  simp only [Result.andThen]
  rw [Oper.upon_value]
  go_wp2
  rw [run_callFunc_extern Tryd.func100 (by kernel_rfl) (by kernel_rfl) (by kernel_rfl) (e := Extern.AbiNoEscape.same) (by kernel_rfl)]
  rw [Lib.run_noEscape]
  simp only [Result.andThen]
  rw [Oper.upon_value]
  go_wp2
  rw [Lib.run_from_unsafe w ⟨b, 0, none⟩ Tryd.underlying115 Tryd.underlying85 hj hsh Tryd.Builder_Extra_156.liesBuilder]
  simp only [Result.andThen]
  rw [Oper.upon_value]
  go_wp2
  go_end0
  exact ⟨rfl, rfl⟩
/-- All blocks of another type than bytes, but b, are as they were. -/
def KeepT (b : Nat) (w w' : World) : Prop := ∀ k cs t fr, k ≠ b → t ≠ 5 → w.heap[k]? = some (.cells cs t fr) → w'.heap[k]? = some (.cells cs t fr)
theorem KeepT.set (b j : Nat) (w : World) (u : Value) : KeepT b w (w.setCell ⟨b, j, none⟩ u) := fun k cs t fr hk _ h => by
  rw [Below.heap_setCell w ⟨b, j, none⟩ u k hk]
  exact h
theorem KeepT.trans {b : Nat} {A B C : World} (h : KeepT b A B) (k : KeepT b B C) : KeepT b A C := fun i cs t fr hi ht e => k i cs t fr hi ht (h i cs t fr hi ht e)
theorem copyCheck_calls (B b : Nat) (bs : List Value) (w : World) (h : Lib.IsBuilder 87 5 B b bs w) :
    Calls Tryd.prog 82 #[.pointer (some ⟨b, 0, none⟩)] w fun e w' => e = .returned (.tuple #[]) ∧ (Lib.BuilderAt 87 5 B b (.pointer (some ⟨b, 0, none⟩)) bs w' ∧ Below B w w' ∧ KeepT b w w') := by
  rcases h with h | h
  · refine (copyCheck_fresh b w h.cell0 h.shape h.frozen0).mono ?_
    rintro e w' ⟨rfl, rfl⟩
    exact ⟨rfl, h.used _, (Below.refl B w).setCell (p := ⟨b, 0, none⟩) h.1 _, KeepT.set _ _ _ _⟩
  · refine (copyCheck_used b w h.cell0).mono ?_
    rintro e w' ⟨rfl, rfl⟩
    exact ⟨rfl, h, Below.refl B _, fun _ _ _ _ _ _ h => h⟩
theorem info5b : (Tryd.prog.info? 5).map (fun i => (i.zero, i.size, i.bytes)) = some (some (.int .u8 0), 1, 1) := by kernel_rfl
set_option maxHeartbeats 2000000 in
set_option maxRecDepth 100000 in
theorem write_calls (B b : Nat) (bs : List Value) (s : ByteArray) (w : World) (h : Lib.IsBuilder 87 5 B b bs w) (hlen : bs.length + s.size ≤ 140737488355328) (hBw : B ≤ w.heap.size) :
    Calls Tryd.prog 64 #[.pointer (some ⟨b, 0, none⟩), .string s] w fun e w' => e = .returned (.tuple #[.int .i64 s.size, .nilIface]) ∧ (Lib.BuilderAt 87 5 B b (.pointer (some ⟨b, 0, none⟩)) (bs ++ Lib.strCells s) w' ∧ Below B w w' ∧ KeepT b w w') := by
  obtain ⟨i0, hi, hz0, hz1, hz2⟩ := info_parts info5b
  have HC := Aside0.mk (copyCheck_calls B b bs w h)
  go_enter Tryd.func64, Tryd.ntmps64
  go_wp2_with (go_at_call 82; refine HC.out.mono ?_)
  rintro e w1 ⟨rfl, h1, hb1, hk1⟩
  obtain ⟨hB, v, hbk, hown, hne⟩ := h1
  have c0 : w1.cell? ⟨b, 0, none⟩ = some (.pointer (some ⟨b, 0, none⟩)) := by rw [Lib.cell_of_heap hbk]; rfl
  have c1 : w1.cell? ⟨b, 1, none⟩ = some v := by rw [Lib.cell_of_heap hbk]; rfl
  go_wp2_with (at_builtin; refine Lib.wpList_append_own_string _ rfl _ _ 25 9 rfl B 5 i0 Tryd.underlying25 Tryd.underlying9 hi hz0 hz1 hz2 _ _ _ rfl hown s rfl ?c3 ?c4 ?c5 ?_)
  case c3 => unfold maxLen; omega
  case c4 => omega
  case c5 => have := hb1.size; omega
  intro v' w2 hown' hgrow _
  have hlt : b < w1.heap.size := by
    rcases Nat.lt_or_ge b w1.heap.size with h' | h'
    · exact h'
    · simp [Array.getElem?_eq_none h'] at hbk
  have hb2 : w2.heap[b]? = some (.cells #[.pointer (some ⟨b, 0, none⟩), v] 87 (0, 0)) := by
    rw [hgrow.block b hlt (fun e => hne e.symm)]
    exact hbk
  have d0 : w2.cell? ⟨b, 0, none⟩ = some (.pointer (some ⟨b, 0, none⟩)) := by rw [Lib.cell_of_heap hb2]; rfl
  have d1 : w2.cell? ⟨b, 1, none⟩ = some v := by rw [Lib.cell_of_heap hb2]; rfl
  have f1 : w2.frozen? ⟨b, 1, none⟩ = false := Lib.frozen_of_heap hb2 1
  obtain ⟨ao, n', cap, rfl⟩ : ∃ ao n' cap, v' = .slice ao n' cap := by
    rcases hown'.2 with ⟨hv, _⟩ | ⟨g, cap, cur, hv, _⟩
    · exact ⟨_, _, _, hv⟩
    · exact ⟨_, _, _, hv⟩
  go_wp2
  go_ret2
  refine ⟨rfl, ?_, ?_, ?_⟩
  · exact Lib.BuilderAt.put (T := 87) (e := 5) hB hb2 (bs' := bs ++ Lib.strCells s) (by simpa [Lib.strCells_length] using hown') (by decide)
  · exact (hb1.grown hgrow (by have := hb1.size; omega) (fun k hk => (hown.lt k hk).1)).setCell (p := ⟨b, 1, none⟩) hB _
  · refine (hk1.trans (fun k cs t fr hk ht e => ?_)).trans (KeepT.set _ _ _ _)
    rw [hgrow.block k (Array.getElem?_eq_some_iff.1 e).1 (fun he => ?_)]
    · exact e
    · rcases hown.2 with ⟨rfl, _⟩ | ⟨g, cap, cur, rfl, _, hh, _⟩
      · simp [Value.ownBlock] at he
      · have : k = g := by simpa [Value.ownBlock] using he
        subst this
        rw [e] at hh
        injection hh with hh
        injection hh with _ h2 _
        exact ht h2
theorem BuilderAt_below {B b : Nat} {p : Value} {bs : List Value} {w w' : World} (h : Lib.BuilderAt 87 5 B b p bs w) (hb : Below w.heap.size w w') : Lib.BuilderAt 87 5 B b p bs w' := by
  have hlt := h.lt
  obtain ⟨hB, v, hbk, hown, hne⟩ := h
  refine ⟨hB, v, (hb.block b hlt).trans hbk, hown.kept (grown_of_below hb none) ?_, hne⟩
  cases hv : v.ownBlock with
  | none => exact .inl rfl
  | some k => exact .inr (by simp)
theorem IsBuilder_below {B b : Nat} {bs : List Value} {w w' : World} (h : Lib.IsBuilder 87 5 B b bs w) (hb : Below w.heap.size w w') : Lib.IsBuilder 87 5 B b bs w' := h.imp (fun h => BuilderAt_below h hb) (fun h => BuilderAt_below h hb)
end Go.Proofs.YtlhnaplmphdhlaaDoor.Q
end
section
namespace Go.Proofs
open Go.Shelf
def Tryd.lays170_ren : Go.Shelf.Ren := ⟨fun | 170 => 65 | n => n, fun | 70 => 85 | 3 => 3 | 0 => 0 | 72 => 87 | 37 => 25 | 5 => 5 | n => n, fun | n => n⟩
theorem Tryd.lays170 : Go.Proofs.Lays.n170 Tryd.prog Tryd.lays170_ren := {
  mixed := by kernel_rfl
  f170 := Tryd.func65.trans (congrArg some (by kernel_rfl))
  t0 := Tryd.underlying0
  a0 := Tryd.isAgg0
  z0 := Tryd.sizeOf0
  v0 := Tryd.zeroValue0
  t3 := Tryd.underlying3
  a3 := Tryd.isAgg3
  z3 := Tryd.sizeOf3
  v3 := Tryd.zeroValue3
  t37 := Tryd.underlying25
  a37 := Tryd.isAgg25
  z37 := Tryd.sizeOf25
  v37 := Tryd.zeroValue25
  t70 := Tryd.underlying85
  a70 := Tryd.isAgg85
  z70 := Tryd.sizeOf85
  v70 := Tryd.zeroValue85
  t72 := Tryd.underlying87
  a72 := Tryd.isAgg87
  z72 := Tryd.sizeOf87
  v72 := Tryd.zeroValue87 }
open Go.RowKit in
/-- (*strings.Builder).Len: "Len returns the number of accumulated bytes; b.Len() == len(b.String()).": the world is as it was. (LAID: no walk: one application.) -/
theorem Tryd.Builder_Len (B b : Nat) (bs : List Value) (w : World) (h : Lib.IsBuilder 87 5 B b bs w) :
    Calls Tryd.prog 65 #[.pointer (some ⟨b, 0, none⟩)] w fun e w' => e = .returned (.int .i64 bs.length) ∧ w' = w := Any.Builder_Len Tryd.lays170 B b bs w h
def Tryd.lays169_ren : Go.Shelf.Ren := ⟨fun | 169 => 66 | n => n, fun | 70 => 85 | 9 => 9 | 0 => 0 | 72 => 87 | 37 => 25 | 127 => 108 | 3 => 3 | 5 => 5 | n => n, fun | n => n⟩
theorem Tryd.lays169 : Go.Proofs.Lays.n169 Tryd.prog Tryd.lays169_ren := {
  mixed := by kernel_rfl
  f169 := Tryd.func66.trans (congrArg some (by kernel_rfl))
  t0 := Tryd.underlying0
  a0 := Tryd.isAgg0
  z0 := Tryd.sizeOf0
  v0 := Tryd.zeroValue0
  t3 := Tryd.underlying3
  a3 := Tryd.isAgg3
  z3 := Tryd.sizeOf3
  v3 := Tryd.zeroValue3
  t9 := Tryd.underlying9
  a9 := Tryd.isAgg9
  z9 := Tryd.sizeOf9
  v9 := Tryd.zeroValue9
  t37 := Tryd.underlying25
  a37 := Tryd.isAgg25
  z37 := Tryd.sizeOf25
  v37 := Tryd.zeroValue25
  t70 := Tryd.underlying85
  a70 := Tryd.isAgg85
  z70 := Tryd.sizeOf85
  v70 := Tryd.zeroValue85
  t72 := Tryd.underlying87
  a72 := Tryd.isAgg87
  z72 := Tryd.sizeOf87
  v72 := Tryd.zeroValue87
  t127 := Tryd.underlying108
  a127 := Tryd.isAgg108
  z127 := Tryd.sizeOf108
  v127 := Tryd.zeroValue108 }
theorem Tryd.Builder_Extra_169 : Builder.Extra Tryd.prog Tryd.lays169_ren := {
  sizeBuilder := by kernel_rfl
  liesBuilder := by kernel_rfl
  t5 := Tryd.underlying5
  a5 := Tryd.isAgg5
  z5 := Tryd.sizeOf5
  v5 := Tryd.zeroValue5
  infoByte := by kernel_rfl
  cellsByte := by kernel_rfl
  sizeByte := by kernel_rfl
  neB5 := by decide }
open Go.RowKit in
/-- (*strings.Builder).String: "String returns the accumulated string.": WHATEVER THE BUILDER HOLDS. (LAID: no walk: one application.) -/
theorem Tryd.Builder_String_any (B b : Nat) (l : List UInt8) (w : World) (h : Lib.IsBuilder 87 5 B b (Lib.byteCells l) w) (hBw : B ≤ w.heap.size) :
    Calls Tryd.prog 66 #[.pointer (some ⟨b, 0, none⟩)] w fun e w' => e = .returned (.string ⟨l.toArray⟩) ∧ Below B w w' := Any.Builder_String_any Tryd.lays169 Tryd.Builder_Extra_169 B b l w h hBw
end Go.Proofs
end
section
namespace Go.Proofs.YtlhnaplmphdhlaaDoor.Q
open Go.RowKit Go.Proofs.YtlhnaplmphdhlaaDoorW.PrintWords Go.Proofs.YtlhnaplmphdhlaaDoorW.PrintLast
def joinB (l : List ByteArray) (sep : ByteArray) : ByteArray := ⟨(Lib.join (l.map (·.data.toList)) sep.data.toList).toArray⟩
def strings_Join.f (l : List ByteArray) (sep : ByteArray) : Option ByteArray := if l.length ≤ 140737488355328 ∧ (joinB l sep).size ≤ 140737488355328 then some (joinB l sep) else none
theorem strings_Join.calls (A0 : Option Addr) (c0 : Nat) (l0 : List ByteArray) (a1 : ByteArray) (r : ByteArray) (w : World) (hr0 : Kd.C Kd.string w A0 l0.length l0) (hc0 : l0.length ≤ c0) (h : strings_Join.f l0 a1 = some r) :
    Calls Tryd.prog 57 #[.slice A0 l0.length c0, .string a1] w fun e w' => e = .returned (.string r) ∧ Below w.heap.size w w' := by
  unfold strings_Join.f at h
  split at h
  case isFalse => cases h
  rename_i hs
  obtain rfl := Option.some.inj h
  by_cases h0 : l0.length = 0
  · obtain rfl := List.eq_nil_of_length_eq_zero h0
    refine (Tryd.strings_Join_none A0 c0 a1 w).mono ?_
    rintro e w' ⟨rfl, rfl⟩
    exact ⟨rfl, Below.refl _ _⟩
  · obtain ⟨ad, rfl, hx⟩ := (Kd.reads_of_C (enc := Value.string) (d := ByteArray.empty) (h1 := fun _ => rfl) hr0).2.2 (by omega)
    have h00 := hx 0 (by omega)
    obtain ⟨bk, o, sp⟩ := ad
    have hsp : sp = none := by
      cases sp with
      | none => rfl
      | some y =>
        rw [show (⟨bk, o, some y⟩ : Addr).add 0 = ⟨bk, o, some y⟩ from rfl] at h00
        unfold World.cell? at h00
        split at h00 <;> simp at h00
    subst hsp
    have hb := World.block_lt_of_cell? w _ h00
    refine (Tryd.strings_Join bk o c0 l0 a1 w (fun j x hj => ?_) hb hs.1 hc0 (by have := hs.2; unfold joinB at this; simpa [ByteArray.size] using this)).mono ?_
    · have hjl := (List.getElem?_eq_some_iff.1 hj).1
      have h2 := hx j hjl
      rw [List.getD_eq_getElem?_getD, hj, Option.getD_some] at h2
      rw [← h2]
      congr 1
      unfold Addr.add
      split
      · rename_i h; subst h; rfl
      · rfl
    · rintro e w' ⟨rfl, hb⟩
      exact ⟨rfl, hb⟩
end Go.Proofs.YtlhnaplmphdhlaaDoor.Q
end
section
namespace Go.Proofs.YtlhnaplmphdhlaaDoor.Q
open Go.RowKit Go.Proofs.YtlhnaplmphdhlaaDoorW.PrintWords Go.Proofs.YtlhnaplmphdhlaaDoorW.PrintLast Go.Proofs.YtlhnaplmphdhlaaDoorW.PrintMore
set_option linter.unusedVariables false
set_option linter.unusedSimpArgs false

attribute [local go_sem] max2_int min2_int max_two min_two max_three min_three max_four min_four
/-! ### digit_fit: function 74 -/
def digit_fit.f (a0 : Int) : Option (Bool) := if a0 ≥ 2 then (some (decide (a0 ≤ 36))) else (some false)
set_option maxHeartbeats 8000000 in
set_option maxRecDepth 100000 in
theorem digit_fit.calls (a0 : Int) (r : Bool) (w : World) (h : digit_fit.f a0 = some r) :
    Calls Tryd.prog 74 #[.int .u32 a0] w fun e w' => e = .returned (.bool r) ∧ Drawn0 w w' := by
  have H : (if a0 ≥ 2 then (some (decide (a0 ≤ 36))) else (some false)) = some r := h
  clear h
  by_cases c2 : a0 ≥ 2
  · rw [if_pos c2] at H
    have c2b0 : decide (2 ≤ a0) = true := decide_eq_true c2
    clear c2
    obtain rfl := Option.some.inj H
    go_enter Tryd.func74, Tryd.ntmps74
    go_wp2
    go_ret
    exact ⟨by first | rfl | (simp; done) | (simp [*]; done), by repeat (first | exact Drawn0.refl _ | apply Drawn0.step)⟩
  · rw [if_neg c2] at H
    have c2b0 : decide (2 ≤ a0) = false := decide_eq_false c2
    clear c2
    obtain rfl := Option.some.inj H
    go_enter Tryd.func74, Tryd.ntmps74
    go_wp2
    go_ret
    exact ⟨by first | rfl | (simp; done) | (simp [*]; done), by repeat (first | exact Drawn0.refl _ | apply Drawn0.step)⟩

end Go.Proofs.YtlhnaplmphdhlaaDoor.Q
end
section
namespace Go.Proofs.YtlhnaplmphdhlaaDoor.Q
open Go.RowKit Go.Proofs.YtlhnaplmphdhlaaDoorW.PrintWords Go.Proofs.YtlhnaplmphdhlaaDoorW.PrintLast Go.Proofs.YtlhnaplmphdhlaaDoorW.PrintMore
set_option linter.unusedVariables false
set_option linter.unusedSimpArgs false

attribute [local go_sem] max2_int min2_int max_two min_two max_three min_three max_four min_four
/-! ### digit_Value: function 75 -/
mutual
def digit_Value.j0 : Nat → Int → Int → Int → Bool → Option (Int × Bool)
  | 0, _, _, _, _ => none
  | k + 1, x0, x1, x6, x7 => if x7 = true then ((digit_fit.f x1).bind fun t76001 => (if t76001 = true then (if ((x0 - 48) % 256) ≥ x1 then (some (0, false)) else (some ((x0 - 48) % 256, true))) else (some (0, false)))) else (if x0 ≥ 97 then (digit_Value.j1 k x0 x1 x6 (decide (x0 ≤ 122))) else (digit_Value.j1 k x0 x1 x6 false))
def digit_Value.j1 : Nat → Int → Int → Int → Bool → Option (Int × Bool)
  | 0, _, _, _, _ => none
  | k + 1, x0, x1, x6, x17 => if x17 = true then ((digit_fit.f x1).bind fun t76002 => (if t76002 = true then (if (((x0 - 97) % 256) + 10) ≥ x1 then (some (0, false)) else (some (((x0 - 97) % 256) + 10, true))) else (some (0, false)))) else (if x0 ≥ 65 then (digit_Value.j2 k x0 x1 x6 (decide (x0 ≤ 90))) else (digit_Value.j2 k x0 x1 x6 false))
def digit_Value.j2 : Nat → Int → Int → Int → Bool → Option (Int × Bool)
  | 0, _, _, _, _ => none
  | k + 1, x0, x1, x6, x28 => if x28 = true then ((digit_fit.f x1).bind fun t76003 => (if t76003 = true then (if (((x0 - 65) % 256) + 10) ≥ x1 then (some (0, false)) else (some (((x0 - 65) % 256) + 10, true))) else (some (0, false)))) else ((digit_fit.f x1).bind fun t76004 => (if t76004 = true then (if x6 ≥ x1 then (some (0, false)) else (some (x6, true))) else (some (0, false))))
end
def digit_Value.f (k : Nat) (a0 : Int) (a1 : Int) : Option (Int × Bool) := if a0 ≥ 48 then (digit_Value.j0 k a0 a1 255 (decide (a0 ≤ 57))) else (digit_Value.j0 k a0 a1 255 false)
set_option maxHeartbeats 8000000 in
set_option maxRecDepth 100000 in
theorem digit_Value.calls (k : Nat) (a0 : Int) (a1 : Int) (r1 : Int) (r2 : Bool) (w : World) (h : digit_Value.f k a0 a1 = some (r1, r2)) :
    Calls Tryd.prog 75 #[.int .u8 a0, .int .u32 a1] w fun e w' => e = .returned (.tuple #[.int .u32 r1, .bool r2]) ∧ Drawn0 w w' := by
  have H : (if a0 ≥ 48 then (digit_Value.j0 k a0 a1 255 (decide (a0 ≤ 57))) else (digit_Value.j0 k a0 a1 255 false)) = some (r1, r2) := h
  clear h
  have HC3 := Aside0.mk H
  clear H
  go_enter Tryd.func75, Tryd.ntmps75
  go_upto_region 2 with (fail)
  go_cut [7] (fun v7 wc => ∃ (kq : Nat) (x7_2 : Bool), v7 = .bool x7_2 ∧ Aside0 (digit_Value.j0 kq a0 a1 255 x7_2 = some (r1, r2)) ∧ Aside0 (kq ≤ k) ∧ Drawn0 w wc)
  case first =>
    have H := HC3.out
    clear HC3
    by_cases c4 : a0 ≥ 48
    · rw [if_pos c4] at H
      have c4b0 : decide (48 ≤ a0) = true := decide_eq_true c4
      clear c4
      (first | rw [c4b0] | (simp only [i64_w, i32_w]; rw [c4b0]) | skip)
      have H' := Aside0.mk H
      clear H
      go_wp2
      go_meet
      case rel => exact ⟨_, (decide (a0 ≤ 57)), (by first | rfl | (simp; done) | (simp [*]; done)), H', ⟨by first | omega | exact Nat.le_refl _⟩, by repeat (first | exact Drawn0.refl _ | apply Drawn0.step)⟩
    · rw [if_neg c4] at H
      have c4b0 : decide (48 ≤ a0) = false := decide_eq_false c4
      clear c4
      (first | rw [c4b0] | (simp only [i64_w, i32_w]; rw [c4b0]) | skip)
      have H' := Aside0.mk H
      clear H
      go_wp2
      go_meet
      case rel => exact ⟨_, (false), (by first | rfl | (simp; done) | (simp [*]; done)), H', ⟨by first | omega | exact Nat.le_refl _⟩, by repeat (first | exact Drawn0.refl _ | apply Drawn0.step)⟩
  case rest =>
    clear HC3
    try clear p2
    try clear c4
    try clear c4b0
    obtain ⟨kq, x7_2, rfl, HA, HJ2, ⟨mc2, rfl⟩⟩ := hcut
    cases kq with
    | zero => exact absurd HA.out (by simp [digit_Value.j0])
    | succ kj2 =>
      have H := HA.out
      clear HA
      simp only [digit_Value.j0] at H
      by_cases c5 : x7_2 = true
      · subst c5
        have H1 : ((digit_fit.f a1).bind fun t76001 => (if t76001 = true then (if ((a0 - 48) % 256) ≥ a1 then (some (0, false)) else (some ((a0 - 48) % 256, true))) else (some (0, false)))) = some (r1, r2) := by rw [if_pos rfl] at H; exact H
        clear H
        have H := H1
        clear H1
        replace H := Option.bind_eq_some_iff.mp H
        obtain ⟨t76001, A60, H⟩ := H
        replace H : (if t76001 = true then (if ((a0 - 48) % 256) ≥ a1 then (some (0, false)) else (some ((a0 - 48) % 256, true))) else (some (0, false))) = some (r1, r2) := H
        have A6 := Aside0.mk A60
        clear A60
        by_cases c7 : t76001 = true
        · subst c7
          have H1 : (if ((a0 - 48) % 256) ≥ a1 then (some (0, false)) else (some ((a0 - 48) % 256, true))) = some (r1, r2) := by rw [if_pos rfl] at H; exact H
          clear H
          have H := H1
          clear H1
          by_cases c8 : ((a0 - 48) % 256) ≥ a1
          · rw [if_pos c8] at H
            have c8b0 : decide (a1 ≤ ((a0 - 48) % 256)) = true := decide_eq_true c8
            clear c8
            simp only [Option.some.injEq, Prod.mk.injEq] at H
            obtain ⟨rfl, rfl⟩ := H
            go_wp2_with (first | ((with_reducible refine gate_callee (f := 74) rfl ?_); refine goesL_ (some 40) rfl rfl Tryd.func74 (by kernel_rfl) rfl #[.int .u32 a1] rfl (by (try simp only [List.map_toArray, List.map_cons, List.map_nil]); first | done | rfl | (simp only [List.length_drop, List.length_take]; rfl)) ?_; (with_reducible refine (digit_fit.calls a1 true _ A6.out).mono ?_); rintro e w' ⟨rfl, ⟨nd, rfl⟩⟩; refine ⟨_, rfl, ?_⟩))
            go_ret2
            exact ⟨by first | rfl | (simp; done) | (simp [*]; done), by repeat (first | exact Drawn0.refl _ | apply Drawn0.step)⟩
          · rw [if_neg c8] at H
            have c8b0 : decide (a1 ≤ ((a0 - 48) % 256)) = false := decide_eq_false c8
            clear c8
            simp only [Option.some.injEq, Prod.mk.injEq] at H
            obtain ⟨rfl, rfl⟩ := H
            go_wp2_with (first | ((with_reducible refine gate_callee (f := 74) rfl ?_); refine goesL_ (some 40) rfl rfl Tryd.func74 (by kernel_rfl) rfl #[.int .u32 a1] rfl (by (try simp only [List.map_toArray, List.map_cons, List.map_nil]); first | done | rfl | (simp only [List.length_drop, List.length_take]; rfl)) ?_; (with_reducible refine (digit_fit.calls a1 true _ A6.out).mono ?_); rintro e w' ⟨rfl, ⟨nd, rfl⟩⟩; refine ⟨_, rfl, ?_⟩))
            go_ret2
            exact ⟨by first | rfl | (simp; done) | (simp [*]; done), by repeat (first | exact Drawn0.refl _ | apply Drawn0.step)⟩
        · replace c7 := Bool.eq_false_iff.mpr c7
          subst c7
          have H1 : (some (0, false)) = some (r1, r2) := by rw [if_neg (show ¬ (false = true) by decide)] at H; exact H
          clear H
          have H := H1
          clear H1
          simp only [Option.some.injEq, Prod.mk.injEq] at H
          obtain ⟨rfl, rfl⟩ := H
          go_wp2_with (first | ((with_reducible refine gate_callee (f := 74) rfl ?_); refine goesL_ (some 40) rfl rfl Tryd.func74 (by kernel_rfl) rfl #[.int .u32 a1] rfl (by (try simp only [List.map_toArray, List.map_cons, List.map_nil]); first | done | rfl | (simp only [List.length_drop, List.length_take]; rfl)) ?_; (with_reducible refine (digit_fit.calls a1 false _ A6.out).mono ?_); rintro e w' ⟨rfl, ⟨nd, rfl⟩⟩; refine ⟨_, rfl, ?_⟩))
          go_ret2
          exact ⟨by first | rfl | (simp; done) | (simp [*]; done), by repeat (first | exact Drawn0.refl _ | apply Drawn0.step)⟩
      · replace c5 := Bool.eq_false_iff.mpr c5
        subst c5
        have H1 : (if a0 ≥ 97 then (digit_Value.j1 kj2 a0 a1 255 (decide (a0 ≤ 122))) else (digit_Value.j1 kj2 a0 a1 255 false)) = some (r1, r2) := by rw [if_neg (show ¬ (false = true) by decide)] at H; exact H
        clear H
        have H := H1
        clear H1
        have HC9 := Aside0.mk H
        clear H
        go_upto_region 4 with (fail)
        go_cut [17] (fun v17 wc => ∃ (kq : Nat) (x17_8 : Bool), v17 = .bool x17_8 ∧ Aside0 (digit_Value.j1 kq a0 a1 255 x17_8 = some (r1, r2)) ∧ Aside0 (kq ≤ kj2) ∧ Drawn0 w wc)
        case first =>
          have H := HC9.out
          clear HC9
          by_cases c10 : a0 ≥ 97
          · rw [if_pos c10] at H
            have c10b0 : decide (97 ≤ a0) = true := decide_eq_true c10
            clear c10
            (first | rw [c10b0] | (simp only [i64_w, i32_w]; rw [c10b0]) | skip)
            have H' := Aside0.mk H
            clear H
            go_wp2
            go_meet
            case rel => exact ⟨_, (decide (a0 ≤ 122)), (by first | rfl | (simp; done) | (simp [*]; done)), H', ⟨by have := HJ2.out; first | omega | exact Nat.le_refl _⟩, by repeat (first | exact Drawn0.refl _ | apply Drawn0.step)⟩
          · rw [if_neg c10] at H
            have c10b0 : decide (97 ≤ a0) = false := decide_eq_false c10
            clear c10
            (first | rw [c10b0] | (simp only [i64_w, i32_w]; rw [c10b0]) | skip)
            have H' := Aside0.mk H
            clear H
            go_wp2
            go_meet
            case rel => exact ⟨_, (false), (by first | rfl | (simp; done) | (simp [*]; done)), H', ⟨by have := HJ2.out; first | omega | exact Nat.le_refl _⟩, by repeat (first | exact Drawn0.refl _ | apply Drawn0.step)⟩
        case rest =>
          clear HC9
          try clear c1
          try clear c2
          try clear p2
          try clear c4
          try clear c4b0
          try clear c5
          try clear c7
          try clear c8
          try clear c8b0
          try clear c10
          try clear c10b0
          try clear p2
          obtain ⟨kq, x17_8, rfl, HA, HJ8, ⟨mc8, rfl⟩⟩ := hcut
          cases kq with
          | zero => exact absurd HA.out (by simp [digit_Value.j1])
          | succ kj8 =>
            have H := HA.out
            clear HA
            simp only [digit_Value.j1] at H
            by_cases c11 : x17_8 = true
            · subst c11
              have H1 : ((digit_fit.f a1).bind fun t76002 => (if t76002 = true then (if (((a0 - 97) % 256) + 10) ≥ a1 then (some (0, false)) else (some (((a0 - 97) % 256) + 10, true))) else (some (0, false)))) = some (r1, r2) := by rw [if_pos rfl] at H; exact H
              clear H
              have H := H1
              clear H1
              replace H := Option.bind_eq_some_iff.mp H
              obtain ⟨t76002, A120, H⟩ := H
              replace H : (if t76002 = true then (if (((a0 - 97) % 256) + 10) ≥ a1 then (some (0, false)) else (some (((a0 - 97) % 256) + 10, true))) else (some (0, false))) = some (r1, r2) := H
              have A12 := Aside0.mk A120
              clear A120
              by_cases c13 : t76002 = true
              · subst c13
                have H1 : (if (((a0 - 97) % 256) + 10) ≥ a1 then (some (0, false)) else (some (((a0 - 97) % 256) + 10, true))) = some (r1, r2) := by rw [if_pos rfl] at H; exact H
                clear H
                have H := H1
                clear H1
                by_cases c14 : (((a0 - 97) % 256) + 10) ≥ a1
                · rw [if_pos c14] at H
                  have c14b0 : decide (a1 ≤ (((a0 - 97) % 256) + 10)) = true := decide_eq_true c14
                  clear c14
                  simp only [Option.some.injEq, Prod.mk.injEq] at H
                  obtain ⟨rfl, rfl⟩ := H
                  go_wp2_with (first | ((with_reducible refine gate_callee (f := 74) rfl ?_); refine goesL_ (some 40) rfl rfl Tryd.func74 (by kernel_rfl) rfl #[.int .u32 a1] rfl (by (try simp only [List.map_toArray, List.map_cons, List.map_nil]); first | done | rfl | (simp only [List.length_drop, List.length_take]; rfl)) ?_; (with_reducible refine (digit_fit.calls a1 true _ A12.out).mono ?_); rintro e w' ⟨rfl, ⟨nd, rfl⟩⟩; refine ⟨_, rfl, ?_⟩))
                  go_ret2
                  exact ⟨by first | rfl | (simp; done) | (simp [*]; done), by repeat (first | exact Drawn0.refl _ | apply Drawn0.step)⟩
                · rw [if_neg c14] at H
                  have c14b0 : decide (a1 ≤ (((a0 - 97) % 256) + 10)) = false := decide_eq_false c14
                  clear c14
                  simp only [Option.some.injEq, Prod.mk.injEq] at H
                  obtain ⟨rfl, rfl⟩ := H
                  go_wp2_with (first | ((with_reducible refine gate_callee (f := 74) rfl ?_); refine goesL_ (some 40) rfl rfl Tryd.func74 (by kernel_rfl) rfl #[.int .u32 a1] rfl (by (try simp only [List.map_toArray, List.map_cons, List.map_nil]); first | done | rfl | (simp only [List.length_drop, List.length_take]; rfl)) ?_; (with_reducible refine (digit_fit.calls a1 true _ A12.out).mono ?_); rintro e w' ⟨rfl, ⟨nd, rfl⟩⟩; refine ⟨_, rfl, ?_⟩))
                  go_ret2
                  exact ⟨by first | rfl | (simp; done) | (simp [*]; done), by repeat (first | exact Drawn0.refl _ | apply Drawn0.step)⟩
              · replace c13 := Bool.eq_false_iff.mpr c13
                subst c13
                have H1 : (some (0, false)) = some (r1, r2) := by rw [if_neg (show ¬ (false = true) by decide)] at H; exact H
                clear H
                have H := H1
                clear H1
                simp only [Option.some.injEq, Prod.mk.injEq] at H
                obtain ⟨rfl, rfl⟩ := H
                go_wp2_with (first | ((with_reducible refine gate_callee (f := 74) rfl ?_); refine goesL_ (some 40) rfl rfl Tryd.func74 (by kernel_rfl) rfl #[.int .u32 a1] rfl (by (try simp only [List.map_toArray, List.map_cons, List.map_nil]); first | done | rfl | (simp only [List.length_drop, List.length_take]; rfl)) ?_; (with_reducible refine (digit_fit.calls a1 false _ A12.out).mono ?_); rintro e w' ⟨rfl, ⟨nd, rfl⟩⟩; refine ⟨_, rfl, ?_⟩))
                go_ret2
                exact ⟨by first | rfl | (simp; done) | (simp [*]; done), by repeat (first | exact Drawn0.refl _ | apply Drawn0.step)⟩
            · replace c11 := Bool.eq_false_iff.mpr c11
              subst c11
              have H1 : (if a0 ≥ 65 then (digit_Value.j2 kj8 a0 a1 255 (decide (a0 ≤ 90))) else (digit_Value.j2 kj8 a0 a1 255 false)) = some (r1, r2) := by rw [if_neg (show ¬ (false = true) by decide)] at H; exact H
              clear H
              have H := H1
              clear H1
              have HC15 := Aside0.mk H
              clear H
              go_upto_region 6 with (fail)
              go_cut [28] (fun v28 wc => ∃ (kq : Nat) (x28_14 : Bool), v28 = .bool x28_14 ∧ Aside0 (digit_Value.j2 kq a0 a1 255 x28_14 = some (r1, r2)) ∧ Aside0 (kq ≤ kj8) ∧ Drawn0 w wc)
              case first =>
                have H := HC15.out
                clear HC15
                by_cases c16 : a0 ≥ 65
                · rw [if_pos c16] at H
                  have c16b0 : decide (65 ≤ a0) = true := decide_eq_true c16
                  clear c16
                  (first | rw [c16b0] | (simp only [i64_w, i32_w]; rw [c16b0]) | skip)
                  have H' := Aside0.mk H
                  clear H
                  go_wp2
                  go_meet
                  case rel => exact ⟨_, (decide (a0 ≤ 90)), (by first | rfl | (simp; done) | (simp [*]; done)), H', ⟨by have := HJ2.out; have := HJ8.out; first | omega | exact Nat.le_refl _⟩, by repeat (first | exact Drawn0.refl _ | apply Drawn0.step)⟩
                · rw [if_neg c16] at H
                  have c16b0 : decide (65 ≤ a0) = false := decide_eq_false c16
                  clear c16
                  (first | rw [c16b0] | (simp only [i64_w, i32_w]; rw [c16b0]) | skip)
                  have H' := Aside0.mk H
                  clear H
                  go_wp2
                  go_meet
                  case rel => exact ⟨_, (false), (by first | rfl | (simp; done) | (simp [*]; done)), H', ⟨by have := HJ2.out; have := HJ8.out; first | omega | exact Nat.le_refl _⟩, by repeat (first | exact Drawn0.refl _ | apply Drawn0.step)⟩
              case rest =>
                clear HC15
                try clear c1
                try clear c2
                try clear p2
                try clear c4
                try clear c4b0
                try clear c5
                try clear c7
                try clear c8
                try clear c8b0
                try clear c10
                try clear c10b0
                try clear c11
                try clear c13
                try clear c14
                try clear c14b0
                try clear c16
                try clear c16b0
                try clear p2
                obtain ⟨kq, x28_14, rfl, HA, HJ14, ⟨mc14, rfl⟩⟩ := hcut
                cases kq with
                | zero => exact absurd HA.out (by simp [digit_Value.j2])
                | succ kj14 =>
                  have H := HA.out
                  clear HA
                  simp only [digit_Value.j2] at H
                  by_cases c17 : x28_14 = true
                  · subst c17
                    have H1 : ((digit_fit.f a1).bind fun t76003 => (if t76003 = true then (if (((a0 - 65) % 256) + 10) ≥ a1 then (some (0, false)) else (some (((a0 - 65) % 256) + 10, true))) else (some (0, false)))) = some (r1, r2) := by rw [if_pos rfl] at H; exact H
                    clear H
                    have H := H1
                    clear H1
                    replace H := Option.bind_eq_some_iff.mp H
                    obtain ⟨t76003, A180, H⟩ := H
                    replace H : (if t76003 = true then (if (((a0 - 65) % 256) + 10) ≥ a1 then (some (0, false)) else (some (((a0 - 65) % 256) + 10, true))) else (some (0, false))) = some (r1, r2) := H
                    have A18 := Aside0.mk A180
                    clear A180
                    by_cases c19 : t76003 = true
                    · subst c19
                      have H1 : (if (((a0 - 65) % 256) + 10) ≥ a1 then (some (0, false)) else (some (((a0 - 65) % 256) + 10, true))) = some (r1, r2) := by rw [if_pos rfl] at H; exact H
                      clear H
                      have H := H1
                      clear H1
                      by_cases c20 : (((a0 - 65) % 256) + 10) ≥ a1
                      · rw [if_pos c20] at H
                        have c20b0 : decide (a1 ≤ (((a0 - 65) % 256) + 10)) = true := decide_eq_true c20
                        clear c20
                        simp only [Option.some.injEq, Prod.mk.injEq] at H
                        obtain ⟨rfl, rfl⟩ := H
                        go_wp2_with (first | ((with_reducible refine gate_callee (f := 74) rfl ?_); refine goesL_ (some 40) rfl rfl Tryd.func74 (by kernel_rfl) rfl #[.int .u32 a1] rfl (by (try simp only [List.map_toArray, List.map_cons, List.map_nil]); first | done | rfl | (simp only [List.length_drop, List.length_take]; rfl)) ?_; (with_reducible refine (digit_fit.calls a1 true _ A18.out).mono ?_); rintro e w' ⟨rfl, ⟨nd, rfl⟩⟩; refine ⟨_, rfl, ?_⟩))
                        go_ret2
                        exact ⟨by first | rfl | (simp; done) | (simp [*]; done), by repeat (first | exact Drawn0.refl _ | apply Drawn0.step)⟩
                      · rw [if_neg c20] at H
                        have c20b0 : decide (a1 ≤ (((a0 - 65) % 256) + 10)) = false := decide_eq_false c20
                        clear c20
                        simp only [Option.some.injEq, Prod.mk.injEq] at H
                        obtain ⟨rfl, rfl⟩ := H
                        go_wp2_with (first | ((with_reducible refine gate_callee (f := 74) rfl ?_); refine goesL_ (some 40) rfl rfl Tryd.func74 (by kernel_rfl) rfl #[.int .u32 a1] rfl (by (try simp only [List.map_toArray, List.map_cons, List.map_nil]); first | done | rfl | (simp only [List.length_drop, List.length_take]; rfl)) ?_; (with_reducible refine (digit_fit.calls a1 true _ A18.out).mono ?_); rintro e w' ⟨rfl, ⟨nd, rfl⟩⟩; refine ⟨_, rfl, ?_⟩))
                        go_ret2
                        exact ⟨by first | rfl | (simp; done) | (simp [*]; done), by repeat (first | exact Drawn0.refl _ | apply Drawn0.step)⟩
                    · replace c19 := Bool.eq_false_iff.mpr c19
                      subst c19
                      have H1 : (some (0, false)) = some (r1, r2) := by rw [if_neg (show ¬ (false = true) by decide)] at H; exact H
                      clear H
                      have H := H1
                      clear H1
                      simp only [Option.some.injEq, Prod.mk.injEq] at H
                      obtain ⟨rfl, rfl⟩ := H
                      go_wp2_with (first | ((with_reducible refine gate_callee (f := 74) rfl ?_); refine goesL_ (some 40) rfl rfl Tryd.func74 (by kernel_rfl) rfl #[.int .u32 a1] rfl (by (try simp only [List.map_toArray, List.map_cons, List.map_nil]); first | done | rfl | (simp only [List.length_drop, List.length_take]; rfl)) ?_; (with_reducible refine (digit_fit.calls a1 false _ A18.out).mono ?_); rintro e w' ⟨rfl, ⟨nd, rfl⟩⟩; refine ⟨_, rfl, ?_⟩))
                      go_ret2
                      exact ⟨by first | rfl | (simp; done) | (simp [*]; done), by repeat (first | exact Drawn0.refl _ | apply Drawn0.step)⟩
                  · replace c17 := Bool.eq_false_iff.mpr c17
                    subst c17
                    have H1 : ((digit_fit.f a1).bind fun t76004 => (if t76004 = true then (if 255 ≥ a1 then (some (0, false)) else (some (255, true))) else (some (0, false)))) = some (r1, r2) := by rw [if_neg (show ¬ (false = true) by decide)] at H; exact H
                    clear H
                    have H := H1
                    clear H1
                    replace H := Option.bind_eq_some_iff.mp H
                    obtain ⟨t76004, A210, H⟩ := H
                    replace H : (if t76004 = true then (if 255 ≥ a1 then (some (0, false)) else (some (255, true))) else (some (0, false))) = some (r1, r2) := H
                    have A21 := Aside0.mk A210
                    clear A210
                    by_cases c22 : t76004 = true
                    · subst c22
                      have H1 : (if 255 ≥ a1 then (some (0, false)) else (some (255, true))) = some (r1, r2) := by rw [if_pos rfl] at H; exact H
                      clear H
                      have H := H1
                      clear H1
                      by_cases c23 : 255 ≥ a1
                      · rw [if_pos c23] at H
                        have c23b0 : decide (a1 ≤ 255) = true := decide_eq_true c23
                        clear c23
                        simp only [Option.some.injEq, Prod.mk.injEq] at H
                        obtain ⟨rfl, rfl⟩ := H
                        go_wp2_with (first | ((with_reducible refine gate_callee (f := 74) rfl ?_); refine goesL_ (some 40) rfl rfl Tryd.func74 (by kernel_rfl) rfl #[.int .u32 a1] rfl (by (try simp only [List.map_toArray, List.map_cons, List.map_nil]); first | done | rfl | (simp only [List.length_drop, List.length_take]; rfl)) ?_; (with_reducible refine (digit_fit.calls a1 true _ A21.out).mono ?_); rintro e w' ⟨rfl, ⟨nd, rfl⟩⟩; refine ⟨_, rfl, ?_⟩))
                        go_ret2
                        exact ⟨by first | rfl | (simp; done) | (simp [*]; done), by repeat (first | exact Drawn0.refl _ | apply Drawn0.step)⟩
                      · rw [if_neg c23] at H
                        have c23b0 : decide (a1 ≤ 255) = false := decide_eq_false c23
                        clear c23
                        simp only [Option.some.injEq, Prod.mk.injEq] at H
                        obtain ⟨rfl, rfl⟩ := H
                        go_wp2_with (first | ((with_reducible refine gate_callee (f := 74) rfl ?_); refine goesL_ (some 40) rfl rfl Tryd.func74 (by kernel_rfl) rfl #[.int .u32 a1] rfl (by (try simp only [List.map_toArray, List.map_cons, List.map_nil]); first | done | rfl | (simp only [List.length_drop, List.length_take]; rfl)) ?_; (with_reducible refine (digit_fit.calls a1 true _ A21.out).mono ?_); rintro e w' ⟨rfl, ⟨nd, rfl⟩⟩; refine ⟨_, rfl, ?_⟩))
                        go_ret2
                        exact ⟨by first | rfl | (simp; done) | (simp [*]; done), by repeat (first | exact Drawn0.refl _ | apply Drawn0.step)⟩
                    · replace c22 := Bool.eq_false_iff.mpr c22
                      subst c22
                      have H1 : (some (0, false)) = some (r1, r2) := by rw [if_neg (show ¬ (false = true) by decide)] at H; exact H
                      clear H
                      have H := H1
                      clear H1
                      simp only [Option.some.injEq, Prod.mk.injEq] at H
                      obtain ⟨rfl, rfl⟩ := H
                      go_wp2_with (first | ((with_reducible refine gate_callee (f := 74) rfl ?_); refine goesL_ (some 40) rfl rfl Tryd.func74 (by kernel_rfl) rfl #[.int .u32 a1] rfl (by (try simp only [List.map_toArray, List.map_cons, List.map_nil]); first | done | rfl | (simp only [List.length_drop, List.length_take]; rfl)) ?_; (with_reducible refine (digit_fit.calls a1 false _ A21.out).mono ?_); rintro e w' ⟨rfl, ⟨nd, rfl⟩⟩; refine ⟨_, rfl, ?_⟩))
                      go_ret2
                      exact ⟨by first | rfl | (simp; done) | (simp [*]; done), by repeat (first | exact Drawn0.refl _ | apply Drawn0.step)⟩

end Go.Proofs.YtlhnaplmphdhlaaDoor.Q
end
section
namespace Go.Proofs.YtlhnaplmphdhlaaDoor.Q
open Go.RowKit Go.Proofs.YtlhnaplmphdhlaaDoorW.PrintWords Go.Proofs.YtlhnaplmphdhlaaDoorW.PrintLast Go.Proofs.YtlhnaplmphdhlaaDoorW.PrintMore
set_option linter.unusedVariables false
set_option linter.unusedSimpArgs false

attribute [local go_sem] max2_int min2_int max_two min_two max_three min_three max_four min_four
/-! ### stringslite_HasPrefix: function 97 -/
def stringslite_HasPrefix.f (a0 : ByteArray) (a1 : ByteArray) : Option (Bool) := if (a0.size : Int) ≥ (a1.size : Int) then (if 0 ≤ (a1.size : Int) then (if (a1.size : Int) ≤ (a0.size : Int) then (some ((a0.extract 0 ((a1.size : Int) : Int).toNat).toList == a1.toList)) else (none)) else (none)) else (some false)
set_option maxHeartbeats 8000000 in
set_option maxRecDepth 100000 in
theorem stringslite_HasPrefix.calls (a0 : ByteArray) (a1 : ByteArray) (r : Bool) (w : World) (h : stringslite_HasPrefix.f a0 a1 = some r) :
    Calls Tryd.prog 97 #[.string a0, .string a1] w fun e w' => e = .returned (.bool r) ∧ Drawn0 w w' := by
  have H : (if (a0.size : Int) ≥ (a1.size : Int) then (if 0 ≤ (a1.size : Int) then (if (a1.size : Int) ≤ (a0.size : Int) then (some ((a0.extract 0 ((a1.size : Int) : Int).toNat).toList == a1.toList)) else (none)) else (none)) else (some false)) = some r := h
  clear h
  by_cases c3 : (a0.size : Int) ≥ (a1.size : Int)
  · rw [if_pos c3] at H
    have c3b0 : decide ((a1.size : Int) ≤ (a0.size : Int)) = true := decide_eq_true c3
    have c3b1 : decide (a1.size ≤ a0.size) = true := decide_eq_true (Int.ofNat_le.mp c3)
    clear c3
    by_cases c4 : 0 ≤ (a1.size : Int)
    · rw [if_pos c4] at H
      have c4b0 := eq_true c4
      have c4b1 : decide (0 ≤ (a1.size : Int)) = true := decide_eq_true c4
      clear c4
      by_cases c5 : (a1.size : Int) ≤ (a0.size : Int)
      · rw [if_pos c5] at H
        have c5b0 := eq_true c5
        have c5b1 : decide ((a1.size : Int) ≤ (a0.size : Int)) = true := decide_eq_true c5
        clear c5
        obtain rfl := Option.some.inj H
        go_enter Tryd.func97, Tryd.ntmps97
        go_wp2
        go_ret
        exact ⟨by first | rfl | (simp; done) | (simp [*]; done), by repeat (first | exact Drawn0.refl _ | apply Drawn0.step)⟩
      · rw [if_neg c5] at H
        exact absurd H (by simp)
    · rw [if_neg c4] at H
      exact absurd H (by simp)
  · rw [if_neg c3] at H
    have c3b0 : decide ((a1.size : Int) ≤ (a0.size : Int)) = false := decide_eq_false c3
    have c3b1 : decide (a1.size ≤ a0.size) = false := decide_eq_false (fun h => c3 (Int.ofNat_le.mpr h))
    clear c3
    obtain rfl := Option.some.inj H
    go_enter Tryd.func97, Tryd.ntmps97
    go_wp2
    go_ret
    exact ⟨by first | rfl | (simp; done) | (simp [*]; done), by repeat (first | exact Drawn0.refl _ | apply Drawn0.step)⟩

end Go.Proofs.YtlhnaplmphdhlaaDoor.Q
end
section
namespace Go.Proofs.YtlhnaplmphdhlaaDoor.Q
open Go.RowKit Go.Proofs.YtlhnaplmphdhlaaDoorW.PrintWords Go.Proofs.YtlhnaplmphdhlaaDoorW.PrintLast Go.Proofs.YtlhnaplmphdhlaaDoorW.PrintMore
set_option linter.unusedVariables false
set_option linter.unusedSimpArgs false

attribute [local go_sem] max2_int min2_int max_two min_two max_three min_three max_four min_four
/-! ### stringslite_CutPrefix: function 79 -/
def stringslite_CutPrefix.f (a0 : ByteArray) (a1 : ByteArray) : Option (ByteArray × Bool) := (stringslite_HasPrefix.f a0 a1).bind fun t80001 => (if t80001 = true then (if 0 ≤ (a1.size : Int) then (if (a1.size : Int) ≤ (a0.size : Int) then (some (a0.extract ((a1.size : Int) : Int).toNat a0.size, true)) else (none)) else (none)) else (some (a0, false)))
set_option maxHeartbeats 8000000 in
set_option maxRecDepth 100000 in
theorem stringslite_CutPrefix.calls (a0 : ByteArray) (a1 : ByteArray) (r1 : ByteArray) (r2 : Bool) (w : World) (h : stringslite_CutPrefix.f a0 a1 = some (r1, r2)) :
    Calls Tryd.prog 79 #[.string a0, .string a1] w fun e w' => e = .returned (.tuple #[.string r1, .bool r2]) ∧ Drawn0 w w' := by
  have H : ((stringslite_HasPrefix.f a0 a1).bind fun t80001 => (if t80001 = true then (if 0 ≤ (a1.size : Int) then (if (a1.size : Int) ≤ (a0.size : Int) then (some (a0.extract ((a1.size : Int) : Int).toNat a0.size, true)) else (none)) else (none)) else (some (a0, false)))) = some (r1, r2) := h
  clear h
  replace H := Option.bind_eq_some_iff.mp H
  obtain ⟨t80001, A30, H⟩ := H
  replace H : (if t80001 = true then (if 0 ≤ (a1.size : Int) then (if (a1.size : Int) ≤ (a0.size : Int) then (some (a0.extract ((a1.size : Int) : Int).toNat a0.size, true)) else (none)) else (none)) else (some (a0, false))) = some (r1, r2) := H
  have A3 := Aside0.mk A30
  clear A30
  by_cases c4 : t80001 = true
  · subst c4
    have H1 : (if 0 ≤ (a1.size : Int) then (if (a1.size : Int) ≤ (a0.size : Int) then (some (a0.extract ((a1.size : Int) : Int).toNat a0.size, true)) else (none)) else (none)) = some (r1, r2) := by rw [if_pos rfl] at H; exact H
    clear H
    have H := H1
    clear H1
    by_cases c5 : 0 ≤ (a1.size : Int)
    · rw [if_pos c5] at H
      have c5b0 := eq_true c5
      have c5b1 : decide (0 ≤ (a1.size : Int)) = true := decide_eq_true c5
      clear c5
      by_cases c6 : (a1.size : Int) ≤ (a0.size : Int)
      · rw [if_pos c6] at H
        have c6b0 := eq_true c6
        have c6b1 : decide ((a1.size : Int) ≤ (a0.size : Int)) = true := decide_eq_true c6
        clear c6
        simp only [Option.some.injEq, Prod.mk.injEq] at H
        obtain ⟨rfl, rfl⟩ := H
        go_enter Tryd.func79, Tryd.ntmps79
        go_wp2_with (first | ((with_reducible refine gate_callee (f := 97) rfl ?_); refine goesL_ (some 8) rfl rfl Tryd.func97 (by kernel_rfl) rfl #[.string a0, .string a1] rfl (by (try simp only [List.map_toArray, List.map_cons, List.map_nil]); first | done | rfl | (simp only [List.length_drop, List.length_take]; rfl)) ?_; (with_reducible refine (stringslite_HasPrefix.calls a0 a1 true _ A3.out).mono ?_); rintro e w' ⟨rfl, ⟨nd, rfl⟩⟩; refine ⟨_, rfl, ?_⟩))
        go_ret2
        exact ⟨by first | rfl | (simp; done) | (simp [*]; done), by repeat (first | exact Drawn0.refl _ | apply Drawn0.step)⟩
      · rw [if_neg c6] at H
        exact absurd H (by simp)
    · rw [if_neg c5] at H
      exact absurd H (by simp)
  · replace c4 := Bool.eq_false_iff.mpr c4
    subst c4
    have H1 : (some (a0, false)) = some (r1, r2) := by rw [if_neg (show ¬ (false = true) by decide)] at H; exact H
    clear H
    have H := H1
    clear H1
    simp only [Option.some.injEq, Prod.mk.injEq] at H
    obtain ⟨rfl, rfl⟩ := H
    go_enter Tryd.func79, Tryd.ntmps79
    go_wp2_with (first | ((with_reducible refine gate_callee (f := 97) rfl ?_); refine goesL_ (some 8) rfl rfl Tryd.func97 (by kernel_rfl) rfl #[.string a0, .string a1] rfl (by (try simp only [List.map_toArray, List.map_cons, List.map_nil]); first | done | rfl | (simp only [List.length_drop, List.length_take]; rfl)) ?_; (with_reducible refine (stringslite_HasPrefix.calls a0 a1 false _ A3.out).mono ?_); rintro e w' ⟨rfl, ⟨nd, rfl⟩⟩; refine ⟨_, rfl, ?_⟩))
    go_ret2
    exact ⟨by first | rfl | (simp; done) | (simp [*]; done), by repeat (first | exact Drawn0.refl _ | apply Drawn0.step)⟩

end Go.Proofs.YtlhnaplmphdhlaaDoor.Q
end
section
namespace Go.Proofs.YtlhnaplmphdhlaaDoor.Q
open Go.RowKit Go.Proofs.YtlhnaplmphdhlaaDoorW.PrintWords Go.Proofs.YtlhnaplmphdhlaaDoorW.PrintLast Go.Proofs.YtlhnaplmphdhlaaDoorW.PrintMore
set_option linter.unusedVariables false
set_option linter.unusedSimpArgs false

attribute [local go_sem] max2_int min2_int max_two min_two max_three min_three max_four min_four
/-! ### strings_CutPrefix: function 59 -/
def strings_CutPrefix.f (a0 : ByteArray) (a1 : ByteArray) : Option (ByteArray × Bool) := (stringslite_CutPrefix.f a0 a1).bind fun bt60001 => (some (bt60001.1, bt60001.2))
set_option maxHeartbeats 8000000 in
set_option maxRecDepth 100000 in
theorem strings_CutPrefix.calls (a0 : ByteArray) (a1 : ByteArray) (r1 : ByteArray) (r2 : Bool) (w : World) (h : strings_CutPrefix.f a0 a1 = some (r1, r2)) :
    Calls Tryd.prog 59 #[.string a0, .string a1] w fun e w' => e = .returned (.tuple #[.string r1, .bool r2]) ∧ Drawn0 w w' := by
  have H : ((stringslite_CutPrefix.f a0 a1).bind fun bt60001 => (some (bt60001.1, bt60001.2))) = some (r1, r2) := h
  clear h
  replace H := Option.bind_eq_some_iff.mp H
  obtain ⟨⟨t60001, t60002⟩, A30, H⟩ := H
  replace H : (some (t60001, t60002)) = some (r1, r2) := H
  have A3 := Aside0.mk A30
  clear A30
  simp only [Option.some.injEq, Prod.mk.injEq] at H
  obtain ⟨rfl, rfl⟩ := H
  go_enter Tryd.func59, Tryd.ntmps59
  go_wp2_with (first | ((with_reducible refine gate_callee (f := 79) rfl ?_); refine goesL_ (some 8) rfl rfl Tryd.func79 (by kernel_rfl) rfl #[.string a0, .string a1] rfl (by (try simp only [List.map_toArray, List.map_cons, List.map_nil]); first | done | rfl | (simp only [List.length_drop, List.length_take]; rfl)) ?_; (with_reducible refine (stringslite_CutPrefix.calls a0 a1 t60001 t60002 _ A3.out).mono ?_); rintro e w' ⟨rfl, ⟨nd, rfl⟩⟩; refine ⟨_, rfl, ?_⟩))
  go_ret2
  exact ⟨by first | rfl | (simp; done) | (simp [*]; done), by repeat (first | exact Drawn0.refl _ | apply Drawn0.step)⟩

end Go.Proofs.YtlhnaplmphdhlaaDoor.Q
end
section
namespace Go.Proofs.YtlhnaplmphdhlaaDoor.Q
open Go.RowKit Go.Proofs.YtlhnaplmphdhlaaDoorW.PrintWords Go.Proofs.YtlhnaplmphdhlaaDoorW.PrintLast Go.Proofs.YtlhnaplmphdhlaaDoorW.PrintMore
set_option linter.unusedVariables false
set_option linter.unusedSimpArgs false

attribute [local go_sem] max2_int min2_int max_two min_two max_three min_three max_four min_four
/-! ### digit_Parse: function 54 -/
def digit_Parse.l0 : Nat → Int → ByteArray → Bool → Int → Int → Int → Int → Option (Int × Int)
  | 0, _, _, _, _, _, _, _ => none
  | k + 1, x1, x6, x7, x8, x9, x24, x25 => if x25 < x24 then (if 0 ≤ x25 then (if x25 < (x6.size : Int) then ((digit_Value.f k (bt x6 x25) x1).bind fun bt55004 => (if bt55004.2 = true then (if (IntKind.u64.wrap ((IntKind.u64.wrap (x8 * (IntKind.u64.wrap (x1)))) + (IntKind.u64.wrap (bt55004.1)))) > 4294967295 then (digit_Parse.l0 k x1 x6 x7 4294967296 4 x24 (wrap64 (x25 + 1))) else (digit_Parse.l0 k x1 x6 x7 (IntKind.u64.wrap ((IntKind.u64.wrap (x8 * (IntKind.u64.wrap (x1)))) + (IntKind.u64.wrap (bt55004.1)))) x9 x24 (wrap64 (x25 + 1)))) else (some (0, 15)))) else (none)) else (none)) else (if x9 = 0 then (if x7 = true then (some ((IntKind.u64.wrap (-x8)) % 4294967296, 0)) else (some ((x8) % 4294967296, 0))) else (some (0, x9)))
def digit_Parse.f (k : Nat) (a0 : ByteArray) (a1 : Int) : Option (Int × Int) := (digit_fit.f a1).bind fun t55001 => (if t55001 = true then ((strings_CutPrefix.f a0 (⟨#[45]⟩ : ByteArray)).bind fun bt55002 => (if bt55002.1.toList = ([] : List UInt8) then (some (0, 15)) else (digit_Parse.l0 k a1 bt55002.1 bt55002.2 0 0 (bt55002.1.size : Int) 0))) else (some (0, 1)))
set_option maxHeartbeats 8000000 in
set_option maxRecDepth 100000 in
theorem digit_Parse.calls (k : Nat) (a0 : ByteArray) (a1 : Int) (r1 : Int) (r2 : Int) (w : World) (h : digit_Parse.f k a0 a1 = some (r1, r2)) :
    Calls Tryd.prog 54 #[.string a0, .int .u32 a1] w fun e w' => e = .returned (.tuple #[.int .u32 r1, .int .i64 r2]) ∧ Drawn0 w w' := by
  have H : ((digit_fit.f a1).bind fun t55001 => (if t55001 = true then ((strings_CutPrefix.f a0 (⟨#[45]⟩ : ByteArray)).bind fun bt55002 => (if bt55002.1.toList = ([] : List UInt8) then (some (0, 15)) else (digit_Parse.l0 k a1 bt55002.1 bt55002.2 0 0 (bt55002.1.size : Int) 0))) else (some (0, 1)))) = some (r1, r2) := h
  clear h
  replace H := Option.bind_eq_some_iff.mp H
  obtain ⟨t55001, A30, H⟩ := H
  replace H : (if t55001 = true then ((strings_CutPrefix.f a0 (⟨#[45]⟩ : ByteArray)).bind fun bt55002 => (if bt55002.1.toList = ([] : List UInt8) then (some (0, 15)) else (digit_Parse.l0 k a1 bt55002.1 bt55002.2 0 0 (bt55002.1.size : Int) 0))) else (some (0, 1))) = some (r1, r2) := H
  have A3 := Aside0.mk A30
  clear A30
  by_cases c4 : t55001 = true
  · subst c4
    have H1 : ((strings_CutPrefix.f a0 (⟨#[45]⟩ : ByteArray)).bind fun bt55002 => (if bt55002.1.toList = ([] : List UInt8) then (some (0, 15)) else (digit_Parse.l0 k a1 bt55002.1 bt55002.2 0 0 (bt55002.1.size : Int) 0))) = some (r1, r2) := by rw [if_pos rfl] at H; exact H
    clear H
    have H := H1
    clear H1
    replace H := Option.bind_eq_some_iff.mp H
    obtain ⟨⟨t55002, t55003⟩, A50, H⟩ := H
    replace H : (if t55002.toList = ([] : List UInt8) then (some (0, 15)) else (digit_Parse.l0 k a1 t55002 t55003 0 0 (t55002.size : Int) 0)) = some (r1, r2) := H
    have A5 := Aside0.mk A50
    clear A50
    by_cases c6 : t55002.toList = ([] : List UInt8)
    · rw [if_pos c6] at H
      have c6b0 : (t55002.toList == ([] : List UInt8)) = true := beq_iff_eq.mpr c6
      have c6b1 : (t55002.toList != ([] : List UInt8)) = false := bne_eq_false_iff_eq.mpr c6
      clear c6
      simp only [Option.some.injEq, Prod.mk.injEq] at H
      obtain ⟨rfl, rfl⟩ := H
      go_enter Tryd.func54, Tryd.ntmps54
      go_wp2_with (first | ((with_reducible refine gate_callee (f := 74) rfl ?_); refine goesL_ (some 14) rfl rfl Tryd.func74 (by kernel_rfl) rfl #[.int .u32 a1] rfl (by (try simp only [List.map_toArray, List.map_cons, List.map_nil]); first | done | rfl | (simp only [List.length_drop, List.length_take]; rfl)) ?_; (with_reducible refine (digit_fit.calls a1 true _ A3.out).mono ?_); rintro e w' ⟨rfl, ⟨nd, rfl⟩⟩; refine ⟨_, rfl, ?_⟩) | ((with_reducible refine gate_callee (f := 59) rfl ?_); refine goesL_ (some 18) rfl rfl Tryd.func59 (by kernel_rfl) rfl #[.string a0, .string (⟨#[45]⟩ : ByteArray)] rfl (by (try simp only [List.map_toArray, List.map_cons, List.map_nil]); first | done | rfl | (simp only [List.length_drop, List.length_take]; rfl)) ?_; (with_reducible refine (strings_CutPrefix.calls a0 (⟨#[45]⟩ : ByteArray) t55002 t55003 _ A5.out).mono ?_); rintro e w' ⟨rfl, ⟨nd, rfl⟩⟩; refine ⟨_, rfl, ?_⟩))
      go_ret2
      exact ⟨by first | rfl | (simp; done) | (simp [*]; done), by repeat (first | exact Drawn0.refl _ | apply Drawn0.step)⟩
    · rw [if_neg c6] at H
      have c6b0 : (t55002.toList == ([] : List UInt8)) = false := beq_eq_false_iff_ne.mpr c6
      have c6b1 : (t55002.toList != ([] : List UInt8)) = true := bne_iff_ne.mpr c6
      have H' := Aside0.mk H
      clear H
      go_enter Tryd.func54, Tryd.ntmps54
      go_wp2_with (first | ((with_reducible refine gate_callee (f := 74) rfl ?_); refine goesL_ (some 14) rfl rfl Tryd.func74 (by kernel_rfl) rfl #[.int .u32 a1] rfl (by (try simp only [List.map_toArray, List.map_cons, List.map_nil]); first | done | rfl | (simp only [List.length_drop, List.length_take]; rfl)) ?_; (with_reducible refine (digit_fit.calls a1 true _ A3.out).mono ?_); rintro e w' ⟨rfl, ⟨nd, rfl⟩⟩; refine ⟨_, rfl, ?_⟩) | ((with_reducible refine gate_callee (f := 59) rfl ?_); refine goesL_ (some 18) rfl rfl Tryd.func59 (by kernel_rfl) rfl #[.string a0, .string (⟨#[45]⟩ : ByteArray)] rfl (by (try simp only [List.map_toArray, List.map_cons, List.map_nil]); first | done | rfl | (simp only [List.length_drop, List.length_take]; rfl)) ?_; (with_reducible refine (strings_CutPrefix.calls a0 (⟨#[45]⟩ : ByteArray) t55002 t55003 _ A5.out).mono ?_); rintro e w' ⟨rfl, ⟨nd, rfl⟩⟩; refine ⟨_, rfl, ?_⟩))
      go_loopg [8, 9, 25] k (fun kq v8 v9 v25 w' => ∃ (x8_1 : Int) (x9_1 : Int) (x25_1 : Int), v8 = .int .u64 x8_1 ∧ v9 = .int .i64 x9_1 ∧ v25 = .int .i64 x25_1 ∧ Aside0 (digit_Parse.l0 kq a1 t55002 t55003 x8_1 x9_1 (t55002.size : Int) x25_1 = some (r1, r2)) ∧ Aside0 (kq ≤ k) ∧ Drawn0 w w')
      case atStart => exact ⟨(0), (0), (0), (by first | rfl | (simp; done) | (simp [*]; done)), (by first | rfl | (simp; done) | (simp [*]; done)), (by first | rfl | (simp; done) | (simp [*]; done)), H', ⟨Nat.le_refl _⟩, by repeat (first | exact Drawn0.refl _ | apply Drawn0.step)⟩
      case round =>
        clear H'
        try clear p2
        try clear c4
        try clear c5
        try clear c6
        try clear c6b0
        try clear c6b1
        obtain ⟨x8_1, x9_1, x25_1, rfl, rfl, rfl, HA, HK1, ⟨m1, rfl⟩⟩ := hrel
        cases gk with
        | zero => exact absurd HA.out (by simp [digit_Parse.l0])
        | succ k1 =>
          have H := HA.out
          clear HA
          simp only [digit_Parse.l0] at H
          by_cases c7 : x25_1 < (t55002.size : Int)
          · rw [if_pos c7] at H
            have c7b0 : decide (x25_1 < (t55002.size : Int)) = true := decide_eq_true c7
            clear c7
            by_cases c8 : 0 ≤ x25_1
            · rw [if_pos c8] at H
              have c8b0 : decide (0 ≤ x25_1) = true := decide_eq_true c8
              clear c8
              by_cases c9 : x25_1 < (t55002.size : Int)
              · rw [if_pos c9] at H
                have c9b0 : decide (x25_1 < (t55002.size : Int)) = true := decide_eq_true c9
                clear c9
                replace H := Option.bind_eq_some_iff.mp H
                obtain ⟨⟨t55004, t55005⟩, A110, H⟩ := H
                replace H : (if t55005 = true then (if (IntKind.u64.wrap ((IntKind.u64.wrap (x8_1 * (IntKind.u64.wrap (a1)))) + (IntKind.u64.wrap (t55004)))) > 4294967295 then (digit_Parse.l0 k1 a1 t55002 t55003 4294967296 4 (t55002.size : Int) (wrap64 (x25_1 + 1))) else (digit_Parse.l0 k1 a1 t55002 t55003 (IntKind.u64.wrap ((IntKind.u64.wrap (x8_1 * (IntKind.u64.wrap (a1)))) + (IntKind.u64.wrap (t55004)))) x9_1 (t55002.size : Int) (wrap64 (x25_1 + 1)))) else (some (0, 15))) = some (r1, r2) := H
                have A11 := Aside0.mk A110
                clear A110
                by_cases c12 : t55005 = true
                · subst c12
                  have H1 : (if (IntKind.u64.wrap ((IntKind.u64.wrap (x8_1 * (IntKind.u64.wrap (a1)))) + (IntKind.u64.wrap (t55004)))) > 4294967295 then (digit_Parse.l0 k1 a1 t55002 t55003 4294967296 4 (t55002.size : Int) (wrap64 (x25_1 + 1))) else (digit_Parse.l0 k1 a1 t55002 t55003 (IntKind.u64.wrap ((IntKind.u64.wrap (x8_1 * (IntKind.u64.wrap (a1)))) + (IntKind.u64.wrap (t55004)))) x9_1 (t55002.size : Int) (wrap64 (x25_1 + 1)))) = some (r1, r2) := by rw [if_pos rfl] at H; exact H
                  clear H
                  have H := H1
                  clear H1
                  by_cases c13 : (IntKind.u64.wrap ((IntKind.u64.wrap (x8_1 * (IntKind.u64.wrap (a1)))) + (IntKind.u64.wrap (t55004)))) > 4294967295
                  · rw [if_pos c13] at H
                    have c13b0 : decide (4294967295 < (IntKind.u64.wrap ((IntKind.u64.wrap (x8_1 * (IntKind.u64.wrap (a1)))) + (IntKind.u64.wrap (t55004))))) = true := decide_eq_true c13
                    clear c13
                    have H' := Aside0.mk H
                    clear H
                    have p10 : 0 ≤ (x25_1 : Int) := of_decide_eq_true (by first | (with_reducible assumption) | assumption)
                    have q10 : x25_1 < (t55002.size : Int) := of_decide_eq_true (by first | (with_reducible assumption) | assumption)
                    have hx10 := bt_at t55002 x25_1
                    replace p10 := eq_true p10
                    replace q10 := eq_true q10
                    go_wp2_with (first | ((with_reducible refine gate_callee (f := 75) rfl ?_); refine goesL_ (some 33) rfl rfl Tryd.func75 (by kernel_rfl) rfl #[.int .u8 (bt t55002 x25_1), .int .u32 a1] rfl (by (try simp only [List.map_toArray, List.map_cons, List.map_nil]); first | done | rfl | (simp only [List.length_drop, List.length_take]; rfl)) ?_; (with_reducible refine (digit_Value.calls k1 (bt t55002 x25_1) a1 t55004 true _ A11.out).mono ?_); rintro e w' ⟨rfl, ⟨nd, rfl⟩⟩; refine ⟨_, rfl, ?_⟩))
                    go_roundg k1
                    case measure => have := HK1.out; omega
                    case rel => exact ⟨(4294967296), (4), (wrap64 (x25_1 + 1)), (by first | rfl | (simp; done) | (simp [*]; done)), (by first | rfl | (simp; done) | (simp [*]; done)), (by first | rfl | (simp; done) | (simp [*]; done)), H', ⟨by have := HK1.out; omega⟩, by repeat (first | exact Drawn0.refl _ | apply Drawn0.step)⟩
                  · rw [if_neg c13] at H
                    have c13b0 : decide (4294967295 < (IntKind.u64.wrap ((IntKind.u64.wrap (x8_1 * (IntKind.u64.wrap (a1)))) + (IntKind.u64.wrap (t55004))))) = false := decide_eq_false c13
                    clear c13
                    have H' := Aside0.mk H
                    clear H
                    have p10 : 0 ≤ (x25_1 : Int) := of_decide_eq_true (by first | (with_reducible assumption) | assumption)
                    have q10 : x25_1 < (t55002.size : Int) := of_decide_eq_true (by first | (with_reducible assumption) | assumption)
                    have hx10 := bt_at t55002 x25_1
                    replace p10 := eq_true p10
                    replace q10 := eq_true q10
                    go_wp2_with (first | ((with_reducible refine gate_callee (f := 75) rfl ?_); refine goesL_ (some 33) rfl rfl Tryd.func75 (by kernel_rfl) rfl #[.int .u8 (bt t55002 x25_1), .int .u32 a1] rfl (by (try simp only [List.map_toArray, List.map_cons, List.map_nil]); first | done | rfl | (simp only [List.length_drop, List.length_take]; rfl)) ?_; (with_reducible refine (digit_Value.calls k1 (bt t55002 x25_1) a1 t55004 true _ A11.out).mono ?_); rintro e w' ⟨rfl, ⟨nd, rfl⟩⟩; refine ⟨_, rfl, ?_⟩))
                    go_roundg k1
                    case measure => have := HK1.out; omega
                    case rel => exact ⟨(IntKind.u64.wrap ((IntKind.u64.wrap (x8_1 * (IntKind.u64.wrap (a1)))) + (IntKind.u64.wrap (t55004)))), (x9_1), (wrap64 (x25_1 + 1)), (by first | rfl | (simp; done) | (simp [*]; done)), (by first | rfl | (simp; done) | (simp [*]; done)), (by first | rfl | (simp; done) | (simp [*]; done)), H', ⟨by have := HK1.out; omega⟩, by repeat (first | exact Drawn0.refl _ | apply Drawn0.step)⟩
                · replace c12 := Bool.eq_false_iff.mpr c12
                  subst c12
                  have H1 : (some (0, 15)) = some (r1, r2) := by rw [if_neg (show ¬ (false = true) by decide)] at H; exact H
                  clear H
                  have H := H1
                  clear H1
                  simp only [Option.some.injEq, Prod.mk.injEq] at H
                  obtain ⟨rfl, rfl⟩ := H
                  have p10 : 0 ≤ (x25_1 : Int) := of_decide_eq_true (by first | (with_reducible assumption) | assumption)
                  have q10 : x25_1 < (t55002.size : Int) := of_decide_eq_true (by first | (with_reducible assumption) | assumption)
                  have hx10 := bt_at t55002 x25_1
                  replace p10 := eq_true p10
                  replace q10 := eq_true q10
                  go_wp2_with (first | ((with_reducible refine gate_callee (f := 75) rfl ?_); refine goesL_ (some 33) rfl rfl Tryd.func75 (by kernel_rfl) rfl #[.int .u8 (bt t55002 x25_1), .int .u32 a1] rfl (by (try simp only [List.map_toArray, List.map_cons, List.map_nil]); first | done | rfl | (simp only [List.length_drop, List.length_take]; rfl)) ?_; (with_reducible refine (digit_Value.calls k1 (bt t55002 x25_1) a1 t55004 false _ A11.out).mono ?_); rintro e w' ⟨rfl, ⟨nd, rfl⟩⟩; refine ⟨_, rfl, ?_⟩))
                  go_ret2
                  exact ⟨by first | rfl | (simp; done) | (simp [*]; done), by repeat (first | exact Drawn0.refl _ | apply Drawn0.step)⟩
              · rw [if_neg c9] at H
                exact absurd H (by simp)
            · rw [if_neg c8] at H
              exact absurd H (by simp)
          · rw [if_neg c7] at H
            have c7b0 : decide (x25_1 < (t55002.size : Int)) = false := decide_eq_false c7
            clear c7
            by_cases c14 : x9_1 = 0
            · rw [if_pos c14] at H
              have c14b0 : (x9_1 == 0) = true := beq_iff_eq.mpr c14
              have c14b1 : (x9_1 != 0) = false := bne_eq_false_iff_eq.mpr c14
              clear c14
              by_cases c15 : t55003 = true
              · subst c15
                have H1 : (some ((IntKind.u64.wrap (-x8_1)) % 4294967296, 0)) = some (r1, r2) := by rw [if_pos rfl] at H; exact H
                clear H
                have H := H1
                clear H1
                simp only [Option.some.injEq, Prod.mk.injEq] at H
                obtain ⟨rfl, rfl⟩ := H
                go_wp2
                go_ret2
                exact ⟨by first | rfl | (simp; done) | (simp [*]; done), by repeat (first | exact Drawn0.refl _ | apply Drawn0.step)⟩
              · replace c15 := Bool.eq_false_iff.mpr c15
                subst c15
                have H1 : (some ((x8_1) % 4294967296, 0)) = some (r1, r2) := by rw [if_neg (show ¬ (false = true) by decide)] at H; exact H
                clear H
                have H := H1
                clear H1
                simp only [Option.some.injEq, Prod.mk.injEq] at H
                obtain ⟨rfl, rfl⟩ := H
                go_wp2
                go_ret2
                exact ⟨by first | rfl | (simp; done) | (simp [*]; done), by repeat (first | exact Drawn0.refl _ | apply Drawn0.step)⟩
            · rw [if_neg c14] at H
              have c14b0 : (x9_1 == 0) = false := beq_eq_false_iff_ne.mpr c14
              have c14b1 : (x9_1 != 0) = true := bne_iff_ne.mpr c14
              simp only [Option.some.injEq, Prod.mk.injEq] at H
              obtain ⟨rfl, rfl⟩ := H
              go_wp2
              go_ret2
              exact ⟨by first | rfl | (simp; done) | (simp [*]; done), by repeat (first | exact Drawn0.refl _ | apply Drawn0.step)⟩
  · replace c4 := Bool.eq_false_iff.mpr c4
    subst c4
    have H1 : (some (0, 1)) = some (r1, r2) := by rw [if_neg (show ¬ (false = true) by decide)] at H; exact H
    clear H
    have H := H1
    clear H1
    simp only [Option.some.injEq, Prod.mk.injEq] at H
    obtain ⟨rfl, rfl⟩ := H
    go_enter Tryd.func54, Tryd.ntmps54
    go_wp2_with (first | ((with_reducible refine gate_callee (f := 74) rfl ?_); refine goesL_ (some 14) rfl rfl Tryd.func74 (by kernel_rfl) rfl #[.int .u32 a1] rfl (by (try simp only [List.map_toArray, List.map_cons, List.map_nil]); first | done | rfl | (simp only [List.length_drop, List.length_take]; rfl)) ?_; (with_reducible refine (digit_fit.calls a1 false _ A3.out).mono ?_); rintro e w' ⟨rfl, ⟨nd, rfl⟩⟩; refine ⟨_, rfl, ?_⟩))
    go_ret2
    exact ⟨by first | rfl | (simp; done) | (simp [*]; done), by repeat (first | exact Drawn0.refl _ | apply Drawn0.step)⟩

end Go.Proofs.YtlhnaplmphdhlaaDoor.Q
end
section
namespace Go.Proofs.YtlhnaplmphdhlaaDoor.Q
open Go.RowKit Go.Proofs.YtlhnaplmphdhlaaDoorW.PrintWords Go.Proofs.YtlhnaplmphdhlaaDoorW.PrintLast Go.Proofs.YtlhnaplmphdhlaaDoorW.PrintMore
set_option linter.unusedVariables false
set_option linter.unusedSimpArgs false

attribute [local go_sem] max2_int min2_int max_two min_two max_three min_three max_four min_four
/-! ### tinderref02_Small: function 94 -/
def tinderref02_Small.f (a0 : Int) : Option (Int) := if a0 ≥ 65 then (if a0 ≤ 90 then (some ((a0 + 32) % 256)) else (some a0)) else (some a0)

end Go.Proofs.YtlhnaplmphdhlaaDoor.Q
end
section
namespace Go.Proofs.YtlhnaplmphdhlaaDoor.Q
open Go.RowKit Go.Proofs.YtlhnaplmphdhlaaDoorW.PrintWords Go.Proofs.YtlhnaplmphdhlaaDoorW.PrintLast Go.Proofs.YtlhnaplmphdhlaaDoorW.PrintMore
set_option linter.unusedVariables false
set_option linter.unusedSimpArgs false

attribute [local go_sem] max2_int min2_int max_two min_two max_three min_three max_four min_four
/-! ### tinderref02_Value: function 76 -/
mutual
def tinderref02_Value.j0 : Nat → Int → Int → Bool → Option (Int × Bool)
  | 0, _, _, _ => none
  | k + 1, x0, x1, x12 => if x12 = true then (some (0, false)) else (tinderref02_Value.l0 k x0 x1 0)
def tinderref02_Value.l0 : Nat → Int → Int → Int → Option (Int × Bool)
  | 0, _, _, _ => none
  | k + 1, x0, x1, x6 => if x6 < (wrap64 (x1)) then (if 0 ≤ x6 then (if x6 < 36 then ((tinderref02_Small.f x0).bind fun t77001 => (if (bt (⟨#[48, 49, 50, 51, 52, 53, 54, 55, 56, 57, 97, 98, 99, 100, 101, 102, 103, 104, 105, 106, 107, 108, 109, 110, 111, 112, 113, 114, 115, 116, 117, 118, 119, 120, 121, 122]⟩ : ByteArray) x6) = t77001 then (some ((x6) % 4294967296, true)) else (tinderref02_Value.l0 k x0 x1 (wrap64 (x6 + 1))))) else (none)) else (none)) else (some (0, false))
end
def tinderref02_Value.f (k : Nat) (a0 : Int) (a1 : Int) : Option (Int × Bool) := if a1 < 2 then (tinderref02_Value.j0 k a0 a1 true) else (tinderref02_Value.j0 k a0 a1 (decide (a1 > 36)))

end Go.Proofs.YtlhnaplmphdhlaaDoor.Q
end
section
namespace Go.Proofs.YtlhnaplmphdhlaaDoor.Q
open Go.RowKit Go.Proofs.YtlhnaplmphdhlaaDoorW.PrintWords Go.Proofs.YtlhnaplmphdhlaaDoorW.PrintLast Go.Proofs.YtlhnaplmphdhlaaDoorW.PrintMore
set_option linter.unusedVariables false
set_option linter.unusedSimpArgs false

attribute [local go_sem] max2_int min2_int max_two min_two max_three min_three max_four min_four
/-! ### tinderref02_Parse: function 55 -/
mutual
def tinderref02_Parse.j0 : Nat → ByteArray → Int → Bool → Option (Int × Int)
  | 0, _, _, _ => none
  | k + 1, x0, x1, x17 => if x17 = true then (some (0, 1)) else (if (x0.size : Int) > 0 then (if 0 < (x0.size : Int) then (tinderref02_Parse.j1 k x0 x1 ((bt x0 0) == 45)) else (none)) else (tinderref02_Parse.j1 k x0 x1 false))
def tinderref02_Parse.j1 : Nat → ByteArray → Int → Bool → Option (Int × Int)
  | 0, _, _, _ => none
  | k + 1, x0, x1, x6 => if x6 = true then (if 1 ≤ (x0.size : Int) then (tinderref02_Parse.j2 k (x0.extract 1 x0.size) x1 x6) else (none)) else (tinderref02_Parse.j2 k x0 x1 x6)
def tinderref02_Parse.j2 : Nat → ByteArray → Int → Bool → Option (Int × Int)
  | 0, _, _, _ => none
  | k + 1, x0, x1, x6 => if (x0.size : Int) = 0 then (some (0, 15)) else (tinderref02_Parse.l0 k x0 x1 x6 0 false 0)
def tinderref02_Parse.l0 : Nat → ByteArray → Int → Bool → Int → Bool → Int → Option (Int × Int)
  | 0, _, _, _, _, _, _ => none
  | k + 1, x0, x1, x6, x7, x8, x9 => if x9 < (x0.size : Int) then (if 0 ≤ x9 then ((tinderref02_Value.f k (bt x0 x9) x1).bind fun bt56001 => (if bt56001.2 = true then (if x8 = true then (tinderref02_Parse.l0 k x0 x1 x6 x7 x8 (wrap64 (x9 + 1))) else (tinderref02_Parse.l0 k x0 x1 x6 (IntKind.u64.wrap ((IntKind.u64.wrap (x7 * (IntKind.u64.wrap (x1)))) + (IntKind.u64.wrap (bt56001.1)))) (decide ((IntKind.u64.wrap ((IntKind.u64.wrap (x7 * (IntKind.u64.wrap (x1)))) + (IntKind.u64.wrap (bt56001.1)))) ≥ 4294967296)) (wrap64 (x9 + 1)))) else (some (0, 15)))) else (none)) else (if x8 = true then (some (0, 4)) else (if x6 = true then (some ((Int.tmod (IntKind.u64.wrap (4294967296 - x7)) 4294967296) % 4294967296, 0)) else (some ((x7) % 4294967296, 0))))
end
def tinderref02_Parse.f (k : Nat) (a0 : ByteArray) (a1 : Int) : Option (Int × Int) := if a1 < 2 then (tinderref02_Parse.j0 k a0 a1 true) else (tinderref02_Parse.j0 k a0 a1 (decide (a1 > 36)))

end Go.Proofs.YtlhnaplmphdhlaaDoor.Q
end
section
namespace Go.Proofs.YtlhnaplmphdhlaaDoor.Q
open Go.RowKit Go.Proofs.YtlhnaplmphdhlaaDoorW.PrintWords Go.Proofs.YtlhnaplmphdhlaaDoorW.PrintLast
/-- The place of a byte among all digits; 255: none. -/
def numF (c : Int) : Int := if 48 ≤ c ∧ c ≤ 57 then c - 48 else if 97 ≤ c ∧ c ≤ 122 then c - 87 else if 65 ≤ c ∧ c ≤ 90 then c - 55 else 255
def valF (c b : Int) : Int × Bool := if 2 ≤ b ∧ b ≤ 36 ∧ numF c < b then (numF c, true) else (0, false)
theorem numF_range (c : Int) : 0 ≤ numF c ∧ numF c ≤ 255 := by unfold numF; split; omega; split; omega; split <;> omega
theorem fit_eq (b : Int) : digit_fit.f b = some (decide (2 ≤ b ∧ b ≤ 36)) := by
  unfold digit_fit.f
  by_cases h1 : b ≥ 2
  · rw [if_pos h1, Option.some.injEq, decide_eq_decide]
    omega
  · rw [if_neg h1, Option.some.injEq, eq_comm, decide_eq_false_iff_not]
    omega
theorem value_end (b v : Int) : ((digit_fit.f b).bind fun t => (if t = true then (if v ≥ b then some ((0 : Int), false) else some (v, true)) else some (0, false))) = some (if 2 ≤ b ∧ b ≤ 36 ∧ v < b then (v, true) else (0, false)) := by
  rw [fit_eq, Option.bind_some]
  by_cases h : 2 ≤ b ∧ b ≤ 36
  · rw [if_pos (by simpa using h)]
    by_cases h2 : v ≥ b
    · rw [if_pos h2, if_neg (by omega)]
    · rw [if_neg h2, if_pos (by omega)]
  · rw [if_neg (by simpa using h), if_neg (by omega)]
theorem digit_Value_eq (k : Nat) (c b : Int) (hc : 0 ≤ c ∧ c < 256) : digit_Value.f (k + 3) c b = some (valF c b) := by
  have hj2 : ∀ k, digit_Value.j2 (k + 1) c b 255 (decide (65 ≤ c ∧ c ≤ 90)) = some (if 2 ≤ b ∧ b ≤ 36 ∧ (if 65 ≤ c ∧ c ≤ 90 then c - 55 else 255) < b then (if 65 ≤ c ∧ c ≤ 90 then c - 55 else 255, true) else (0, false)) := by
    intro k
    rw [digit_Value.j2]
    by_cases h : 65 ≤ c ∧ c ≤ 90
    · rw [if_pos (by simpa using h), if_pos h, show (c - 65) % 256 + 10 = c - 55 by omega]
      exact value_end b (c - 55)
    · rw [if_neg (by simpa using h), if_neg h]
      exact value_end b 255
  have hj1 : ∀ k, digit_Value.j1 (k + 2) c b 255 (decide (97 ≤ c ∧ c ≤ 122)) = some (if 2 ≤ b ∧ b ≤ 36 ∧ (if 97 ≤ c ∧ c ≤ 122 then c - 87 else if 65 ≤ c ∧ c ≤ 90 then c - 55 else 255) < b then (if 97 ≤ c ∧ c ≤ 122 then c - 87 else if 65 ≤ c ∧ c ≤ 90 then c - 55 else 255, true) else (0, false)) := by
    intro k
    rw [digit_Value.j1]
    by_cases h : 97 ≤ c ∧ c ≤ 122
    · rw [if_pos (by simpa using h), if_pos h, show (c - 97) % 256 + 10 = c - 87 by omega]
      exact value_end b (c - 87)
    · rw [if_neg (by simpa using h), if_neg h]
      by_cases h2 : c ≥ 65
      · rw [if_pos h2, ← hj2 k]
        congr 1
        simp [h2]
      · rw [if_neg h2, ← hj2 k]
        congr 1
        simp
        omega
  unfold digit_Value.f valF numF
  have hj0 : digit_Value.j0 (k + 3) c b 255 (decide (48 ≤ c ∧ c ≤ 57)) = some (if 2 ≤ b ∧ b ≤ 36 ∧ (if 48 ≤ c ∧ c ≤ 57 then c - 48 else if 97 ≤ c ∧ c ≤ 122 then c - 87 else if 65 ≤ c ∧ c ≤ 90 then c - 55 else 255) < b then (if 48 ≤ c ∧ c ≤ 57 then c - 48 else if 97 ≤ c ∧ c ≤ 122 then c - 87 else if 65 ≤ c ∧ c ≤ 90 then c - 55 else 255, true) else (0, false)) := by
    rw [digit_Value.j0]
    by_cases h : 48 ≤ c ∧ c ≤ 57
    · rw [if_pos (by simpa using h), if_pos h, show (c - 48) % 256 = c - 48 by omega]
      exact value_end b (c - 48)
    · rw [if_neg (by simpa using h), if_neg h]
      by_cases h2 : c ≥ 97
      · rw [if_pos h2, ← hj1 k]
        congr 1
        simp [h2]
      · rw [if_neg h2, ← hj1 k]
        congr 1
        simp
        omega
  by_cases h : c ≥ 48
  · rw [if_pos h, ← hj0]
    congr 1
    simp [h]
  · rw [if_neg h, ← hj0]
    congr 1
    simp
    omega
def smallF (c : Int) : Int := if 65 ≤ c ∧ c ≤ 90 then c + 32 else c
def digitsB : ByteArray := ⟨#[48, 49, 50, 51, 52, 53, 54, 55, 56, 57, 97, 98, 99, 100, 101, 102, 103, 104, 105, 106, 107, 108, 109, 110, 111, 112, 113, 114, 115, 116, 117, 118, 119, 120, 121, 122]⟩
theorem digits_all : ((List.range 36).all fun (j : Nat) => bt digitsB (j : Int) == if j < 10 then (j : Int) + 48 else (j : Int) + 87) = true := by kernel_rfl
theorem digits_at (i : Int) (h : 0 ≤ i ∧ i < 36) : bt digitsB i = if i < 10 then i + 48 else i + 87 := by
  have := List.all_eq_true.1 digits_all i.toNat (List.mem_range.2 (by omega))
  rw [beq_iff_eq] at this
  rw [show ((i.toNat : Nat) : Int) = i by omega] at this
  rw [this]
  by_cases h1 : i < 10
  · rw [if_pos h1, if_pos (by omega)]
  · rw [if_neg h1, if_neg (by omega)]
/-- A text's digits as a number; the mark: it is too great; none: a byte is no digit. -/
def parL (b : Int) : List Int → Int → Bool → Option (Int × Bool)
  | [], n, g => some (n, g)
  | c :: l, n, g => if (valF c b).2 = true then (if g = true then parL b l n true else parL b l (n * b + (valF c b).1) (decide (n * b + (valF c b).1 ≥ 4294967296))) else none
def resF (neg : Bool) : Option (Int × Bool) → Int × Int
  | none => (0, 15)
  | some (n, g) => if g = true then (0, 4) else (if neg = true then ((4294967296 - n) % 4294967296, 0) else (n, 0))
theorem parL_nil (b n : Int) (g : Bool) : parL b [] n g = some (n, g) := rfl
theorem parL_cons (b c : Int) (l : List Int) (n : Int) (g : Bool) : parL b (c :: l) n g = if (valF c b).2 = true then (if g = true then parL b l n true else parL b l (n * b + (valF c b).1) (decide (n * b + (valF c b).1 ≥ 4294967296))) else none := rfl
theorem resF_t (neg : Bool) (n : Int) : resF neg (some (n, true)) = (0, 4) := rfl
theorem resF_pos (n : Int) : resF false (some (n, false)) = (n, 0) := rfl
theorem resF_neg (n : Int) : resF true (some (n, false)) = ((4294967296 - n) % 4294967296, 0) := rfl
theorem val_range (c b : Int) : 0 ≤ (valF c b).1 ∧ (valF c b).1 < 36 := by
  have := numF_range c
  unfold valF
  split
  · dsimp only; omega
  · decide
theorem bytes_at (s : ByteArray) (i : Int) (h0 : 0 ≤ i) (h1 : i < s.size) : (bytesOf s).drop i.toNat = bt s i :: (bytesOf s).drop (i + 1).toNat := by
  have hl : i.toNat < (bytesOf s).length := by rw [bytesOf_length]; omega
  rw [List.drop_eq_getElem_cons hl, show (i + 1).toNat = i.toNat + 1 by omega, ← rd_bytesOf]
  simp [rd, List.getD_eq_getElem?_getD, List.getElem?_eq_getElem hl]
theorem wrap_u64_id (n : Int) (h0 : 0 ≤ n) (h1 : n < 18446744073709551616) : IntKind.u64.wrap n = n := by rw [IntKind.wrap_u64]; omega
theorem mulb (n b v : Int) (h0 : 0 ≤ n) (h1 : n ≤ 4294967296) (hb : 2 ≤ b ∧ b ≤ 36) (hv : 0 ≤ v ∧ v < 36) : 0 ≤ n * b ∧ n * b ≤ 154618822656 ∧ IntKind.u64.wrap (IntKind.u64.wrap (n * IntKind.u64.wrap b) + IntKind.u64.wrap v) = n * b + v := by
  have e1 : n * b ≤ 4294967296 * 36 := Int.mul_le_mul h1 hb.2 (by omega) (by omega)
  have e0 : 0 ≤ n * b := Int.mul_nonneg h0 (by omega)
  refine ⟨e0, by omega, ?_⟩
  rw [wrap_u64_id b (by omega) (by omega), wrap_u64_id (n * b) e0 (by omega), wrap_u64_id v (by omega) (by omega), wrap_u64_id _ (by omega) (by omega)]
theorem parse_go (b : Int) (hb : 2 ≤ b ∧ b ≤ 36) (s : ByteArray) (neg : Bool) (hs : s.size ≤ 9223372036854775806) (d : Nat) : ∀ (k : Nat) (i n m e : Int) (g : Bool), 0 ≤ i → i + d = s.size → d + 10 < k → ((g = false ∧ e = 0 ∧ n = m ∧ 0 ≤ n ∧ n < 4294967296) ∨ (g = true ∧ e = 4 ∧ n = 4294967296)) →
    digit_Parse.l0 k b s neg n e (s.size : Int) i = some (resF neg (parL b ((bytesOf s).drop i.toNat) m g)) := by
  induction d with
  | zero =>
    intro k i n m e g h0 h1 hk hst
    obtain ⟨k, rfl⟩ : ∃ k', k = k' + 1 := ⟨k - 1, by omega⟩
    rw [digit_Parse.l0, if_neg (by omega), List.drop_eq_nil_of_le (by rw [bytesOf_length]; omega)]
    rw [parL_nil]
    rcases hst with ⟨rfl, rfl, rfl, h2, h3⟩ | ⟨rfl, rfl, rfl⟩
    · rw [if_pos rfl]
      cases neg
      · rw [if_neg Bool.false_ne_true, resF_pos, Int.emod_eq_of_lt h2 h3]
      · rw [if_pos rfl, resF_neg, IntKind.wrap_u64, Option.some.injEq, Prod.mk.injEq]
        exact ⟨by omega, rfl⟩
    · rw [if_neg (by decide), resF_t]
  | succ d ih =>
    intro k i n m e g h0 h1 hk hst
    obtain ⟨k, rfl⟩ : ∃ k', k = k' + 1 := ⟨k - 1, by omega⟩
    obtain ⟨k3, hk3⟩ : ∃ k', k = k' + 3 := ⟨k - 3, by omega⟩
    have hv := val_range (bt s i) b
    have hbt := bt_range s i
    rw [digit_Parse.l0, if_pos (by omega), if_pos h0, if_pos (by omega), hk3, digit_Value_eq k3 _ b ⟨hbt.1, by omega⟩, ← hk3, Option.bind_some, bytes_at s i h0 (by omega), show wrap64 (i + 1) = i + 1 by unfold wrap64; omega]
    rw [parL_cons]
    obtain ⟨v, hve⟩ : ∃ v, v = (valF (bt s i) b).1 := ⟨_, rfl⟩
    rw [← hve] at hv ⊢
    cases hd : (valF (bt s i) b).2
    · rw [if_neg Bool.false_ne_true, if_neg Bool.false_ne_true]
      rfl
    · rw [if_pos rfl, if_pos rfl]
      rcases hst with ⟨rfl, rfl, rfl, h2, h3⟩ | ⟨rfl, rfl, rfl⟩
      · obtain ⟨m0, m1, m2⟩ := mulb n b v h2 (by omega) hb hv
        rw [m2, if_neg Bool.false_ne_true]
        by_cases hg : n * b + v > 4294967295
        · rw [if_pos hg, decide_eq_true (show n * b + v ≥ 4294967296 by omega)]
          exact ih k (i + 1) _ _ _ _ (by omega) (by omega) (by omega) (.inr ⟨rfl, rfl, rfl⟩)
        · rw [if_neg hg, decide_eq_false (show ¬ n * b + v ≥ 4294967296 by omega)]
          exact ih k (i + 1) _ _ _ _ (by omega) (by omega) (by omega) (.inl ⟨rfl, rfl, rfl, by omega, by omega⟩)
      · obtain ⟨m0, m1, m2⟩ := mulb 4294967296 b v (by omega) (by omega) hb hv
        rw [m2, if_pos (by omega), if_pos rfl]
        exact ih k (i + 1) _ _ _ _ (by omega) (by omega) (by omega) (.inr ⟨rfl, rfl, rfl⟩)
/-- A text as a number in a base. -/
def parF (s : ByteArray) (b : Int) : Int × Int :=
  if 2 ≤ b ∧ b ≤ 36 then
    (if 0 < s.size ∧ bt s 0 = 45 then (if s.size = 1 then (0, 15) else resF true (parL b (bytesOf (s.extract 1 s.size)) 0 false))
     else (if s.size = 0 then (0, 15) else resF false (parL b (bytesOf s) 0 false)))
  else (0, 1)
theorem extract_size (s : ByteArray) : (s.extract 1 s.size).size = s.size - 1 := by rw [ByteArray.size_extract]; omega
theorem minus_iff (s : ByteArray) (h : 1 ≤ s.size) : ((s.extract 0 1).toList == (⟨#[45]⟩ : ByteArray).toList) = decide (bt s 0 = 45) := by
  rw [ByteArray.toList_eq, ByteArray.toList_eq, Go.Lib.extract_data, List.drop_zero]
  have hl : 0 < s.data.toList.length := by rw [data_length]; omega
  have hb : bt s 0 = ((s.data.toList[0]'hl).toNat : Int) := by
    rw [← rd_bytesOf]
    simp [rd, bytesOf, List.getD_eq_getElem?_getD, List.getElem?_eq_getElem hl]
  rw [hb]
  match hx : s.data.toList, hl with
  | a :: t, _ =>
    show ([a] == [45]) = decide ((a.toNat : Int) = 45)
    rw [Bool.eq_iff_iff, beq_iff_eq, decide_eq_true_iff, List.cons.injEq, and_iff_left rfl]
    constructor
    · intro h; rw [h]; rfl
    · intro h
      refine UInt8.toNat_inj.1 ?_
      show a.toNat = 45
      omega
theorem cutprefix_eq (s : ByteArray) : strings_CutPrefix.f s (⟨#[45]⟩ : ByteArray) = some (if 0 < s.size ∧ bt s 0 = 45 then (s.extract 1 s.size, true) else (s, false)) := by
  unfold strings_CutPrefix.f stringslite_CutPrefix.f stringslite_HasPrefix.f
  have h1 : (((⟨#[45]⟩ : ByteArray).size : Nat) : Int) = 1 := rfl
  rw [h1]
  by_cases hs : 1 ≤ s.size
  · rw [if_pos (by omega), if_pos (by omega), if_pos (by omega), Option.bind_some, show ((1 : Int)).toNat = 1 from rfl, minus_iff s hs]
    by_cases hb : bt s 0 = 45
    · rw [if_pos (by simpa using hb), if_pos (by omega), if_pos (by omega), Option.bind_some, if_pos ⟨by omega, hb⟩]
    · rw [if_neg (by simpa using hb), Option.bind_some, if_neg (fun h => hb h.2)]
  · rw [if_neg (by omega), Option.bind_some, if_neg (by decide), Option.bind_some, if_neg (by omega)]
theorem empty_iff (s : ByteArray) : s.toList = ([] : List UInt8) ↔ s.size = 0 := by
  rw [ByteArray.toList_eq, ← List.length_eq_zero_iff, data_length]
theorem parse_eq (k : Nat) (s : ByteArray) (b : Int) (hs : s.size ≤ 9223372036854775806) (hk : s.size + 20 < k) : digit_Parse.f k s b = some (parF s b) := by
  unfold digit_Parse.f parF
  rw [fit_eq, Option.bind_some]
  by_cases hb : 2 ≤ b ∧ b ≤ 36
  · rw [if_pos (by simpa using hb), if_pos hb, cutprefix_eq, Option.bind_some]
    by_cases hm : 0 < s.size ∧ bt s 0 = 45
    · have hx := extract_size s
      rw [if_pos hm, if_pos hm]
      dsimp only
      by_cases h1 : s.size = 1
      · rw [if_pos ((empty_iff _).2 (by omega)), if_pos h1]
      · rw [if_neg (fun h => h1 (by have := (empty_iff _).1 h; omega)), if_neg h1]
        exact parse_go b hb _ true (by omega) _ k 0 0 0 0 false (by omega) (by simp; rfl) (by omega) (.inl ⟨rfl, rfl, rfl, by omega, by omega⟩)
    · rw [if_neg hm, if_neg hm]
      dsimp only
      by_cases h1 : s.size = 0
      · rw [if_pos ((empty_iff _).2 h1), if_pos h1]
      · rw [if_neg (fun h => h1 ((empty_iff _).1 h)), if_neg h1]
        exact parse_go b hb _ false (by omega) _ k 0 0 0 0 false (by omega) (by simp; rfl) (by omega) (.inl ⟨rfl, rfl, rfl, by omega, by omega⟩)
  · rw [if_neg (by simpa using hb), if_neg hb]
end Go.Proofs.YtlhnaplmphdhlaaDoor.Q
end
section
namespace Go.Proofs.YtlhnaplmphdhlaaDoor.Q
open Go.RowKit Go.Proofs.YtlhnaplmphdhlaaDoorW.PrintWords Go.Proofs.YtlhnaplmphdhlaaDoorW.PrintLast Go.Proofs.YtlhnaplmphdhlaaDoorW.PrintMore
def chN (v : Nat) : Nat := if v < 10 then 48 + v else 87 + v
def showL (b u : Nat) : List UInt8 := if _h : u < b ∨ b < 2 then [UInt8.ofNat (chN u)] else showL b (u / b) ++ [UInt8.ofNat (chN (u % b))]
termination_by u
decreasing_by exact Nat.div_lt_self (by omega) (by omega)
theorem showL_small {b u : Nat} (h : u < b) : showL b u = [UInt8.ofNat (chN u)] := by rw [showL, dif_pos (.inl h)]
theorem showL_big {b u : Nat} (hb : 2 ≤ b) (h : b ≤ u) : showL b u = showL b (u / b) ++ [UInt8.ofNat (chN (u % b))] := by rw [showL, dif_neg (by omega)]
theorem showL_len (b : Nat) (hb : 2 ≤ b) (k : Nat) : ∀ u : Nat, u < 2 ^ (k + 1) → (showL b u).length ≤ k + 1 := by
  induction k with
  | zero =>
    intro u hu
    rw [showL_small (by omega)]
    simp
  | succ k ih =>
    intro u hu
    by_cases h : u < b
    · rw [showL_small h]; simp
    · rw [showL_big hb (by omega), List.length_append]
      have h1 : u / b ≤ u / 2 := Nat.div_le_div_left hb (by omega)
      have h2 : u / 2 < 2 ^ (k + 1) := by
        rw [Nat.pow_succ] at hu
        omega
      have := ih (u / b) (by omega)
      simp
      omega
theorem showL_pos (b u : Nat) : 1 ≤ (showL b u).length := by
  rw [showL]
  split
  · simp
  · rw [List.length_append]; simp
theorem showL_one {b u : Nat} (hb : 2 ≤ b) (h : (showL b u).length = 1) : u < b := by
  rcases Nat.lt_or_ge u b with h1 | h1
  · exact h1
  · rw [showL_big hb h1, List.length_append] at h
    have := showL_pos b (u / b)
    rw [List.length_singleton] at h
    omega
theorem showL_more {b u k : Nat} (hb : 2 ≤ b) (h : (showL b u).length = k + 1 + 1) : b ≤ u ∧ (showL b (u / b)).length = k + 1 := by
  rcases Nat.lt_or_ge u b with h1 | h1
  · rw [showL_small h1] at h
    simp at h
  · refine ⟨h1, ?_⟩
    rw [showL_big hb h1, List.length_append] at h
    simpa using h
def showI (b u : Int) : List Int := (showL b.toNat u.toNat).map fun c => (c.toNat : Int)
def chI (v : Int) : Int := if v < 10 then v + 48 else v + 87
theorem ch_eq (v : Nat) (h : v < 36) : ((UInt8.ofNat (chN v)).toNat : Int) = chI v := by
  unfold chN chI
  by_cases h1 : v < 10
  · rw [if_pos h1, if_pos (by omega), UInt8.toNat_ofNat']
    omega
  · rw [if_neg h1, if_neg (by omega), UInt8.toNat_ofNat']
    omega
theorem showI_small {b u : Int} (h0 : 0 ≤ u) (h : u < b) (hb : b ≤ 36) : showI b u = [chI u] := by
  unfold showI
  rw [showL_small (by omega), List.map_singleton, ch_eq _ (by omega), Int.toNat_of_nonneg h0]
theorem showI_big {b u : Int} (hb : 2 ≤ b) (hb2 : b ≤ 36) (h : b ≤ u) : showI b u = showI b (u / b) ++ [chI (u % b)] := by
  unfold showI
  have e1 : (u / b).toNat = u.toNat / b.toNat := by
    obtain ⟨n, rfl⟩ := Int.eq_ofNat_of_zero_le (show 0 ≤ u by omega)
    obtain ⟨m, rfl⟩ := Int.eq_ofNat_of_zero_le (show 0 ≤ b by omega)
    rfl
  have e2 : ((u.toNat % b.toNat : Nat) : Int) = u % b := by
    rw [Int.natCast_emod, Int.toNat_of_nonneg (by omega), Int.toNat_of_nonneg (by omega)]
  rw [showL_big (by omega) (by omega), List.map_append, List.map_singleton, ch_eq _ (by have := Nat.mod_lt u.toNat (show 0 < b.toNat by omega); omega), e1, e2]
theorem digits_ch (v : Int) (h : 0 ≤ v ∧ v < 36) : bt digitsB v = chI v := digits_at v h
/-- A block of bytes as a row of the call's own. -/
theorem R_arr {W : World} {base g : Nat} {L : List Int} {t : TypeId} (h : W.heap[g]? = some (.cells (L.map (Value.int .u8)).toArray t (0, 0))) (hb : base ≤ g) (hl : L.length ≤ 9223372036854775807) :
    Kd.R (Kd.int .u8) t W base (fun _ => True) (.slice (some ⟨g, 0, none⟩) L.length L.length) L := by
  have e : (Kd.int .u8).sz = 1 := rfl
  refine ⟨fun _ _ => trivial, L.map (Value.int .u8), ⟨by rw [List.length_map, e, Nat.mul_one], .inr ⟨g, L.length, _, rfl, hb, h, Nat.le_refl _, hl, by rw [List.size_toArray, List.length_map, e, Nat.mul_one], ?_⟩⟩, reps_scalar_mk (enc := Value.int .u8) (R := (Kd.int .u8).M W base _) (fun _ => rfl) L⟩
  rw [e, Nat.mul_one]
  exact List.take_of_length_le (by rw [List.length_map]; exact Nat.le_refl _)
end Go.Proofs.YtlhnaplmphdhlaaDoor.Q
end
section
namespace Go.Proofs.YtlhnaplmphdhlaaDoor.Q
open Go.RowKit Go.Proofs.YtlhnaplmphdhlaaDoorW.PrintWords Go.Proofs.YtlhnaplmphdhlaaDoorW.PrintLast Go.Proofs.YtlhnaplmphdhlaaDoorW.PrintMore
set_option linter.unusedVariables false
set_option linter.unusedSimpArgs false

attribute [local go_sem] max2_int min2_int max_two min_two max_three min_three max_four min_four
/-! ### strconv_isPowerOfTwo: function 116 -/
def strconv_isPowerOfTwo.f (a0 : Int) : Option (Bool) := some ((Go.bits .and .i64 a0 (wrap64 (a0 - 1))) == 0)
set_option maxHeartbeats 8000000 in
set_option maxRecDepth 100000 in
theorem strconv_isPowerOfTwo.calls (a0 : Int) (r : Bool) (w : World) (h : strconv_isPowerOfTwo.f a0 = some r) :
    Calls Tryd.prog 116 #[.int .i64 a0] w fun e w' => e = .returned (.bool r) ∧ Drawn0 w w' := by
  have H : (some ((Go.bits .and .i64 a0 (wrap64 (a0 - 1))) == 0)) = some r := h
  clear h
  obtain rfl := Option.some.inj H
  go_enter Tryd.func116, Tryd.ntmps116
  go_wp2
  go_ret
  exact ⟨by first | rfl | (simp; done) | (simp [*]; done), by repeat (first | exact Drawn0.refl _ | apply Drawn0.step)⟩

end Go.Proofs.YtlhnaplmphdhlaaDoor.Q
end
section
namespace Go.Proofs.YtlhnaplmphdhlaaDoor.Q
open Go.RowKit Go.Proofs.YtlhnaplmphdhlaaDoorW.PrintWords Go.Proofs.YtlhnaplmphdhlaaDoorW.PrintLast Go.Proofs.YtlhnaplmphdhlaaDoorW.PrintMore
theorem digits_idx (v : Int) (h : 0 ≤ v ∧ v < 36) : ∀ hh : v.toNat < (⟨#[48, 49, 50, 51, 52, 53, 54, 55, 56, 57, 97, 98, 99, 100, 101, 102, 103, 104, 105, 106, 107, 108, 109, 110, 111, 112, 113, 114, 115, 116, 117, 118, 119, 120, 121, 122]⟩ : ByteArray).size, (((⟨#[48, 49, 50, 51, 52, 53, 54, 55, 56, 57, 97, 98, 99, 100, 101, 102, 103, 104, 105, 106, 107, 108, 109, 110, 111, 112, 113, 114, 115, 116, 117, 118, 119, 120, 121, 122]⟩ : ByteArray)[v.toNat]'hh).toNat : Int) = chI v := fun hh => (bt_at (⟨#[48, 49, 50, 51, 52, 53, 54, 55, 56, 57, 97, 98, 99, 100, 101, 102, 103, 104, 105, 106, 107, 108, 109, 110, 111, 112, 113, 114, 115, 116, 117, 118, 119, 120, 121, 122]⟩ : ByteArray) v hh).trans (digits_ch v h)
theorem drop_set_at (L : List Int) (j : Nat) (x : Int) (h : j < L.length) : (L.set j x).drop j = x :: L.drop (j + 1) := by
  rw [List.drop_eq_getElem_cons (by rw [List.length_set]; exact h), List.getElem_set_self, List.drop_set_of_lt (by omega)]
theorem slice_arr (gb : Nat) (j : Int) (h : 0 ≤ j ∧ j < 65) (W : World) : (Instr.sliceAt 133 (.pointer (some ⟨gb, 0, none⟩)) (some (.int .i64 j)) none none).run Tryd.prog W = .ok (.slice (some ⟨gb, j.toNat, none⟩) (65 - j.toNat) (65 - j.toNat)) W := by
  have hal : Tryd.prog.arrayLen 133 = 65 := by kernel_rfl
  have hel : Tryd.prog.elem 133 = 5 := by kernel_rfl
  rw [run_sliceAt_array_l W 133 ⟨gb, 0, none⟩ (by kernel_rfl) .i64 j h.1 (by rw [hal]; omega), hal, hel, run_size (sz := 1) (by kernel_rfl) W]
  show Result.ok (slicedAt ⟨gb, 0, none⟩ j.toNat 65 65 1) W = _
  unfold slicedAt
  rw [if_neg (by omega), Nat.mul_one, add_plain]
def Z65 : List Value := (List.replicate 65 (0 : Int)).map (Value.int .u8)
theorem and_mask (u : Int) (s : Nat) (h0 : 0 ≤ u) (h1 : u < 18446744073709551616 ∧ s < 8) : bits .and .u64 u (2 ^ s - 1 : Nat) = u % (2 ^ s : Nat) := by
  obtain ⟨n, rfl⟩ := Int.eq_ofNat_of_zero_le h0
  have h2 : 2 ^ s ≤ 2 ^ 8 := Nat.pow_le_pow_right (by decide) (by omega)
  rw [bits_and_u64_nat n (2 ^ s - 1) (by omega) (by omega), Nat.and_two_pow_sub_one_eq_mod]
  rfl
set_option maxRecDepth 100000 in
theorem tz64_16 (w : World) (ht : QB.Tabs w) : Calls Tryd.prog 120 #[.int .u64 16] w fun e w' => e = .returned (.int .i64 4) ∧ w' = w := by
  have hc : w.cell? ⟨5, 15, none⟩ = some (.int .u8 4) := ht.at_bits_deBruijn64tab 15 (by decide)
  have e1 : IntKind.u64.wrap (bits .and .u64 16 (IntKind.u64.wrap (-16)) * 285870213051353865) / 288230376151711744 = 15 := by kernel_rfl
  clear ht
  go_enter Tryd.func120, Tryd.ntmps120
  go_wp2
  go_ret
  exact ⟨rfl, rfl⟩
set_option maxRecDepth 100000 in
theorem tz_16 (w : World) (ht : QB.Tabs w) : Calls Tryd.prog 117 #[.int .u64 16] w fun e w' => e = .returned (.int .i64 4) ∧ Below w.heap.size w w' := by
  have HT := Aside0.mk ht
  clear ht
  go_enter Tryd.func117, Tryd.ntmps117
  go_wp2_with (first
    | (go_at_call 120; refine (tz64_16 _ HT.out).mono ?_; rintro e w1 ⟨rfl, rfl⟩))
  go_ret
  exact ⟨rfl, Below.refl _ _⟩
set_option maxHeartbeats 4000000 in
set_option maxRecDepth 100000 in
theorem formatBits_p16 (u0 : Int) (hu : 0 ≤ u0 ∧ u0 < 4294967296) (w : World) (ht : QB.Tabs w) :
    Calls Tryd.prog 109 #[.slice none 0 0, .int .u64 u0, .int .i64 16, .bool false, .bool false] w fun e w' => e = .returned (.tuple #[.slice none 0 0, .string (strOfNums (showI 16 u0))]) ∧ Below w.heap.size w w' := by
  have HP := Aside0.mk (show strconv_isPowerOfTwo.f 16 = some true by kernel_rfl)
  have HBb := Aside0.mk (show (2 : Int) ≤ 16 ∧ (16 : Int) ≤ 36 ∧ (16 : Int) ≠ 10 by decide)
  have HT := Aside0.mk ht
  have hb := HBb.out
  have HU := Aside0.mk hu
  have HB := Aside0.mk (Below.refl w.heap.size w)
  obtain ⟨Z, hZ⟩ : ∃ Z, Z = Z65 := ⟨_, rfl⟩
  have HZ := Aside0.mk hZ
  clear ht hb hu hZ
  go_enter Tryd.func109, Tryd.ntmps109
  go_wp2_with (first
    | ((with_reducible refine gate_dst (N := 12) rfl ?_); refine box_event ?hg (N := 12) ?hd (cs := Z.toArray) (t := 133) ?hr ?_; (case hd => rfl); (case hg => rfl); (case hr => have hZ2 := HZ.out; first | (go_simp; done) | (go_simp; rfl)); intro gb hg w2 hbox hb; have BK := Aside0.mk hbox; have GB := Aside0.mk (show w.heap.size ≤ gb from hg ▸ Nat.le_refl _); have HB1 := Aside0.mk hb; clear hbox hb hg HB)
    | (go_at_call 116; refine (strconv_isPowerOfTwo.calls _ _ _ HP.out).mono ?_; rintro e w3 ⟨rfl, hd⟩; have HB3 := Aside0.mk (below_step HB1.out hd.below); have BK3 := Aside0.mk (blk_below BK.out hd.below); clear hd BK HB1)
    | (go_at_call 117; refine (tz_16 _ (HT.out.below HB3.out)).mono ?_; rintro e w4 ⟨rfl, hd⟩; have HB2 := Aside0.mk (below_step HB3.out hd); have BK2 := Aside0.mk (blk_below BK3.out hd); clear hd BK3 HB3))
  have HR := Aside0.mk (show Kd.R (Kd.int .u8) 133 _ w.heap.size (fun _ => True) (.slice (some ⟨gb, 0, none⟩) 65 65) (List.replicate 65 (0 : Int)) from by
    have h := BK2.out
    rw [HZ.out] at h
    exact R_arr (L := List.replicate 65 (0 : Int)) h GB.out (by decide))
  obtain ⟨n0, hn0⟩ : ∃ n0, n0 = (showL (16 : Int).toNat u0.toNat).length := ⟨_, rfl⟩
  have hn1 : 1 ≤ n0 ∧ n0 ≤ 32 := by
    have h1 := HU.out
    have h2 := HBb.out
    rw [hn0]
    exact ⟨showL_pos _ _, showL_len (16 : Int).toNat (by omega) 31 u0.toNat (by omega)⟩
  have HN0 := Aside0.mk hn0
  clear BK2 hn0
  go_loopg [1, 13] n0 (fun kq v1 v13 w' => ∃ (u i : Int) (L : List Int), v1 = .int .u64 u ∧ v13 = .int .i64 i ∧ Aside0 (0 ≤ u ∧ u < 4294967296 ∧ (showL (16 : Int).toNat u.toNat).length = kq ∧ kq ≤ n0 ∧ i = 65 - (n0 - kq) ∧ L.length = 65) ∧ Aside0 (showI 16 u ++ L.drop i.toNat = showI 16 u0) ∧ Aside0 (Kd.R (Kd.int .u8) 133 w' w.heap.size (fun _ => True) (.slice (some ⟨gb, 0, none⟩) 65 65) L) ∧ Aside0 (Below w.heap.size w w'))
  case atStart =>
    have h1 := HU.out
    exact ⟨u0, 65, _, rfl, rfl, ⟨h1.1, h1.2, HN0.out.symm, Nat.le_refl _, by omega, by simp⟩, ⟨by simp⟩, HR, HB2⟩
  case round =>
    clear HR HB2
    obtain ⟨u, i, L, rfl, rfl, HI, HS, HR, HB2⟩ := hrel
    have h7 := HBb.out
    by_cases hlt : 16 ≤ u
    · have d4 : decide (16 ≤ u) = true := decide_eq_true hlt
      obtain ⟨h1, h2, h3, h4, h5, h6⟩ := HI.out
      cases gk with
      | zero => exact absurd h3 (by have := showL_pos (16 : Int).toNat u.toNat; omega)
      | succ k1 =>
      cases k1 with
      | zero => exact absurd (showL_one (by omega) h3) (by omega)
      | succ k2 =>
      obtain ⟨h8, h9⟩ := showL_more (show 2 ≤ (16 : Int).toNat by omega) h3
      have hbig := showI_big h7.1 h7.2.1 hlt
      have hdm := Int.mul_ediv_add_emod u 16
      have hm0 := Int.emod_nonneg u (show (16 : Int) ≠ 0 by omega)
      have hm1 := Int.emod_lt_of_pos u (show (0 : Int) < 16 by omega)
      have hq0 : 0 ≤ u / 16 := Int.ediv_nonneg h1 (by omega)
      have hq1 : u / 16 ≤ u := Int.ediv_le_self _ h1
      have hqn : (u / 16).toNat = u.toNat / (16 : Int).toNat := by
        obtain ⟨n, rfl⟩ := Int.eq_ofNat_of_zero_le h1
        rfl
      rw [← hqn] at h9
      obtain ⟨q, hq⟩ : ∃ q : Int, q = u / 16 := ⟨_, rfl⟩
      obtain ⟨r, hr⟩ : ∃ r : Int, r = u % 16 := ⟨_, rfl⟩
      rw [← hq] at hbig hdm hq0 hq1 h9
      rw [← hr] at hbig hdm hm0 hm1
      obtain ⟨j, hj⟩ : ∃ j : Int, j = i - 1 := ⟨_, rfl⟩
      have hj2 : 0 ≤ j ∧ j < 65 := by omega
      have e1 : wrap64 (i - 1) = j := by unfold wrap64; omega
      have e2 : bits .and .u64 u 15 = r := by rw [hr]; exact and_mask u 4 h1 (by omega)
      have e3 : u / 16 = q := hq.symm
      obtain ⟨hx, hf⟩ := Kd.R_celln 0 HR.out j (by omega) (by omega)
      have hdg := digits_idx r (by omega)
      have p1 : (0 ≤ r) = True := eq_true hm0
      have p2 : (r < 36) = True := eq_true (by omega)
      have p3 : (0 ≤ j) = True := eq_true hj2.1
      have p4 : (j < 65) = True := eq_true hj2.2
      have HJ := Aside0.mk hj
      have HJ2 := Aside0.mk hj2
      have HBIG := Aside0.mk hbig
      have HQ := Aside0.mk (show 0 ≤ q ∧ q < 4294967296 from ⟨hq0, by omega⟩)
      have H9 := Aside0.mk h9
      have HP2 := Aside0.mk (Kd.R_putn HR.out j (chI r))
      clear hj hj2 hlt h1 h2 h3 h4 h5 h6 h7 h8 h9 hbig hdm hm0 hm1 hq0 hq1 hqn hq hr
      go_wp2
      go_roundg (k2 + 1)
      case measure => omega
      case rel =>
        have hi := HI.out
        have hj := HJ.out
        have hj2 := HJ2.out
        refine ⟨q, j, L.set j.toNat (chI r), rfl, rfl, ⟨HQ.out.1, HQ.out.2, H9.out, by omega, by omega, by rw [List.length_set]; exact hi.2.2.2.2.2⟩, ⟨?_⟩, ⟨HP2.out⟩, ⟨below_set HB2.out GB.out⟩⟩
        rw [drop_set_at L j.toNat (chI r) (by omega), show j.toNat + 1 = i.toNat by omega, ← HS.out, HBIG.out, List.append_assoc]
        rfl
    · have d4 : decide (16 ≤ u) = false := decide_eq_false hlt
      obtain ⟨j, hj⟩ : ∃ j : Int, j = i - 1 := ⟨_, rfl⟩
      have hj2 : 0 ≤ j ∧ j < 65 := by have := HI.out; omega
      have e1 : wrap64 (i - 1) = j := by unfold wrap64; omega
      obtain ⟨hx, hf⟩ := Kd.R_celln 0 HR.out j (by omega) (by omega)
      have hu1 := HI.out.1
      have hdg := digits_idx u (by omega)
      have p1 : (0 ≤ u) = True := eq_true hu1
      have p2 : (u < 36) = True := eq_true (by omega)
      have p3 : (0 ≤ j) = True := eq_true hj2.1
      have p4 : (j < 65) = True := eq_true hj2.2
      have HJ := Aside0.mk hj
      have HJ2 := Aside0.mk hj2
      have HLT := Aside0.mk hlt
      clear hj hj2 hlt hu1 h7
      have HP2 := Aside0.mk (Kd.R_putn HR.out j (chI u))
      have hsl : ∀ W, (Instr.sliceAt 133 (.pointer (some ⟨gb, 0, none⟩)) (some (.int .i64 j)) none none).run Tryd.prog W = .ok (.slice (some ⟨gb, j.toNat, none⟩) (65 - j.toNat) (65 - j.toNat)) W := fun W => slice_arr gb j HJ2.out W
      have hcv : (convert 25 9 (.slice (some ⟨gb, j.toNat, none⟩) (65 - j.toNat) (65 - j.toNat))).run Tryd.prog (wr.setCell ⟨gb, j.toNat, none⟩ (.int .u8 (chI u))) = .ok (.string (strOfNums (showI 16 u0))) (wr.setCell ⟨gb, j.toNat, none⟩ (.int .u8 (chI u))) := by
        have hi := HI.out
        have hj := HJ.out
        have hj2 := HJ2.out
        have h7 := HBb.out
        have h := C_cut (Kd.R_reads' HP2.out).2.2 (c := 65) (by rw [List.length_set]; omega) j.toNat (65 - j.toNat) (by rw [List.length_set]; omega)
        rw [cutAt_own (show j.toNat < 65 by omega)] at h
        have h' : Kd.C (Kd.int .u8) (wr.setCell ⟨gb, j.toNat, none⟩ (.int .u8 (chI u))) (some ⟨gb, j.toNat * 1, none⟩) (65 - j.toNat) (((L.set j.toNat (chI u)).drop j.toNat).take (65 - j.toNat)) := h
        rw [Nat.mul_one] at h'
        have h2 := Kd.C_string (src := 25) (dst := 9) (c := 65 - j.toNat) Tryd.underlying25 Tryd.underlying5 Tryd.underlying9 h'
        rw [h2, List.take_of_length_le (by rw [List.length_drop, List.length_set]; omega), drop_set_at L j.toNat (chI u) (by omega), show j.toNat + 1 = i.toNat by omega, ← HS.out, showI_small hi.1 (Int.lt_of_not_ge HLT.out) h7.2.1]
        rfl
      go_wp2
      go_ret2
      exact ⟨rfl, below_set HB2.out GB.out⟩
end Go.Proofs.YtlhnaplmphdhlaaDoor.Q
end
section
namespace Go.Proofs.YtlhnaplmphdhlaaDoor.Q
open Go.RowKit Go.Proofs.YtlhnaplmphdhlaaDoorW.PrintWords Go.Proofs.YtlhnaplmphdhlaaDoorW.PrintLast Go.Proofs.YtlhnaplmphdhlaaDoorW.PrintMore
def showB (b u : Int) : ByteArray := ⟨(showL b.toNat u.toNat).toArray⟩
theorem str_showI (b u : Int) : strOfNums (showI b u) = showB b u := by
  unfold strOfNums showI showB
  rw [List.map_map]
  congr 2
  conv => rhs; rw [← List.map_id (showL b.toNat u.toNat)]
  apply List.map_congr_left
  intro c _
  exact UInt8.toNat_inj.1 (by simp)
set_option maxHeartbeats 1000000 in
set_option maxRecDepth 100000 in
theorem formatUint_16 (u : Int) (hu : 0 ≤ u ∧ u < 4294967296) (w : World) (ht : QB.Tabs w) :
    Calls Tryd.prog 95 #[.int .u64 u, .int .i64 16] w fun e w' => e = .returned (.string (showB 16 u)) ∧ Below w.heap.size w w' := by
  have HC := Aside0.mk (formatBits_p16 u hu w ht)
  rw [str_showI] at HC
  clear ht hu
  go_enter Tryd.func95, Tryd.ntmps95
  go_wp2_with (first
    | (go_at_call 109; (with_reducible refine HC.out.mono ?_); rintro e w1 ⟨rfl, hb⟩; have HB := Aside0.mk hb; clear hb))
  go_ret
  exact ⟨rfl, HB.out⟩
set_option maxHeartbeats 1000000 in
set_option maxRecDepth 100000 in
theorem formatUintO_16 (u : Int) (hu : 0 ≤ u ∧ u < 4294967296) (w : World) (ht : QB.Tabs w) :
    Calls Tryd.prog 77 #[.int .u64 u, .int .i64 16] w fun e w' => e = .returned (.string (showB 16 u)) ∧ Below w.heap.size w w' := by
  have HC := Aside0.mk (formatUint_16 u hu w ht)
  clear ht hu
  go_enter Tryd.func77, Tryd.ntmps77
  go_wp2_with (first
    | (go_at_call 95; (with_reducible refine HC.out.mono ?_); rintro e w1 ⟨rfl, hb⟩; have HB := Aside0.mk hb; clear hb))
  go_ret
  exact ⟨rfl, HB.out⟩
set_option maxHeartbeats 1000000 in
set_option maxRecDepth 100000 in
theorem show16 (n : Int) (hn : 0 ≤ n ∧ n < 4294967296) (w : World) (ht : QB.Tabs w) :
    Calls Tryd.prog 56 #[.int .u32 n, .int .u32 16] w fun e w' => e = .returned (.tuple #[.string (showB 16 n), .int .i64 0]) ∧ Below w.heap.size w w' := by
  have HU := Aside0.mk (fun (W : World) (hT : QB.Tabs W) => formatUintO_16 n hn W hT)
  have HF := Aside0.mk (show digit_fit.f 16 = some true by kernel_rfl)
  have HT := Aside0.mk ht
  have e1 : IntKind.u64.wrap n = n := wrap_u64_id n hn.1 (by omega)
  clear hn ht
  go_enter Tryd.func56, Tryd.ntmps56
  go_wp2_with (first
    | (go_at_call 74; (with_reducible refine (digit_fit.calls _ _ _ HF.out).mono ?_); rintro e w1 ⟨rfl, hd⟩; have HB1 := Aside0.mk hd.below; have HT1 := Aside0.mk (HT.out.below hd.below); clear hd)
    | (go_at_call 77; (with_reducible refine (HU.out _ HT1.out).mono ?_); rintro e w2 ⟨rfl, hb⟩; have HB2 := Aside0.mk (below_step HB1.out hb); clear hb))
  go_ret2
  exact ⟨rfl, HB2.out⟩
def digit_Show.f (n b : Int) : Option (ByteArray × Int) := if (0 ≤ n ∧ n < 4294967296) ∧ b = 16 then some (showB 16 n, 0) else none
theorem digit_Show.calls (a0 : Int) (a1 : Int) (r1 : ByteArray) (r2 : Int) (w : World) (ht : QB.Tabs w) (h : digit_Show.f a0 a1 = some (r1, r2)) :
    Calls Tryd.prog 56 #[.int .u32 a0, .int .u32 a1] w fun e w' => e = .returned (.tuple #[.string r1, .int .i64 r2]) ∧ Below w.heap.size w w' := by
  unfold digit_Show.f at h
  split at h
  case isFalse => cases h
  rename_i hn
  obtain ⟨rfl, rfl⟩ := Prod.mk.inj (Option.some.inj h)
  obtain ⟨hn, rfl⟩ := hn
  exact show16 a0 hn w ht
end Go.Proofs.YtlhnaplmphdhlaaDoor.Q
end
section
namespace Go.Proofs.YtlhnaplmphdhlaaDoor.Q
open Go.RowKit Go.Proofs.YtlhnaplmphdhlaaDoorW.PrintWords Go.Proofs.YtlhnaplmphdhlaaDoorW.PrintLast Go.Proofs.YtlhnaplmphdhlaaDoorW.PrintMore
set_option linter.unusedVariables false
set_option linter.unusedSimpArgs false

attribute [local go_sem] max2_int min2_int max_two min_two max_three min_three max_four min_four
/-! ### prop_ShowUnit: function 37 -/
def prop_ShowUnit.l0 : Nat → List ByteArray → List Int → Int → Int → Option (ByteArray)
  | 0, _, _, _, _ => none
  | k + 1, x3, x9, x10, x11 => if x11 < x10 then (if 0 ≤ x11 then (if x11 < (x9.length : Int) then ((digit_Show.f (rd x9 x11) 16).bind fun bt38005 => (if x11 < (x3.length : Int) then (prop_ShowUnit.l0 k (x3.set (x11 : Int).toNat bt38005.1) x9 x10 (wrap64 (x11 + 1))) else (none))) else (none)) else (none)) else ((strings_Join.f x3 (⟨#[44]⟩ : ByteArray)).bind fun t38008 => (some t38008))
def prop_ShowUnit.f (k : Nat) (l0 : List Int) : Option (ByteArray) := if 0 ≤ (l0.length : Int) then (if ((l0.length : Int) : Int).toNat ≤ 17592186044416 then (prop_ShowUnit.l0 k (List.replicate ((l0.length : Int) : Int).toNat (⟨#[]⟩ : ByteArray)) l0 (l0.length : Int) 0) else (none)) else (none)
set_option maxHeartbeats 8000000 in
set_option maxRecDepth 100000 in
theorem prop_ShowUnit.calls (k : Nat) (A0 : Option Addr) (c0 : Nat) (l0 : List Int) (r : ByteArray) (w : World) (ht : QB.Tabs w) (hr0 : Kd.C (Kd.int .u32) w A0 l0.length l0) (hc0 : l0.length ≤ c0) (h : prop_ShowUnit.f k l0 = some r) :
    Calls Tryd.prog 37 #[.slice A0 l0.length c0] w fun e w' => e = .returned (.string r) ∧ Below w.heap.size w w' := by
  have HR0 := Aside0.mk hr0
  have HC0 := Aside0.mk hc0
  clear hr0 hc0
  have HB := Aside0.mk (Below.refl w.heap.size w)
  have H : (if 0 ≤ (l0.length : Int) then (if ((l0.length : Int) : Int).toNat ≤ 17592186044416 then (prop_ShowUnit.l0 k (List.replicate ((l0.length : Int) : Int).toNat (⟨#[]⟩ : ByteArray)) l0 (l0.length : Int) 0) else (none)) else (none)) = some r := h
  clear h
  by_cases c2 : 0 ≤ (l0.length : Int)
  · rw [if_pos c2] at H
    have c2b0 := eq_true c2
    have c2b1 : decide (0 ≤ (l0.length : Int)) = true := decide_eq_true c2
    clear c2
    by_cases c3 : ((l0.length : Int) : Int).toNat ≤ 17592186044416
    · rw [if_pos c3] at H
      have c3b0 := eq_true c3
      have c3b1 : decide (((l0.length : Int) : Int).toNat ≤ 17592186044416) = true := decide_eq_true c3
      clear c3
      obtain ⟨y38001, hy38001⟩ : ∃ y_ : List ByteArray, y_ = (List.replicate ((l0.length : Int) : Int).toNat (⟨#[]⟩ : ByteArray)) := ⟨_, rfl⟩
      replace H : (prop_ShowUnit.l0 k y38001 l0 (l0.length : Int) 0) = some r := by first | (rw [hy38001]; with_reducible exact H) | (have H2_ := (Option.bind_some _ _).symm.trans H; rw [hy38001]; with_reducible exact H2_) | (have H2_ := (Option.bind_some _ _).symm.trans H; with_reducible exact H2_) | with_reducible exact H | (rw [hy38001]; exact H) | exact H
      have Ny38001 := Aside0.mk hy38001
      clear hy38001
      have H' := Aside0.mk H
      clear H
      go_enter Tryd.func37, Tryd.ntmps37
      go_wp2_with (first | ((with_reducible refine gate_dst (N := 8) rfl ?_); refine Kd.R_make Kd.string _ 9 rfl (N := 8) rfl 39 _ _ rfl (l0.length : Int) rfl rfl Tryd.underlying39 (.string ⟨#[]⟩) 16 info9 rfl (by decide) (by omega) (⟨#[]⟩ : ByteArray) (ok := fun _ => True) (okp := fun _ => True) rfl (fun _ hk => hk) trivial (of_decide_eq_true (by first | (with_reducible assumption) | assumption)) (Nat.le_trans (Nat.mul_le_mul_right _ (of_decide_eq_true (by first | (with_reducible assumption) | assumption) : (l0.length : Int).toNat ≤ 17592186044416)) (by omega)) (Below.refl _ _) (Nat.le_refl _) ?_; intro v38002 w4 ho5 hb hg_ hnew_; clear hg_ hnew_; (first | rw [← Ny38001.out] at ho5 | (simp only [Int.reduceToNat] at ho5; rw [← Ny38001.out] at ho5)); have n0_ := Aside0.mk (Kd.R_lower ho5 (below_size (by repeat (first | (with_reducible first | exact HB.out | apply below_alloc | apply pw_below_drewN | apply below_drew1) | exact HB.out)))); have n1_ := Aside0.mk (below_step (by repeat (first | (with_reducible first | exact HB.out | apply below_alloc | apply pw_below_drewN | apply below_drew1) | exact HB.out)) hb); clear HB; have HO38003 := n0_; have HB := n1_; clear n0_ n1_; clear hb ho5))
      go_loopg [11] k (fun kq v11 w' => ∃ (x3_1 : List ByteArray) (x11_1 : Int), v11 = .int .i64 x11_1 ∧ Aside0 (prop_ShowUnit.l0 kq x3_1 l0 (l0.length : Int) x11_1 = some r) ∧ Aside0 (kq ≤ k) ∧ Aside0 (Kd.R Kd.string 9 w' w.heap.size (fun _ => True) v38002 x3_1) ∧ Aside0 (Below w.heap.size w w'))
      case atStart => exact ⟨(y38001), (0), (by first | rfl | (simp; done) | (simp [*]; done)), H', ⟨Nat.le_refl _⟩, ⟨by (with_reducible repeat (first | apply Kd.R_alloc | apply Kd.R_drewN | apply Kd.R_drew)); exact HO38003.out⟩, ⟨by repeat (first | (with_reducible first | exact HB.out | apply below_alloc | apply pw_below_drewN | apply below_drew1) | exact HB.out)⟩⟩
      case round =>
        clear H'
        try clear c2
        try clear c2b0
        try clear c2b1
        try clear p2
        try clear c3
        try clear c3b0
        try clear c3b1
        obtain ⟨x3_1, x11_1, rfl, HA, HK1, HO_3, HB⟩ := hrel
        cases gk with
        | zero => exact absurd HA.out (by simp [prop_ShowUnit.l0])
        | succ k1 =>
          have H := HA.out
          clear HA
          simp only [prop_ShowUnit.l0] at H
          by_cases c6 : x11_1 < (l0.length : Int)
          · rw [if_pos c6] at H
            have c6b0 : decide (x11_1 < (l0.length : Int)) = true := decide_eq_true c6
            clear c6
            by_cases c7 : 0 ≤ x11_1
            · rw [if_pos c7] at H
              have c7b0 : decide (0 ≤ x11_1) = true := decide_eq_true c7
              clear c7
              by_cases c8 : x11_1 < (l0.length : Int)
              · rw [if_pos c8] at H
                have c8b0 : decide (x11_1 < (l0.length : Int)) = true := decide_eq_true c8
                clear c8
                replace H := Option.bind_eq_some_iff.mp H
                obtain ⟨⟨t38005, t38006⟩, A90, H⟩ := H
                replace H : (if x11_1 < (x3_1.length : Int) then (prop_ShowUnit.l0 k1 (x3_1.set (x11_1 : Int).toNat t38005) l0 (l0.length : Int) (wrap64 (x11_1 + 1))) else (none)) = some r := H
                have A9 := Aside0.mk A90
                clear A90
                by_cases c10 : x11_1 < (x3_1.length : Int)
                · rw [if_pos c10] at H
                  have c10b0 : decide (x11_1 < (x3_1.length : Int)) = true := decide_eq_true c10
                  clear c10
                  obtain ⟨y38007, hy38007⟩ : ∃ y_ : List ByteArray, y_ = (x3_1.set (x11_1 : Int).toNat t38005) := ⟨_, rfl⟩
                  replace H : (prop_ShowUnit.l0 k1 y38007 l0 (l0.length : Int) (wrap64 (x11_1 + 1))) = some r := by first | (rw [hy38007]; with_reducible exact H) | (have H2_ := (Option.bind_some _ _).symm.trans H; rw [hy38007]; with_reducible exact H2_) | (have H2_ := (Option.bind_some _ _).symm.trans H; with_reducible exact H2_) | with_reducible exact H | (rw [hy38007]; exact H) | exact H
                  have Ny38007 := Aside0.mk hy38007
                  clear hy38007
                  have H' := Aside0.mk H
                  clear H
                  have p38004 : 0 ≤ (x11_1 : Int) := of_decide_eq_true (by first | (with_reducible assumption) | assumption)
                  have q38004 : x11_1 < (l0.length : Int) := of_decide_eq_true (by first | (with_reducible assumption) | assumption)
                  obtain ⟨ad38004, e38004, hx38004_0⟩ := Kd.at_int HR0.out x11_1 p38004 q38004
                  cases e38004
                  replace hx38004_0 := (HB.out.cell (World.block_lt_of_cell? w _ hx38004_0)).trans hx38004_0
                  replace p38004 := eq_true p38004
                  replace q38004 := eq_true q38004
                  go_wp2_with (first | ((with_reducible refine gate_callee (f := 56) rfl ?_); refine goesL_ (some 20) rfl rfl Tryd.func56 (by kernel_rfl) rfl #[.int .u32 (rd l0 x11_1), .int .u32 16] rfl (by (try simp only [List.map_toArray, List.map_cons, List.map_nil]); first | done | rfl | (simp only [List.length_drop, List.length_take]; rfl)) ?_; (with_reducible refine (digit_Show.calls (rd l0 x11_1) 16 t38005 t38006 _ (QB.Tabs.below ht (by repeat (first | (with_reducible first | exact HB.out | apply below_alloc | apply pw_below_drewN | apply below_drew1 | refine below_set ?_ (Aside0.out (by assumption))) | exact HB.out))) A9.out).mono ?_); rintro e w12 ⟨rfl, hb⟩; refine ⟨_, rfl, ?_⟩; have n0_ := Aside0.mk (Kd.R_below (by (with_reducible repeat (first | apply Kd.R_alloc | apply Kd.R_drewN | apply Kd.R_drew)); exact HO_3.out) hb); have n1_ := Aside0.mk (below_step (by repeat (first | (with_reducible first | exact HB.out | apply below_alloc | apply pw_below_drewN | apply below_drew1) | exact HB.out)) hb); clear HO_3; clear HB; have HO_3 := n0_; have HB := n1_; clear n0_ n1_; (try clear hb); (try clear hb2); (try clear hk); (try clear hi); have p11 : 0 ≤ (x11_1 : Int) := of_decide_eq_true (by first | (with_reducible assumption) | assumption); have q11 : (x11_1 : Int) < ((x3_1.length : Int) : Int) := of_decide_eq_true (by first | (with_reducible assumption) | assumption); obtain ⟨go11, co11, eo11, gb11, gl11, cl11, HG11⟩ := Kd.R_form HO_3.out (by omega); (first | cases eo11 | (injection eo11 with ea_ en_ ec_; (first | subst ea_ | (injection ea_ with ea_; subst ea_)); subst ec_; clear en_)); have GB11 := Aside0.mk gb11; have GG11 := Aside0.mk HG11; clear gb11 gl11 HG11; obtain ⟨hx11_0, hf11_0⟩ := Kd.R_celln (⟨#[]⟩ : ByteArray) HO_3.out (x11_1 : Int) p11 q11; replace p11 := eq_true p11; replace q11 := eq_true q11; obtain ⟨hy13_, hz13_⟩ := Kd.R_celln (⟨#[]⟩ : ByteArray) HO_3.out (x11_1 : Int) (of_decide_eq_true (by first | (with_reducible assumption) | assumption)) (of_decide_eq_true (by first | (with_reducible assumption) | assumption)); have HP13 := Kd.R_putg HO_3.out (x11_1 : Int) t38005) | ((with_reducible refine gate_store (t := 9) (p := 23) rfl ?_); refine store_event (t := 9) (p := 23) (v := ?vo_w14) (w1 := (w12.setCell ⟨go11, (x11_1 : Int).toNat, none⟩ (.string t38005))) ?hg ?ho ?hn ?hr ?_; (case ho => rfl); (case hg => rfl); (case hn => rfl); (case hr => first | (go_simp; done) | (go_simp; rfl)); intro w14 hw; have hg : w12.grownBy w14 (some go11) := (by rw [hw]; exact HP13.2); have hp_ : Kd.R Kd.string 9 w14 w.heap.size (fun _ => True) (.slice (some ⟨go11, 0, none⟩) x3_1.length co11) y38007 := (by rw [hw, Ny38007.out]; exact HP13.1); clear HP13; have n0_ := Aside0.mk (hp_); have n1_ := Aside0.mk ((by rw [hw]; exact below_set (HB.out) GB11.out : Below w.heap.size w w14)); clear HO_3; clear HB; have HO_3 := n0_; have HB := n1_; clear n0_ n1_; clear hg hw hp_))
                  go_roundg k1
                  case measure => have := HK1.out; omega
                  case rel => exact ⟨(y38007), (wrap64 (x11_1 + 1)), (by first | rfl | (simp; done) | (simp [*]; done)), H', ⟨by have := HK1.out; omega⟩, ⟨by (with_reducible repeat (first | apply Kd.R_alloc | apply Kd.R_drewN | apply Kd.R_drew)); exact HO_3.out⟩, ⟨by repeat (first | (with_reducible first | exact HB.out | apply below_alloc | apply pw_below_drewN | apply below_drew1) | exact HB.out)⟩⟩
                · rw [if_neg c10] at H
                  exact absurd H (by simp)
              · rw [if_neg c8] at H
                exact absurd H (by simp)
            · rw [if_neg c7] at H
              exact absurd H (by simp)
          · rw [if_neg c6] at H
            have c6b0 : decide (x11_1 < (l0.length : Int)) = false := decide_eq_false c6
            clear c6
            replace H := Option.bind_eq_some_iff.mp H
            obtain ⟨t38008, A150, H⟩ := H
            replace H : (some t38008) = some r := H
            have A15 := Aside0.mk A150
            clear A150
            obtain rfl := Option.some.inj H
            obtain ⟨Ao16, co16, eo16⟩ := Kd.R_slice HO_3.out
            subst eo16
            go_wp2_with (first | ((with_reducible refine gate_callee (f := 57) rfl ?_); refine goesL_ (some 26) rfl rfl Tryd.func57 (by kernel_rfl) rfl #[.slice Ao16 x3_1.length co16, .string (⟨#[44]⟩ : ByteArray)] rfl (by (try simp only [List.map_toArray, List.map_cons, List.map_nil]); first | done | rfl | (simp only [List.length_drop, List.length_take]; rfl)) ?_; (with_reducible refine (strings_Join.calls _ _ x3_1 (⟨#[44]⟩ : ByteArray) t38008 _ ?side1 ?side2 A15.out).mono ?_); (case side1 => repeat (first | exact (Kd.R_reads' HO_3.out).2.2 | (with_reducible refine Kd.C_alloc ?_ _) | (with_reducible refine Kd.C_drewN ?_ _) | (with_reducible refine Kd.C_drew ?_))); (case side2 => exact (Kd.R_reads' HO_3.out).2.1); rintro e w17 ⟨rfl, hb⟩; refine ⟨_, rfl, ?_⟩; have n0_ := Aside0.mk (Kd.R_below (by (with_reducible repeat (first | apply Kd.R_alloc | apply Kd.R_drewN | apply Kd.R_drew)); exact HO_3.out) hb); have n1_ := Aside0.mk (below_step (by repeat (first | (with_reducible first | exact HB.out | apply below_alloc | apply pw_below_drewN | apply below_drew1) | exact HB.out)) hb); clear HO_3; clear HB; have HO_3 := n0_; have HB := n1_; clear n0_ n1_; (try clear hb); (try clear hb2); (try clear hk); (try clear hi)))
            go_ret
            exact ⟨by first | rfl | (simp [errW_none, errW_some] <;> rfl) | (simp [*, errW_none, errW_some] <;> rfl), by repeat (first | (with_reducible first | exact HB.out | apply below_alloc | apply pw_below_drewN | apply below_drew1) | exact HB.out)⟩
    · rw [if_neg c3] at H
      exact absurd H (by simp)
  · rw [if_neg c2] at H
    exact absurd H (by simp)

end Go.Proofs.YtlhnaplmphdhlaaDoor.Q
end
section
namespace Go.Proofs.YtlhnaplmphdhlaaDoor.Q
open Go.RowKit Go.Proofs.YtlhnaplmphdhlaaDoorW.PrintWords Go.Proofs.YtlhnaplmphdhlaaDoorW.PrintLast Go.Proofs.YtlhnaplmphdhlaaDoorW.PrintMore
def digS (d : Int) : ByteArray := ⟨[UInt8.ofNat (chN d.toNat)].toArray⟩
def preL (kq : Nat) (b u : Int) : List UInt8 := if kq = 0 then [] else showL b.toNat u.toNat
def tinderref02_Show.f (n b : Int) : Option (ByteArray × Int) := if 0 ≤ n ∧ n < 4294967296 then (if 2 ≤ b ∧ b ≤ 36 then some (showB b n, 0) else some (⟨#[]⟩, 1)) else none
end Go.Proofs.YtlhnaplmphdhlaaDoor.Q
end
section
namespace Go.Proofs.YtlhnaplmphdhlaaDoor.Q
open Go.RowKit Go.Proofs.YtlhnaplmphdhlaaDoorW.PrintWords Go.Proofs.YtlhnaplmphdhlaaDoorW.PrintLast Go.Proofs.YtlhnaplmphdhlaaDoorW.PrintMore
set_option linter.unusedVariables false
set_option linter.unusedSimpArgs false

attribute [local go_sem] max2_int min2_int max_two min_two max_three min_three max_four min_four
/-! ### tinderref05_ShowUnit: function 38 -/
def tinderref05_ShowUnit.l0 : Nat → List Int → List Int → Int → Option (ByteArray)
  | 0, _, _, _ => none
  | k + 1, x0, x3, x4 => if x4 < (x0.length : Int) then (if x4 > 0 then (if x3.length < 140737488355328 then ((some (x3 ++ [44] : List Int)).bind fun y39001 => (if 0 ≤ x4 then ((tinderref02_Show.f (rd x0 x4) 16).bind fun bt39005 => (if y39001.length + bt39005.1.size < 140737488355328 then (tinderref05_ShowUnit.l0 k x0 (y39001 ++ bytesOf bt39005.1) (wrap64 (x4 + 1))) else (none))) else (none))) else (none)) else (if 0 ≤ x4 then ((tinderref02_Show.f (rd x0 x4) 16).bind fun bt39011 => (if x3.length + bt39011.1.size < 140737488355328 then (tinderref05_ShowUnit.l0 k x0 (x3 ++ bytesOf bt39011.1) (wrap64 (x4 + 1))) else (none))) else (none))) else (some (strOfNums x3))
def tinderref05_ShowUnit.f (k : Nat) (l0 : List Int) : Option (ByteArray) := tinderref05_ShowUnit.l0 k l0 ([] : List Int) 0

end Go.Proofs.YtlhnaplmphdhlaaDoor.Q
end
section
set_option linter.unusedSimpArgs false
set_option linter.unusedVariables false
namespace Go.Proofs.YtlhnaplmphdhlaaDoor.Q
open Go.RowKit Go.Proofs.YtlhnaplmphdhlaaDoorW.PrintWords Go.Proofs.YtlhnaplmphdhlaaDoorW.PrintLast
def shL (v : Int) : List UInt8 := showL 16 v.toNat
def unitsL (l : List Int) : List UInt8 := Lib.join (l.map shL) [44]
def unitsB (l : List Int) : ByteArray := ⟨(unitsL l).toArray⟩
def U32L (l : List Int) : Prop := ∀ a ∈ l, 0 ≤ a ∧ a < 4294967296
theorem join_snoc (xs : List (List UInt8)) (x : List UInt8) (sep : List UInt8) (h : xs ≠ []) : Lib.join (xs ++ [x]) sep = Lib.join xs sep ++ sep ++ x := by
  cases xs with
  | nil => exact absurd rfl h
  | cons y ys =>
    rw [List.cons_append, Lib.join_cons, Lib.join_cons]
    unfold Lib.joinTail
    rw [List.map_append, List.flatten_append]
    simp [List.append_assoc]
theorem shL_len (v : Int) (h : 0 ≤ v ∧ v < 4294967296) : (shL v).length ≤ 32 := showL_len 16 (by decide) 31 v.toNat (by have : (2 : Nat) ^ (31 + 1) = 4294967296 := by decide
                                                                                                                        omega)
theorem units_one (v : Int) : unitsL [v] = shL v := Lib.join_one _ _
theorem units_snoc (l : List Int) (v : Int) (h : l ≠ []) : unitsL (l ++ [v]) = unitsL l ++ [44] ++ shL v := by
  unfold unitsL
  rw [List.map_append, List.map_singleton, join_snoc _ _ _ (by simpa using h)]
theorem take_succ' {α : Type} (l : List α) (i : Nat) (h : i < l.length) : l.take (i + 1) = l.take i ++ [l[i]] := by
  rw [List.take_succ_eq_append_getElem h]
theorem units_len (l : List Int) (hl : U32L l) : ∀ i, i ≤ l.length → (unitsL (l.take i)).length ≤ 33 * i
  | 0, _ => by simp [unitsL, Lib.join_nil]
  | i + 1, h => by
    have ih := units_len l hl i (by omega)
    rw [take_succ' l i (by omega)]
    have hs := shL_len l[i] (hl _ (List.getElem_mem _))
    by_cases h0 : i = 0
    · subst h0
      rw [List.take_zero, List.nil_append, units_one]
      omega
    · rw [units_snoc _ _ (fun e => by have := congrArg List.length e; rw [List.length_take, List.length_nil] at this; omega)]
      rw [List.length_append, List.length_append, List.length_singleton]
      omega
theorem rd_get (l : List Int) (i : Nat) (h : i < l.length) : rd l (i : Int) = l[i] := by
  unfold rd
  rw [Int.toNat_natCast, List.getD_eq_getElem?_getD, List.getElem?_eq_getElem h]
  rfl
theorem bytesOf_mk (L : List UInt8) : bytesOf ⟨L.toArray⟩ = L.map fun b => (b.toNat : Int) := rfl
theorem strOf_bytes (L : List UInt8) : strOfNums (L.map fun b => (b.toNat : Int)) = ⟨L.toArray⟩ := by
  unfold strOfNums
  rw [List.map_map]
  congr 2
  conv => rhs; rw [← List.map_id L]
  apply List.map_congr_left
  intro c _
  exact UInt8.toNat_inj.1 (by simp)
theorem refshow_eq (v : Int) (h : 0 ≤ v ∧ v < 4294967296) : tinderref02_Show.f v 16 = some (⟨(shL v).toArray⟩, 0) := by
  unfold tinderref02_Show.f
  rw [if_pos h, if_pos (by decide)]
  rfl
theorem show_eq (v : Int) (h : 0 ≤ v ∧ v < 4294967296) : digit_Show.f v 16 = some (⟨(shL v).toArray⟩, 0) := by
  unfold digit_Show.f
  rw [if_pos ⟨h, rfl⟩]
  rfl
theorem refunits_go (l : List Int) (hl : U32L l) (hn : l.length ≤ 1000000000) : ∀ (d k i : Nat), i + d = l.length → d + 1 ≤ k → tinderref05_ShowUnit.l0 k l ((unitsL (l.take i)).map fun b => (b.toNat : Int)) (i : Int) = some (unitsB l)
  | 0, k, i, hi, hk => by
    obtain ⟨k, rfl⟩ : ∃ m, k = m + 1 := ⟨k - 1, by omega⟩
    unfold tinderref05_ShowUnit.l0
    rw [if_neg (by omega), List.take_of_length_le (by omega), strOf_bytes]
    rfl
  | d + 1, k, i, hi, hk => by
    obtain ⟨k, rfl⟩ : ∃ m, k = m + 1 := ⟨k - 1, by omega⟩
    have hb := hl l[i] (List.getElem_mem _)
    have hlen := units_len l hl i (by omega)
    have hs := shL_len l[i] hb
    have e1 : wrap64 ((i : Int) + 1) = ((i + 1 : Nat) : Int) := by unfold wrap64; omega
    have ih := refunits_go l hl hn d k (i + 1) (by omega) (by omega)
    have hsz : (⟨(shL l[i]).toArray⟩ : ByteArray).size = (shL l[i]).length := by simp [ByteArray.size]
    unfold tinderref05_ShowUnit.l0
    rw [if_pos (by omega), rd_get l i (by omega), refshow_eq _ hb]
    by_cases h0 : i = 0
    · subst h0
      rw [if_neg (by omega), if_pos (by omega), Option.bind_some]
      dsimp only
      rw [if_pos (by rw [List.length_map, hsz]; omega), e1, bytesOf_mk]
      rw [take_succ' l 0 (by omega), List.take_zero, List.nil_append, units_one] at ih
      rw [List.take_zero, show unitsL [] = [] from rfl, List.map_nil, List.nil_append]
      exact ih
    · rw [if_pos (by omega), if_pos (by rw [List.length_map]; omega), Option.bind_some, if_pos (by omega), Option.bind_some]
      dsimp only
      rw [if_pos (by rw [List.length_append, List.length_map, hsz, List.length_singleton]; omega), e1, bytesOf_mk]
      rw [take_succ' l i (by omega), units_snoc _ _ (fun e => by have := congrArg List.length e; rw [List.length_take, List.length_nil] at this; omega), List.map_append, List.map_append] at ih
      exact ih
theorem refunits_eq (k : Nat) (l : List Int) (hl : U32L l) (hn : l.length ≤ 1000000000) (hk : l.length + 1 ≤ k) : tinderref05_ShowUnit.f k l = some (unitsB l) := by
  have h := refunits_go l hl hn l.length k 0 (by omega) hk
  exact h
theorem units_go (l : List Int) (hl : U32L l) (hn : l.length ≤ 1000000000) : ∀ (d k i : Nat), i + d = l.length → d + 1 ≤ k → prop_ShowUnit.l0 k ((l.take i).map (fun v => (⟨(shL v).toArray⟩ : ByteArray)) ++ List.replicate d (⟨#[]⟩ : ByteArray)) l (l.length : Int) (i : Int) = some (unitsB l)
  | 0, k, i, hi, hk => by
    obtain ⟨k, rfl⟩ : ∃ m, k = m + 1 := ⟨k - 1, by omega⟩
    unfold prop_ShowUnit.l0
    have hlen := units_len l hl l.length (Nat.le_refl _)
    rw [List.take_length] at hlen
    have e : joinB (l.map (fun v => (⟨(shL v).toArray⟩ : ByteArray))) ⟨#[44]⟩ = unitsB l := by
      unfold joinB unitsB unitsL
      rw [List.map_map]
      rfl
    rw [if_neg (by omega), List.take_of_length_le (by omega), List.replicate_zero, List.append_nil]
    unfold strings_Join.f
    rw [e, if_pos ⟨by rw [List.length_map]; omega, by show (unitsL l).toArray.size ≤ _; rw [List.size_toArray]; omega⟩]
    rfl
  | d + 1, k, i, hi, hk => by
    obtain ⟨k, rfl⟩ : ∃ m, k = m + 1 := ⟨k - 1, by omega⟩
    have hb := hl l[i] (List.getElem_mem _)
    have e1 : wrap64 ((i : Int) + 1) = ((i + 1 : Nat) : Int) := by unfold wrap64; omega
    have ih := units_go l hl hn d k (i + 1) (by omega) (by omega)
    have hml : ((l.take i).map (fun v => (⟨(shL v).toArray⟩ : ByteArray))).length = i := by rw [List.length_map, List.length_take]; omega
    unfold prop_ShowUnit.l0
    rw [if_pos (by omega), if_pos (by omega), if_pos (by omega), rd_get l i (by omega), show_eq _ hb, Option.bind_some, if_pos (by rw [List.length_append, hml, List.length_replicate]; omega), e1]
    rw [take_succ' l i (by omega), List.map_append, List.map_singleton, List.append_assoc] at ih
    rw [Int.toNat_natCast, List.set_append_right _ _ (by omega), hml, Nat.sub_self, List.replicate_succ, List.set_cons_zero]
    exact ih
theorem units_eq (k : Nat) (l : List Int) (hl : U32L l) (hn : l.length ≤ 1000000000) (hk : l.length + 1 ≤ k) : prop_ShowUnit.f k l = some (unitsB l) := by
  have h := units_go l hl hn l.length k 0 (by omega) hk
  unfold prop_ShowUnit.f
  rw [if_pos (by omega), Int.toNat_natCast, if_pos (by omega)]
  exact h
end Go.Proofs.YtlhnaplmphdhlaaDoor.Q
end
section
namespace Go.Proofs.YtlhnaplmphdhlaaDoor.Q
open Go.RowKit Go.Proofs.YtlhnaplmphdhlaaDoorW.PrintWords Go.Proofs.YtlhnaplmphdhlaaDoorW.PrintLast
def strings_IndexByte.f (a0 : ByteArray) (a1 : Int) : Option Int := some (Lib.indexByte a0.data.toList a1.toNat.toUInt8)
theorem strings_IndexByte.calls (a0 : ByteArray) (a1 : Int) (r : Int) (w : World) (h : strings_IndexByte.f a0 a1 = some r) : Calls Tryd.prog 45 #[.string a0, .int .u8 a1] w fun e w' => e = .returned (.int .i64 r) ∧ Below w.heap.size w w' := by
  obtain rfl := Option.some.inj h
  refine (Tryd.strings_IndexByte a0 a1 w).mono ?_
  rintro e w' ⟨rfl, rfl⟩
  exact ⟨rfl, Below.refl _ _⟩
end Go.Proofs.YtlhnaplmphdhlaaDoor.Q
end
section
namespace Go.Proofs.YtlhnaplmphdhlaaDoor.Q
open Go.RowKit Go.Proofs.YtlhnaplmphdhlaaDoorW.PrintWords Go.Proofs.YtlhnaplmphdhlaaDoorW.PrintLast Go.Proofs.YtlhnaplmphdhlaaDoorW.PrintMore
set_option linter.unusedVariables false
set_option linter.unusedSimpArgs false

attribute [local go_sem] max2_int min2_int max_two min_two max_three min_three max_four min_four
/-! ### prop_Named: function 15 -/
mutual
def prop_Named.j0 : Nat → ByteArray → Bool → Option (Bool)
  | 0, _, _ => none
  | k + 1, x0, x11 => if x11 = true then (some false) else (prop_Named.l0 k x0 (x0.size : Int) 0)
def prop_Named.l0 : Nat → ByteArray → Int → Int → Option (Bool)
  | 0, _, _, _ => none
  | k + 1, x0, x13, x14 => if x14 < x13 then (if 0 ≤ x14 then (if x14 < (x0.size : Int) then (if (bt x0 x14) ≤ 32 then (prop_Named.j2 k x0 (bt x0 x14) x13 x14 true) else (if (bt x0 x14) > 126 then (prop_Named.j2 k x0 (bt x0 x14) x13 x14 true) else (if (bt x0 x14) ≥ 65 then (prop_Named.j2 k x0 (bt x0 x14) x13 x14 (decide ((bt x0 x14) ≤ 90))) else (prop_Named.j2 k x0 (bt x0 x14) x13 x14 false)))) else (none)) else (none)) else (some true)
def prop_Named.j2 : Nat → ByteArray → Int → Int → Int → Bool → Option (Bool)
  | 0, _, _, _, _, _ => none
  | k + 1, x0, x4, x13, x14, x20 => if x20 = true then (some false) else ((strings_IndexByte.f (⟨#[47, 92, 58, 91, 93, 64]⟩ : ByteArray) x4).bind fun t16001 => (if t16001 ≥ 0 then (some false) else (prop_Named.l0 k x0 x13 (wrap64 (x14 + 1)))))
end
def prop_Named.f (k : Nat) (a0 : ByteArray) : Option (Bool) := if a0.toList = ([] : List UInt8) then (prop_Named.j0 k a0 true) else (prop_Named.j0 k a0 (decide ((a0.size : Int) > 31)))
set_option maxHeartbeats 8000000 in
set_option maxRecDepth 100000 in
theorem prop_Named.calls (k : Nat) (a0 : ByteArray) (r : Bool) (w : World) (h : prop_Named.f k a0 = some r) :
    Calls Tryd.prog 15 #[.string a0] w fun e w' => e = .returned (.bool r) ∧ Below w.heap.size w w' := by
  have HB := Aside0.mk (Below.refl w.heap.size w)
  have H : (if a0.toList = ([] : List UInt8) then (prop_Named.j0 k a0 true) else (prop_Named.j0 k a0 (decide ((a0.size : Int) > 31)))) = some r := h
  clear h
  have HC2 := Aside0.mk H
  clear H
  go_enter Tryd.func15, Tryd.ntmps15
  go_upto_region 1 with (fail)
  go_cut [11] (fun v11 wc => ∃ (kq : Nat) (x11_1 : Bool), v11 = .bool x11_1 ∧ Aside0 (prop_Named.j0 kq a0 x11_1 = some r) ∧ Aside0 (kq ≤ k) ∧ Aside0 (Below w.heap.size w wc))
  case first =>
    have H := HC2.out
    clear HC2
    by_cases c3 : a0.toList = ([] : List UInt8)
    · rw [if_pos c3] at H
      have c3b0 : (a0.toList == ([] : List UInt8)) = true := beq_iff_eq.mpr c3
      have c3b1 : (a0.toList != ([] : List UInt8)) = false := bne_eq_false_iff_eq.mpr c3
      clear c3
      (first | rw [c3b0] | (simp only [i64_w, i32_w]; rw [c3b0]) | skip)
      have H' := Aside0.mk H
      clear H
      go_wp2
      go_meet
      case rel => exact ⟨_, (true), (by first | rfl | (simp; done) | (simp [*]; done)), H', ⟨by first | omega | exact Nat.le_refl _⟩, ⟨by repeat (first | (with_reducible first | exact HB.out | apply below_alloc | apply pw_below_drewN | apply below_drew1) | exact HB.out)⟩⟩
    · rw [if_neg c3] at H
      have c3b0 : (a0.toList == ([] : List UInt8)) = false := beq_eq_false_iff_ne.mpr c3
      have c3b1 : (a0.toList != ([] : List UInt8)) = true := bne_iff_ne.mpr c3
      (first | rw [c3b0] | (simp only [i64_w, i32_w]; rw [c3b0]) | skip)
      have H' := Aside0.mk H
      clear H
      go_wp2
      go_meet
      case rel => exact ⟨_, (decide ((a0.size : Int) > 31)), (by first | rfl | (simp; done) | (simp [*]; done)), H', ⟨by first | omega | exact Nat.le_refl _⟩, ⟨by repeat (first | (with_reducible first | exact HB.out | apply below_alloc | apply pw_below_drewN | apply below_drew1) | exact HB.out)⟩⟩
  case rest =>
    clear HC2
    try clear c1
    try clear p2
    try clear c3
    try clear c3b0
    try clear c3b1
    obtain ⟨kq, x11_1, rfl, HA, HJ1, HB⟩ := hcut
    cases kq with
    | zero => exact absurd HA.out (by simp [prop_Named.j0])
    | succ kj1 =>
      have H := HA.out
      clear HA
      simp only [prop_Named.j0] at H
      by_cases c4 : x11_1 = true
      · subst c4
        have H1 : (some false) = some r := by rw [if_pos rfl] at H; exact H
        clear H
        have H := H1
        clear H1
        obtain rfl := Option.some.inj H
        go_wp2
        go_ret
        exact ⟨by first | rfl | (simp [errW_none, errW_some] <;> rfl) | (simp [*, errW_none, errW_some] <;> rfl), by repeat (first | (with_reducible first | exact HB.out | apply below_alloc | apply pw_below_drewN | apply below_drew1) | exact HB.out)⟩
      · replace c4 := Bool.eq_false_iff.mpr c4
        subst c4
        have H1 : (prop_Named.l0 kj1 a0 (a0.size : Int) 0) = some r := by rw [if_neg (show ¬ (false = true) by decide)] at H; exact H
        clear H
        have H := H1
        clear H1
        have H' := Aside0.mk H
        clear H
        go_wp2
        go_loopg [14] kj1 (fun kq v14 w' => ∃ (x14_2 : Int), v14 = .int .i64 x14_2 ∧ Aside0 (prop_Named.l0 kq a0 (a0.size : Int) x14_2 = some r) ∧ Aside0 (kq ≤ kj1) ∧ Aside0 (Below w.heap.size w w'))
        case atStart => exact ⟨(0), (by first | rfl | (simp; done) | (simp [*]; done)), H', ⟨Nat.le_refl _⟩, ⟨by repeat (first | (with_reducible first | exact HB.out | apply below_alloc | apply pw_below_drewN | apply below_drew1) | exact HB.out)⟩⟩
        case round =>
          clear H'
          try clear c1
          try clear p2
          try clear c3
          try clear c3b0
          try clear c3b1
          try clear c4
          try clear p2
          obtain ⟨x14_2, rfl, HA, HK2, HB⟩ := hrel
          cases gk with
          | zero => exact absurd HA.out (by simp [prop_Named.l0])
          | succ k2 =>
            have H := HA.out
            clear HA
            simp only [prop_Named.l0] at H
            by_cases c5 : x14_2 < (a0.size : Int)
            · rw [if_pos c5] at H
              have c5b0 : decide (x14_2 < (a0.size : Int)) = true := decide_eq_true c5
              clear c5
              by_cases c6 : 0 ≤ x14_2
              · rw [if_pos c6] at H
                have c6b0 : decide (0 ≤ x14_2) = true := decide_eq_true c6
                clear c6
                by_cases c7 : x14_2 < (a0.size : Int)
                · rw [if_pos c7] at H
                  have c7b0 : decide (x14_2 < (a0.size : Int)) = true := decide_eq_true c7
                  clear c7
                  have HC9 := Aside0.mk H
                  clear H
                  have p8 : 0 ≤ (x14_2 : Int) := of_decide_eq_true (by first | (with_reducible assumption) | assumption)
                  have q8 : x14_2 < (a0.size : Int) := of_decide_eq_true (by first | (with_reducible assumption) | assumption)
                  have hx8 := bt_at a0 x14_2
                  replace p8 := eq_true p8
                  replace q8 := eq_true q8
                  go_upto_region 7 with (fail)
                  go_cut [20] (fun v20 wc => ∃ (kq : Nat) (x20_8 : Bool), v20 = .bool x20_8 ∧ Aside0 (prop_Named.j2 kq a0 (bt a0 x14_2) (a0.size : Int) x14_2 x20_8 = some r) ∧ Aside0 (kq ≤ k2) ∧ Aside0 (Below w.heap.size w wc))
                  case first =>
                    have H := HC9.out
                    clear HC9
                    by_cases c10 : (bt a0 x14_2) ≤ 32
                    · rw [if_pos c10] at H
                      have c10b0 : decide ((bt a0 x14_2) ≤ 32) = true := decide_eq_true c10
                      clear c10
                      (first | rw [c10b0] | (simp only [i64_w, i32_w]; rw [c10b0]) | skip)
                      have H' := Aside0.mk H
                      clear H
                      go_wp2
                      go_meet
                      case rel => exact ⟨_, (true), (by first | rfl | (simp; done) | (simp [*]; done)), H', ⟨by have := HJ1.out; have := HK2.out; first | omega | exact Nat.le_refl _⟩, ⟨by repeat (first | (with_reducible first | exact HB.out | apply below_alloc | apply pw_below_drewN | apply below_drew1) | exact HB.out)⟩⟩
                    · rw [if_neg c10] at H
                      have c10b0 : decide ((bt a0 x14_2) ≤ 32) = false := decide_eq_false c10
                      clear c10
                      (first | rw [c10b0] | (simp only [i64_w, i32_w]; rw [c10b0]) | skip)
                      by_cases c11 : (bt a0 x14_2) > 126
                      · rw [if_pos c11] at H
                        have c11b0 : decide (126 < (bt a0 x14_2)) = true := decide_eq_true c11
                        clear c11
                        have H' := Aside0.mk H
                        clear H
                        go_wp2
                        go_meet
                        case rel => exact ⟨_, (true), (by first | rfl | (simp; done) | (simp [*]; done)), H', ⟨by have := HJ1.out; have := HK2.out; first | omega | exact Nat.le_refl _⟩, ⟨by repeat (first | (with_reducible first | exact HB.out | apply below_alloc | apply pw_below_drewN | apply below_drew1) | exact HB.out)⟩⟩
                      · rw [if_neg c11] at H
                        have c11b0 : decide (126 < (bt a0 x14_2)) = false := decide_eq_false c11
                        clear c11
                        by_cases c12 : (bt a0 x14_2) ≥ 65
                        · rw [if_pos c12] at H
                          have c12b0 : decide (65 ≤ (bt a0 x14_2)) = true := decide_eq_true c12
                          clear c12
                          have H' := Aside0.mk H
                          clear H
                          go_wp2
                          go_meet
                          case rel => exact ⟨_, (decide ((bt a0 x14_2) ≤ 90)), (by first | rfl | (simp; done) | (simp [*]; done)), H', ⟨by have := HJ1.out; have := HK2.out; first | omega | exact Nat.le_refl _⟩, ⟨by repeat (first | (with_reducible first | exact HB.out | apply below_alloc | apply pw_below_drewN | apply below_drew1) | exact HB.out)⟩⟩
                        · rw [if_neg c12] at H
                          have c12b0 : decide (65 ≤ (bt a0 x14_2)) = false := decide_eq_false c12
                          clear c12
                          have H' := Aside0.mk H
                          clear H
                          go_wp2
                          go_meet
                          case rel => exact ⟨_, (false), (by first | rfl | (simp; done) | (simp [*]; done)), H', ⟨by have := HJ1.out; have := HK2.out; first | omega | exact Nat.le_refl _⟩, ⟨by repeat (first | (with_reducible first | exact HB.out | apply below_alloc | apply pw_below_drewN | apply below_drew1) | exact HB.out)⟩⟩
                  case rest =>
                    clear HC9
                    try clear c1
                    try clear p2
                    try clear c3
                    try clear c3b0
                    try clear c3b1
                    try clear c4
                    try clear c5
                    try clear c5b0
                    try clear c6
                    try clear c6b0
                    try clear c7
                    try clear c7b0
                    try clear p8
                    try clear q8
                    try clear hx8
                    try clear c10
                    try clear c10b0
                    try clear c11
                    try clear c11b0
                    try clear c12
                    try clear c12b0
                    try clear p2
                    try clear p8
                    try clear q8
                    obtain ⟨kq, x20_8, rfl, HA, HJ8, HB⟩ := hcut
                    cases kq with
                    | zero => exact absurd HA.out (by simp [prop_Named.j2])
                    | succ kj8 =>
                      have H := HA.out
                      clear HA
                      simp only [prop_Named.j2] at H
                      by_cases c13 : x20_8 = true
                      · subst c13
                        have H1 : (some false) = some r := by rw [if_pos rfl] at H; exact H
                        clear H
                        have H := H1
                        clear H1
                        obtain rfl := Option.some.inj H
                        go_wp2
                        go_ret
                        exact ⟨by first | rfl | (simp [errW_none, errW_some] <;> rfl) | (simp [*, errW_none, errW_some] <;> rfl), by repeat (first | (with_reducible first | exact HB.out | apply below_alloc | apply pw_below_drewN | apply below_drew1) | exact HB.out)⟩
                      · replace c13 := Bool.eq_false_iff.mpr c13
                        subst c13
                        have H1 : ((strings_IndexByte.f (⟨#[47, 92, 58, 91, 93, 64]⟩ : ByteArray) (bt a0 x14_2)).bind fun t16001 => (if t16001 ≥ 0 then (some false) else (prop_Named.l0 kj8 a0 (a0.size : Int) (wrap64 (x14_2 + 1))))) = some r := by rw [if_neg (show ¬ (false = true) by decide)] at H; exact H
                        clear H
                        have H := H1
                        clear H1
                        replace H := Option.bind_eq_some_iff.mp H
                        obtain ⟨t16001, A140, H⟩ := H
                        replace H : (if t16001 ≥ 0 then (some false) else (prop_Named.l0 kj8 a0 (a0.size : Int) (wrap64 (x14_2 + 1)))) = some r := H
                        have A14 := Aside0.mk A140
                        clear A140
                        by_cases c15 : t16001 ≥ 0
                        · rw [if_pos c15] at H
                          have c15b0 : decide (0 ≤ t16001) = true := decide_eq_true c15
                          clear c15
                          obtain rfl := Option.some.inj H
                          go_wp2_with (first | ((with_reducible refine gate_callee (f := 45) rfl ?_); refine goesL_ (some 37) rfl rfl Tryd.func45 (by kernel_rfl) rfl #[.string (⟨#[47, 92, 58, 91, 93, 64]⟩ : ByteArray), .int .u8 (bt a0 x14_2)] rfl (by (try simp only [List.map_toArray, List.map_cons, List.map_nil]); first | done | rfl | (simp only [List.length_drop, List.length_take]; rfl)) ?_; (with_reducible refine (strings_IndexByte.calls (⟨#[47, 92, 58, 91, 93, 64]⟩ : ByteArray) (bt a0 x14_2) t16001 _ A14.out).mono ?_); rintro e w16 ⟨rfl, hb⟩; refine ⟨_, rfl, ?_⟩; have n0_ := Aside0.mk (below_step (by repeat (first | (with_reducible first | exact HB.out | apply below_alloc | apply pw_below_drewN | apply below_drew1) | exact HB.out)) hb); clear HB; have HB := n0_; clear n0_; (try clear hb); (try clear hb2); (try clear hk); (try clear hi)))
                          go_ret
                          exact ⟨by first | rfl | (simp [errW_none, errW_some] <;> rfl) | (simp [*, errW_none, errW_some] <;> rfl), by repeat (first | (with_reducible first | exact HB.out | apply below_alloc | apply pw_below_drewN | apply below_drew1) | exact HB.out)⟩
                        · rw [if_neg c15] at H
                          have c15b0 : decide (0 ≤ t16001) = false := decide_eq_false c15
                          clear c15
                          have H' := Aside0.mk H
                          clear H
                          go_wp2_with (first | ((with_reducible refine gate_callee (f := 45) rfl ?_); refine goesL_ (some 37) rfl rfl Tryd.func45 (by kernel_rfl) rfl #[.string (⟨#[47, 92, 58, 91, 93, 64]⟩ : ByteArray), .int .u8 (bt a0 x14_2)] rfl (by (try simp only [List.map_toArray, List.map_cons, List.map_nil]); first | done | rfl | (simp only [List.length_drop, List.length_take]; rfl)) ?_; (with_reducible refine (strings_IndexByte.calls (⟨#[47, 92, 58, 91, 93, 64]⟩ : ByteArray) (bt a0 x14_2) t16001 _ A14.out).mono ?_); rintro e w17 ⟨rfl, hb⟩; refine ⟨_, rfl, ?_⟩; have n0_ := Aside0.mk (below_step (by repeat (first | (with_reducible first | exact HB.out | apply below_alloc | apply pw_below_drewN | apply below_drew1) | exact HB.out)) hb); clear HB; have HB := n0_; clear n0_; (try clear hb); (try clear hb2); (try clear hk); (try clear hi)))
                          go_roundg kj8
                          case measure => have := HJ1.out; have := HK2.out; have := HJ8.out; omega
                          case rel => exact ⟨(wrap64 (x14_2 + 1)), (by first | rfl | (simp; done) | (simp [*]; done)), H', ⟨by have := HJ1.out; have := HK2.out; have := HJ8.out; omega⟩, ⟨by repeat (first | (with_reducible first | exact HB.out | apply below_alloc | apply pw_below_drewN | apply below_drew1) | exact HB.out)⟩⟩
                · rw [if_neg c7] at H
                  exact absurd H (by simp)
              · rw [if_neg c6] at H
                exact absurd H (by simp)
            · rw [if_neg c5] at H
              have c5b0 : decide (x14_2 < (a0.size : Int)) = false := decide_eq_false c5
              clear c5
              obtain rfl := Option.some.inj H
              go_wp2
              go_ret
              exact ⟨by first | rfl | (simp [errW_none, errW_some] <;> rfl) | (simp [*, errW_none, errW_some] <;> rfl), by repeat (first | (with_reducible first | exact HB.out | apply below_alloc | apply pw_below_drewN | apply below_drew1) | exact HB.out)⟩

end Go.Proofs.YtlhnaplmphdhlaaDoor.Q
end
section
namespace Go.Proofs.YtlhnaplmphdhlaaDoor.Q
open Go.RowKit Go.Proofs.YtlhnaplmphdhlaaDoorW.PrintWords Go.Proofs.YtlhnaplmphdhlaaDoorW.PrintLast Go.Proofs.YtlhnaplmphdhlaaDoorW.PrintMore
set_option linter.unusedVariables false
set_option linter.unusedSimpArgs false

attribute [local go_sem] max2_int min2_int max_two min_two max_three min_three max_four min_four
/-! ### tinderref05_Named: function 16 -/
mutual
def tinderref05_Named.j0 : Nat → ByteArray → Bool → Option (Bool)
  | 0, _, _ => none
  | k + 1, x0, x13 => if x13 = true then (some false) else (tinderref05_Named.l0 k x0 0)
def tinderref05_Named.l0 : Nat → ByteArray → Int → Option (Bool)
  | 0, _, _ => none
  | k + 1, x0, x3 => if x3 < (x0.size : Int) then (if 0 ≤ x3 then (if (bt x0 x3) < 33 then (tinderref05_Named.j2 k x0 x3 (bt x0 x3) true) else (if (bt x0 x3) > 126 then (tinderref05_Named.j2 k x0 x3 (bt x0 x3) true) else (if (bt x0 x3) ≥ 65 then (tinderref05_Named.j2 k x0 x3 (bt x0 x3) (decide ((bt x0 x3) ≤ 90))) else (tinderref05_Named.j2 k x0 x3 (bt x0 x3) false)))) else (none)) else (some true)
def tinderref05_Named.j2 : Nat → ByteArray → Int → Int → Bool → Option (Bool)
  | 0, _, _, _, _ => none
  | k + 1, x0, x3, x4, x36 => if x36 = true then (some false) else (tinderref05_Named.l1 k x0 x3 x4 0)
def tinderref05_Named.l1 : Nat → ByteArray → Int → Int → Int → Option (Bool)
  | 0, _, _, _, _ => none
  | k + 1, x0, x3, x4, x5 => if x5 < 6 then (if 0 ≤ x5 then (if x4 = (bt (⟨#[47, 92, 58, 91, 93, 64]⟩ : ByteArray) x5) then (some false) else (tinderref05_Named.l1 k x0 x3 x4 (wrap64 (x5 + 1)))) else (none)) else (tinderref05_Named.l0 k x0 (wrap64 (x3 + 1)))
end
def tinderref05_Named.f (k : Nat) (a0 : ByteArray) : Option (Bool) := if (a0.size : Int) < 1 then (tinderref05_Named.j0 k a0 true) else (tinderref05_Named.j0 k a0 (decide ((a0.size : Int) > 31)))

end Go.Proofs.YtlhnaplmphdhlaaDoor.Q
end
section
set_option linter.unusedSimpArgs false
set_option linter.unusedVariables false
namespace Go.Proofs.YtlhnaplmphdhlaaDoor.Q
open Go.RowKit Go.Proofs.YtlhnaplmphdhlaaDoorW.PrintWords Go.Proofs.YtlhnaplmphdhlaaDoorW.PrintLast
def badB (c : Int) : Bool := decide (c = 47) || decide (c = 92) || decide (c = 58) || decide (c = 91) || decide (c = 93) || decide (c = 64)
def okC (c : Int) : Bool := decide (33 ≤ c) && decide (c ≤ 126) && !(decide (65 ≤ c) && decide (c ≤ 90)) && !badB c
def namedF (s : ByteArray) : Bool := decide (1 ≤ s.size) && decide (s.size ≤ 31) && (bytesOf s).all okC
theorem bad_all : ((List.range 256).all fun (c : Nat) => decide (0 ≤ Lib.indexByte (⟨#[47, 92, 58, 91, 93, 64]⟩ : ByteArray).data.toList ((c : Int).toNat.toUInt8)) == badB (c : Int)) = true := by kernel_rfl
theorem bad_idx (c : Int) (h : 0 ≤ c ∧ c ≤ 255) : decide (0 ≤ Lib.indexByte (⟨#[47, 92, 58, 91, 93, 64]⟩ : ByteArray).data.toList c.toNat.toUInt8) = badB c := by
  have h1 := List.all_eq_true.1 bad_all c.toNat (List.mem_range.2 (by omega))
  rw [beq_iff_eq, show ((c.toNat : Nat) : Int) = c by omega] at h1
  exact h1
theorem named_go (s : ByteArray) (hs : s.size ≤ 31) : ∀ (d k : Nat) (i : Int), 0 ≤ i → i + d = s.size → 2 * d + 2 ≤ k → prop_Named.l0 k s s.size i = some (((bytesOf s).drop i.toNat).all okC)
  | 0, k, i, h0, h1, hk => by
    obtain ⟨k, rfl⟩ : ∃ m, k = m + 1 := ⟨k - 1, by omega⟩
    rw [prop_Named.l0, if_neg (by omega), List.drop_eq_nil_of_le (by rw [bytesOf_length]; omega)]
    rfl
  | d + 1, k, i, h0, h1, hk => by
    obtain ⟨k, rfl⟩ : ∃ m, k = m + 1 + 1 := ⟨k - 2, by omega⟩
    have hb := bt_range s i
    have ih := named_go s hs d k (i + 1) (by omega) (by omega) (by omega)
    have hw : wrap64 (i + 1) = i + 1 := by unfold wrap64; omega
    rw [prop_Named.l0, if_pos (by omega), if_pos h0, if_pos (by omega), bytes_at s i h0 (by omega), List.all_cons]
    have ht : prop_Named.j2 (k + 1) s (bt s i) s.size i true = some false := by rw [prop_Named.j2, if_pos rfl]
    have hf : prop_Named.j2 (k + 1) s (bt s i) s.size i false = some (!badB (bt s i) && ((bytesOf s).drop (i + 1).toNat).all okC) := by
      rw [prop_Named.j2, if_neg (by decide), strings_IndexByte.f, Option.bind_some, hw, ih, ← bad_idx (bt s i) hb]
      by_cases hx : 0 ≤ Lib.indexByte (⟨#[47, 92, 58, 91, 93, 64]⟩ : ByteArray).data.toList (bt s i).toNat.toUInt8
      · rw [if_pos hx]; simp [hx]
      · rw [if_neg hx]; simp [hx]
    rw [show okC (bt s i) = (decide (33 ≤ bt s i) && decide (bt s i ≤ 126) && !(decide (65 ≤ bt s i) && decide (bt s i ≤ 90)) && !badB (bt s i)) from rfl]
    by_cases h2 : bt s i ≤ 32
    · rw [if_pos h2, ht]
      simp [show ¬ 33 ≤ bt s i by omega]
    · rw [if_neg h2]
      by_cases h3 : bt s i > 126
      · rw [if_pos h3, ht]
        simp [show ¬ bt s i ≤ 126 by omega]
      · rw [if_neg h3]
        by_cases h4 : bt s i ≥ 65
        · rw [if_pos h4]
          by_cases h5 : bt s i ≤ 90
          · rw [decide_eq_true h5, ht]
            simp [h5, show 65 ≤ bt s i by omega]
          · rw [decide_eq_false h5, hf]
            simp [h5, show 33 ≤ bt s i by omega, show bt s i ≤ 126 by omega]
        · rw [if_neg h4, hf]
          simp [show ¬ 65 ≤ bt s i by omega, show 33 ≤ bt s i by omega, show bt s i ≤ 126 by omega]
theorem named_eq (k : Nat) (hk : 100 ≤ k) (s : ByteArray) : prop_Named.f k s = some (namedF s) := by
  obtain ⟨k, rfl⟩ : ∃ m, k = m + 1 := ⟨k - 1, by omega⟩
  unfold prop_Named.f namedF
  by_cases h0 : s.size = 0
  · rw [if_pos ((empty_iff s).2 h0), prop_Named.j0, if_pos rfl]
    simp [h0]
  · rw [if_neg (fun h => h0 ((empty_iff s).1 h)), prop_Named.j0]
    by_cases h1 : (s.size : Int) > 31
    · rw [decide_eq_true h1, if_pos rfl]
      simp [show ¬ s.size ≤ 31 by omega]
    · rw [decide_eq_false h1, if_neg (by decide), named_go s (by omega) s.size k 0 (Int.le_refl 0) (by omega) (by omega)]
      simp [show 1 ≤ s.size by omega, show s.size ≤ 31 by omega]
end Go.Proofs.YtlhnaplmphdhlaaDoor.Q
end
