/- Contracts of Go functions and plain facts, of several texts, one behind the other; no condition. -/
import Derived.Test.YtlhnaplmphdhlaaDoorRows
import Derived.Test.YtlhnaplmphdhlaaDoorMPropBack2
import Derived.Lib.LaidTab
import Derived.LaidMore
import Derived.ProofKit
import Derived.OpenShut
import Derived.MakeChecks
import Derived.Stop.LaidErr
import Derived.Shelf.Strings.Builder1
import Derived.Shelf.Strings.Builder2
import Derived.Shelf.Strings.OnBuilder
import Derived.Shelf.Small.Strs
import Derived.Shelf.Small.Wraps
import Derived.Shelf.Strings.BuilderF
import Derived.Shelf.Strings.BuilderK
import Derived.Shelf.Utf8.RuneCount
import Derived.Shelf.Strings.Builder2Cap
import Derived.Shelf.Strconv.Itoa0
import Derived.Shelf.Strconv.Itoa1
import Derived.Shelf.LaysM
import Derived.Shelf.Strconv.Itoa2
import Derived.Shelf.Strings.Search1
import Derived.Shelf.Strings.Search2
import Derived.Shelf.Strings.Search3
import Derived.Shelf.Strings.Cut
import Derived.Shelf.Strings.Count
import Derived.Shelf.Strings.Shaped
import Derived.Shelf.Strings.Prefix
import Derived.Shelf.Strings.Split
import Derived.Shelf.Strings.SplitShaped
import Derived.Shelf.Unicode.Decode
import Derived.Shelf.Strings.RuneCount
import Derived.Shelf.Strings.Explode
import Derived.Shelf.Unicode.DecodeSlow
import Derived.Shelf.Unicode.DecodeAny
import Derived.Shelf.Strings.BuilderCap
import Derived.Shelf.Bytes.SlIndexSmall
import Derived.Shelf.Bytes.SlIndexAt
import Derived.Shelf.Bytes.SlSearch0
import Derived.Shelf.Bytes.SlSearch1
import Derived.Shelf.Bytes.Small
import Derived.Shelf.Bytes.IndexByte
import Derived.Test.YtlhnaplmphdhlaaDoorProg
import Derived.Lib.IndexLaws
import Derived.RangeFuncNested
import Derived.RangeFuncBound
import Derived.RangeFuncCalls
import Derived.RangeFuncLeaves
import Derived.OwnWalkIn
import Derived.OrdersIn
import Derived.Below
import Derived.Shelf.Abstract
import Derived.WalkKit
import Derived.TacticsInMore
import Derived.LoopNIn
import Derived.LoopIn
import Derived.Maps.AppendAt
import Derived.Sort.QuietIn
import Derived.Lib.Strings
import Derived.RangeFuncWrites
import Derived.RangeFuncBox
import Derived.ArgAppend
import Derived.Lib.AppendStr
import Derived.Lib.CountLaws
import Derived.Lib.IndexBytes
import Derived.Lib.Split
import Derived.Laws.OwnMore
import Derived.Lib.SplitLaws
section
set_option linter.unusedVariables false
namespace Go.Proofs.YtlhnaplmphdhlaaDoor.QB
open Go.ChangeShapes Go.WideShapes Go.ChangeAt Go.RowKit
def laidL : List (String × DataW Unit) := Rows.propUnitsRow.laid
def tab_bits_deBruijn32tab : List Int := [0, 1, 28, 2, 29, 14, 24, 3, 30, 22, 20, 15, 25, 17, 4, 8, 31, 27, 13, 23, 21, 19, 16, 7, 26, 12, 18, 6, 11, 5, 10, 9]
def tab_bits_deBruijn64tab : List Int := [0, 1, 56, 2, 57, 49, 28, 3, 61, 58, 42, 50, 38, 29, 17, 4, 62, 47, 59, 36, 45, 43, 51, 22, 53, 39, 33, 30, 24, 18, 12, 5, 63, 55, 48, 27, 60, 41, 37, 16, 46, 35, 44, 21, 52, 32, 23, 11, 54, 26, 40, 15, 34, 20, 31, 10, 25, 14, 19, 9, 13, 8, 7, 6]
def tab_strconv_uint64pow10 : List Int := [1, 10, 100, 1000, 10000, 100000, 1000000, 10000000, 100000000, 1000000000, 10000000000, 100000000000, 1000000000000, 10000000000000, 100000000000000, 1000000000000000, 10000000000000000, 100000000000000000, 1000000000000000000, 10000000000000000000]
structure Tabs (w : World) : Prop where
  bits_deBruijn32tab : Lib.TabIs Tryd.prog w "math/bits.deBruijn32tab" .u8 tab_bits_deBruijn32tab
  bits_deBruijn64tab : Lib.TabIs Tryd.prog w "math/bits.deBruijn64tab" .u8 tab_bits_deBruijn64tab
  strconv_uint64pow10 : Lib.TabIs Tryd.prog w "internal/strconv.uint64pow10" .u64 tab_strconv_uint64pow10
theorem tabs_of_laid {W : World} (h : laidMetH Tryd.prog laidL W) : Tabs W := by
  rw [MakeChecks.laidMetH_plain _ _ _ (by kernel_rfl)] at h
  refine ⟨?_, ?_, ?_⟩
  · exact Lib.tabIs_of_head (g := 4) (t := 138) (e := 5) (n := 32) (by kernel_rfl) (by kernel_rfl) Tryd.underlying138 Tryd.underlying5 (by kernel_rfl) (by kernel_rfl) (show laidMet Tryd.prog ((_, Lib.tabData _ _) :: _) W from h)
  · exact Lib.tabIs_of_head (g := 5) (t := 139) (e := 5) (n := 64) (by kernel_rfl) (by kernel_rfl) Tryd.underlying139 Tryd.underlying5 (by kernel_rfl) (by kernel_rfl) (show laidMet Tryd.prog ((_, Lib.tabData _ _) :: _) W from h.tail)
  · exact Lib.tabIs_of_head (g := 3) (t := 132) (e := 100) (n := 20) (by kernel_rfl) (by kernel_rfl) Tryd.underlying132 Tryd.underlying100 (by kernel_rfl) (by kernel_rfl) (show laidMet Tryd.prog ((_, Lib.tabData _ _) :: _) W from h.tail.tail)
theorem var_below {P : Program} {g : Nat} {W W' : World} {n : String} {cs : Array Value} (h : Below W.heap.size W W') (hg : P.globalNamed n = some g) (hv : W.var? P n = some cs) : W'.var? P n = some cs := by
  unfold World.var? at hv ⊢
  simp only [hg, Option.bind_some] at hv ⊢
  rw [h.block g (by
    rcases Nat.lt_or_ge g W.heap.size with h1 | h1
    · exact h1
    · rw [Array.getElem?_eq_none h1] at hv
      simp at hv)]
  exact hv
theorem Tabs.below {w w1 : World} (h : Tabs w) (hb : Below w.heap.size w w1) : Tabs w1 :=
  ⟨var_below hb (g := 4) (by kernel_rfl) h.bits_deBruijn32tab, var_below hb (g := 5) (by kernel_rfl) h.bits_deBruijn64tab, var_below hb (g := 3) (by kernel_rfl) h.strconv_uint64pow10⟩
theorem Tabs.at_bits_deBruijn64tab {w : World} (h : Tabs w) (i : Nat) (hi : i < 64) : w.cell? ⟨5, i, none⟩ = some (.int .u8 (tab_bits_deBruijn64tab.getD i 0)) := h.bits_deBruijn64tab.cell (by kernel_rfl) i hi
end Go.Proofs.YtlhnaplmphdhlaaDoor.QB
end
section
namespace Go.Proofs.YtlhnaplmphdhlaaDoor.Q
open Go.RowKit Go.Proofs.YtlhnaplmphdhlaaDoorW.PrintWords Go.Proofs.YtlhnaplmphdhlaaDoorW.PrintLast Go.Proofs.YtlhnaplmphdhlaaDoorW.PrintMore
def slices_Clone_byte_byte.f (l0 : List Int) : Option (List Int) := if l0.length * 1 < 140737488355328 then some l0 else none
end Go.Proofs.YtlhnaplmphdhlaaDoor.Q
end
section
namespace Go.Proofs
open Go.Shelf
def Tryd.lays156_ren : Go.Shelf.Ren := ⟨fun | 156 => 57 | 165 => 78 | 166 => 64 | 169 => 66 | 240 => 82 | 241 => 96 | 276 => 100 | 277 => 110 | n => n, fun | 31 => 39 | 9 => 9 | 3 => 3 | 4 => 4 | 0 => 0 | 20 => 20 | 72 => 87 | 76 => 91 | 70 => 85 | 37 => 25 | 75 => 90 | 127 => 108 | 164 => 115 | 5 => 5 | 80 => 94 | n => n, fun | n => n⟩
theorem Tryd.lays156 : Go.Proofs.Lays.n156 Tryd.prog Tryd.lays156_ren := {
  mixed := by kernel_rfl
  f156 := Tryd.func57.trans (congrArg some (by kernel_rfl))
  f165 := Tryd.func78.trans (congrArg some (by kernel_rfl))
  f166 := Tryd.func64.trans (congrArg some (by kernel_rfl))
  f169 := Tryd.func66.trans (congrArg some (by kernel_rfl))
  f240 := Tryd.func82.trans (congrArg some (by kernel_rfl))
  f241 := Tryd.func96.trans (congrArg some (by kernel_rfl))
  f276 := Tryd.func100.trans (congrArg some (by kernel_rfl))
  f277 := Tryd.func110.trans (congrArg some (by kernel_rfl))
  t0 := Tryd.underlying0
  a0 := Tryd.isAgg0
  z0 := Tryd.sizeOf0
  v0 := Tryd.zeroValue0
  t3 := Tryd.underlying3
  a3 := Tryd.isAgg3
  z3 := Tryd.sizeOf3
  v3 := Tryd.zeroValue3
  t4 := Tryd.underlying4
  a4 := Tryd.isAgg4
  z4 := Tryd.sizeOf4
  v4 := Tryd.zeroValue4
  t9 := Tryd.underlying9
  a9 := Tryd.isAgg9
  z9 := Tryd.sizeOf9
  v9 := Tryd.zeroValue9
  t20 := Tryd.underlying20
  a20 := Tryd.isAgg20
  z20 := Tryd.sizeOf20
  v20 := Tryd.zeroValue20
  t31 := Tryd.underlying39
  a31 := Tryd.isAgg39
  z31 := Tryd.sizeOf39
  v31 := Tryd.zeroValue39
  t37 := Tryd.underlying25
  a37 := Tryd.isAgg25
  z37 := Tryd.sizeOf25
  v37 := Tryd.zeroValue25
  t70 := Tryd.underlying85
  a70 := Tryd.isAgg85
  z70 := Tryd.sizeOf85
  v70 := Tryd.zeroValue85
  t72 := Tryd.underlying87
  a72 := Tryd.isAgg87
  z72 := Tryd.sizeOf87
  v72 := Tryd.zeroValue87
  t75 := Tryd.underlying90
  a75 := Tryd.isAgg90
  z75 := Tryd.sizeOf90
  v75 := Tryd.zeroValue90
  t76 := Tryd.underlying91
  a76 := Tryd.isAgg91
  z76 := Tryd.sizeOf91
  v76 := Tryd.zeroValue91
  t127 := Tryd.underlying108
  a127 := Tryd.isAgg108
  z127 := Tryd.sizeOf108
  v127 := Tryd.zeroValue108
  t164 := Tryd.underlying115
  a164 := Tryd.isAgg115
  z164 := Tryd.sizeOf115
  v164 := Tryd.zeroValue115 }
theorem Tryd.Builder_Extra_156 : Builder.Extra Tryd.prog Tryd.lays156_ren := {
  sizeBuilder := by kernel_rfl
  liesBuilder := by kernel_rfl
  t5 := Tryd.underlying5
  a5 := Tryd.isAgg5
  z5 := Tryd.sizeOf5
  v5 := Tryd.zeroValue5
  infoByte := by kernel_rfl
  cellsByte := by kernel_rfl
  sizeByte := by kernel_rfl
  neB5 := by decide }
open Go.RowKit in
/-- No element: the empty string; the world is as it was. (Whatever the slice's address and capacity: a nil slice too.) (LAID: no walk: one application.) -/
theorem Tryd.strings_Join_none (a : Option Addr) (c : Nat) (sep : ByteArray) (w : World) :
    Calls Tryd.prog 57 #[.slice a 0 c, .string sep] w fun e w' => e = .returned (.string ⟨#[]⟩) ∧ w' = w := Any.strings_Join_none Tryd.lays156 Tryd.Builder_Extra_156 a c sep w
open Go.RowKit in
/-- strings.Join: "Join concatenates the elements of its first argument to create a single string. The separator string sep is placed between elements in the resulting string.": HOWEVER MANY ELEMENTS. Below the heap's end the world is as it was. (LAID: no walk: one application.) -/
theorem Tryd.strings_Join (bk o c : Nat) (xs : List ByteArray) (sep : ByteArray) (w : World) (hcells : ∀ (j : Nat) x, xs[j]? = some x → w.cell? ⟨bk, o + j, none⟩ = some (.string x)) (hbk : bk < w.heap.size) (hN : xs.length ≤ 140737488355328) (hcap : xs.length ≤ c) (hlen : (Lib.join (xs.map (·.data.toList)) sep.data.toList).length ≤ 140737488355328) :
    Calls Tryd.prog 57 #[.slice (some ⟨bk, o, none⟩) xs.length c, .string sep] w fun e w' => e = .returned (.string ⟨(Lib.join (xs.map (·.data.toList)) sep.data.toList).toArray⟩) ∧ Below w.heap.size w w' := Any.strings_Join Tryd.lays156 Tryd.Builder_Extra_156 bk o c xs sep w hcells hbk hN hcap hlen
def Tryd.lays137_ren : Go.Shelf.Ren := ⟨fun | 137 => 45 | 217 => 67 | 266 => 83 | n => n, fun | 9 => 9 | 5 => 5 | 3 => 3 | n => n, fun | n => n⟩
theorem Tryd.lays137 : Go.Proofs.Lays.n137 Tryd.prog Tryd.lays137_ren := {
  mixed := by kernel_rfl
  f137 := Tryd.func45.trans (congrArg some (by kernel_rfl))
  f217 := Tryd.func67.trans (congrArg some (by kernel_rfl))
  f266 := Tryd.func83.trans (congrArg some (by kernel_rfl))
  t3 := Tryd.underlying3
  a3 := Tryd.isAgg3
  z3 := Tryd.sizeOf3
  v3 := Tryd.zeroValue3
  t5 := Tryd.underlying5
  a5 := Tryd.isAgg5
  z5 := Tryd.sizeOf5
  v5 := Tryd.zeroValue5
  t9 := Tryd.underlying9
  a9 := Tryd.isAgg9
  z9 := Tryd.sizeOf9
  v9 := Tryd.zeroValue9 }
open Go.RowKit in
/-- strings.IndexByte: "IndexByte returns the index of the first instance of c in s, or -1 if c is not present in s.": IT RETURNS 'Lib.indexByte s c'; the world is as it was. (LAID: no walk: one application.) -/
theorem Tryd.strings_IndexByte (s : ByteArray) (c : Int) (w : World) :
    Calls Tryd.prog 45 #[.string s, .int .u8 c] w fun e w' => e = .returned (.int .i64 (Lib.indexByte s.data.toList c.toNat.toUInt8)) ∧ w' = w := Any.strings_IndexByte Tryd.lays137 s c w
def Tryd.lays103_ren : Go.Shelf.Ren := ⟨fun | 103 => 59 | 210 => 79 | 206 => 97 | n => n, fun | 9 => 9 | 4 => 4 | 24 => 68 | 3 => 3 | n => n, fun | n => n⟩
def Tryd.lays104_ren : Go.Shelf.Ren := ⟨fun | 104 => 49 | 211 => 70 | 207 => 84 | n => n, fun | 9 => 9 | 4 => 4 | 24 => 68 | 3 => 3 | n => n, fun | n => n⟩
theorem Tryd.lays104 : Go.Proofs.Lays.n104 Tryd.prog Tryd.lays104_ren := {
  mixed := by kernel_rfl
  f104 := Tryd.func49.trans (congrArg some (by kernel_rfl))
  f207 := Tryd.func84.trans (congrArg some (by kernel_rfl))
  f211 := Tryd.func70.trans (congrArg some (by kernel_rfl))
  t3 := Tryd.underlying3
  a3 := Tryd.isAgg3
  z3 := Tryd.sizeOf3
  v3 := Tryd.zeroValue3
  t4 := Tryd.underlying4
  a4 := Tryd.isAgg4
  z4 := Tryd.sizeOf4
  v4 := Tryd.zeroValue4
  t9 := Tryd.underlying9
  a9 := Tryd.isAgg9
  z9 := Tryd.sizeOf9
  v9 := Tryd.zeroValue9
  t24 := Tryd.underlying68
  a24 := Tryd.isAgg68
  z24 := Tryd.sizeOf68
  v24 := Tryd.zeroValue68 }
open Go.RowKit in
/-- strings.CutSuffix: "CutSuffix returns s without the provided ending suffix string and reports whether it found the suffix. If s doesn't end with suffix, CutSuffix returns s, false. If suffix is the empty string, CutSuffix returns s, true.": IT RETURNS '(Lib.trimSuffix s p, Lib.hasSuffix s p)'; the world is as it was. (LAID: no walk: one application.) -/
theorem Tryd.strings_CutSuffix (s p : ByteArray) (w : World) (hs : s.size ≤ 9223372036854775807) :
    Calls Tryd.prog 49 #[.string s, .string p] w fun e w' => e = .returned (.tuple #[.string ⟨(Lib.trimSuffix s.data.toList p.data.toList).toArray⟩, .bool (Lib.hasSuffix s.data.toList p.data.toList)]) ∧ w' = w := Any.strings_CutSuffix Tryd.lays104 s p w hs
def Tryd.lays219_ren : Go.Shelf.Ren := ⟨fun | 219 => 99 | 217 => 67 | 225 => 111 | 224 => 90 | 267 => 112 | 266 => 83 | 314 => 118 | n => n, fun | 9 => 9 | 3 => 3 | 4 => 4 | 5 => 5 | 46 => 62 | 146 => 118 | 51 => 24 | n => n, fun | 1 => 0 | n => n⟩
def Tryd.lays143_ren : Go.Shelf.Ren := ⟨fun | 143 => 81 | 219 => 99 | 217 => 67 | 225 => 111 | 224 => 90 | 267 => 112 | 266 => 83 | 314 => 118 | n => n, fun | 9 => 9 | 3 => 3 | 4 => 4 | 5 => 5 | 46 => 62 | 146 => 118 | 51 => 24 | n => n, fun | 1 => 0 | n => n⟩
theorem Tryd.lays143 : Go.Proofs.Lays.n143 Tryd.prog Tryd.lays143_ren := {
  mixed := by kernel_rfl
  f143 := Tryd.func81.trans (congrArg some (by kernel_rfl))
  f217 := Tryd.func67.trans (congrArg some (by kernel_rfl))
  f219 := Tryd.func99.trans (congrArg some (by kernel_rfl))
  f224 := Tryd.func90.trans (congrArg some (by kernel_rfl))
  f225 := Tryd.func111.trans (congrArg some (by kernel_rfl))
  f266 := Tryd.func83.trans (congrArg some (by kernel_rfl))
  f267 := Tryd.func112.trans (congrArg some (by kernel_rfl))
  f314 := Tryd.func118.trans (congrArg some (by kernel_rfl))
  t3 := Tryd.underlying3
  a3 := Tryd.isAgg3
  z3 := Tryd.sizeOf3
  v3 := Tryd.zeroValue3
  t4 := Tryd.underlying4
  a4 := Tryd.isAgg4
  z4 := Tryd.sizeOf4
  v4 := Tryd.zeroValue4
  t5 := Tryd.underlying5
  a5 := Tryd.isAgg5
  z5 := Tryd.sizeOf5
  v5 := Tryd.zeroValue5
  t9 := Tryd.underlying9
  a9 := Tryd.isAgg9
  z9 := Tryd.sizeOf9
  v9 := Tryd.zeroValue9
  t46 := Tryd.underlying62
  a46 := Tryd.isAgg62
  z46 := Tryd.sizeOf62
  v46 := Tryd.zeroValue62
  t51 := Tryd.underlying24
  a51 := Tryd.isAgg24
  z51 := Tryd.sizeOf24
  v51 := Tryd.zeroValue24
  t146 := Tryd.underlying118
  a146 := Tryd.isAgg118
  z146 := Tryd.sizeOf118
  v146 := Tryd.zeroValue118
  g1 := by kernel_rfl }
open Go.RowKit Go.Lib in
/-- strings.Index: "Index returns the index of the first instance of substr in s, or -1 if substr is not present in s.": AT A substr OF ONE BYTE c: IT RETURNS 'Lib.indexByte s c'; the world is as it was. (LAID: no walk: one application.) -/
theorem Tryd.strings_Index_one (s : ByteArray) (c : UInt8) (w : World) :
    Calls Tryd.prog 81 #[.string s, .string ⟨#[c]⟩] w fun e w' => e = .returned (.int .i64 (Lib.indexByte s.data.toList c)) ∧ w' = w := Any.strings_Index_one Tryd.lays143 s c w
def Tryd.lays144_ren : Go.Shelf.Ren := ⟨fun | 144 => 63 | 143 => 81 | 219 => 99 | 217 => 67 | 225 => 111 | 224 => 90 | 267 => 112 | 266 => 83 | 314 => 118 | n => n, fun | 9 => 9 | 4 => 4 | 3 => 3 | 5 => 5 | 46 => 62 | 146 => 118 | 51 => 24 | n => n, fun | 1 => 0 | n => n⟩
def Tryd.lays138_ren : Go.Shelf.Ren := ⟨fun | 138 => 86 | 195 => 101 | 218 => 102 | 143 => 81 | 219 => 99 | 217 => 67 | 225 => 111 | 224 => 90 | 267 => 112 | 266 => 83 | 314 => 118 | n => n, fun | 9 => 9 | 3 => 3 | 4 => 4 | 5 => 5 | 0 => 0 | 46 => 62 | 146 => 118 | 51 => 24 | n => n, fun | 1 => 0 | n => n⟩
def Tryd.lays146_ren : Go.Shelf.Ren := ⟨fun | 146 => 50 | 221 => 71 | 268 => 85 | 138 => 86 | 143 => 81 | 195 => 101 | 197 => 93 | 218 => 102 | 219 => 99 | 260 => 105 | 217 => 67 | 225 => 111 | 224 => 90 | 267 => 112 | 266 => 83 | 314 => 118 | n => n, fun | 9 => 9 | 31 => 39 | 3 => 3 | 4 => 4 | 0 => 0 | 105 => 112 | 21 => 21 | 5 => 5 | 46 => 62 | 119 => 127 | 139 => 130 | 138 => 129 | 146 => 118 | 51 => 24 | n => n, fun | 1 => 0 | 3 => 1 | 4 => 2 | n => n⟩
theorem Tryd.lays146 : Go.Proofs.Lays.n146 Tryd.prog Tryd.lays146_ren := {
  mixed := by kernel_rfl
  f138 := Tryd.func86.trans (congrArg some (by kernel_rfl))
  f143 := Tryd.func81.trans (congrArg some (by kernel_rfl))
  f146 := Tryd.func50.trans (congrArg some (by kernel_rfl))
  f195 := Tryd.func101.trans (congrArg some (by kernel_rfl))
  f197 := Tryd.func93.trans (congrArg some (by kernel_rfl))
  f217 := Tryd.func67.trans (congrArg some (by kernel_rfl))
  f218 := Tryd.func102.trans (congrArg some (by kernel_rfl))
  f219 := Tryd.func99.trans (congrArg some (by kernel_rfl))
  f221 := Tryd.func71.trans (congrArg some (by kernel_rfl))
  f224 := Tryd.func90.trans (congrArg some (by kernel_rfl))
  f225 := Tryd.func111.trans (congrArg some (by kernel_rfl))
  f260 := Tryd.func105.trans (congrArg some (by kernel_rfl))
  f266 := Tryd.func83.trans (congrArg some (by kernel_rfl))
  f267 := Tryd.func112.trans (congrArg some (by kernel_rfl))
  f268 := Tryd.func85.trans (congrArg some (by kernel_rfl))
  f314 := Tryd.func118.trans (congrArg some (by kernel_rfl))
  t0 := Tryd.underlying0
  a0 := Tryd.isAgg0
  z0 := Tryd.sizeOf0
  v0 := Tryd.zeroValue0
  t3 := Tryd.underlying3
  a3 := Tryd.isAgg3
  z3 := Tryd.sizeOf3
  v3 := Tryd.zeroValue3
  t4 := Tryd.underlying4
  a4 := Tryd.isAgg4
  z4 := Tryd.sizeOf4
  v4 := Tryd.zeroValue4
  t5 := Tryd.underlying5
  a5 := Tryd.isAgg5
  z5 := Tryd.sizeOf5
  v5 := Tryd.zeroValue5
  t9 := Tryd.underlying9
  a9 := Tryd.isAgg9
  z9 := Tryd.sizeOf9
  v9 := Tryd.zeroValue9
  t21 := Tryd.underlying21
  a21 := Tryd.isAgg21
  z21 := Tryd.sizeOf21
  v21 := Tryd.zeroValue21
  t31 := Tryd.underlying39
  a31 := Tryd.isAgg39
  z31 := Tryd.sizeOf39
  v31 := Tryd.zeroValue39
  t46 := Tryd.underlying62
  a46 := Tryd.isAgg62
  z46 := Tryd.sizeOf62
  v46 := Tryd.zeroValue62
  t51 := Tryd.underlying24
  a51 := Tryd.isAgg24
  z51 := Tryd.sizeOf24
  v51 := Tryd.zeroValue24
  t105 := Tryd.underlying112
  a105 := Tryd.isAgg112
  z105 := Tryd.sizeOf112
  v105 := Tryd.zeroValue112
  t119 := Tryd.underlying127
  a119 := Tryd.isAgg127
  z119 := Tryd.sizeOf127
  t138 := Tryd.underlying129
  a138 := Tryd.isAgg129
  z138 := Tryd.sizeOf129
  v138 := Tryd.zeroValue129
  t139 := Tryd.underlying130
  a139 := Tryd.isAgg130
  z139 := Tryd.sizeOf130
  v139 := Tryd.zeroValue130
  t146 := Tryd.underlying118
  a146 := Tryd.isAgg118
  z146 := Tryd.sizeOf118
  v146 := Tryd.zeroValue118
  g1 := by kernel_rfl
  g3 := by kernel_rfl
  g4 := by kernel_rfl }
open Go.RowKit Go.Lib in
/-- strings.Split. (LAID: no walk: one application.) -/
theorem Tryd.strings_Split (s sep : ByteArray) (m : Int) (w : World) (hs : s.size < 4294967281) (hm : w.cell? ⟨0, 0, none⟩ = some (.int .i64 m)) (h1 : 1 ≤ sep.size) :
    Calls Tryd.prog 50 #[.string s, .string sep] w fun e w' =>
      e = .returned (.slice (some ⟨w.heap.size, 0, none⟩) (Lib.countB s sep + 1) (Lib.countB s sep + 1)) ∧ w' = w.alloc (.cells ((Lib.splitB sep 0 (Lib.countB s sep) s).map Value.string).toArray 9) := Any.strings_Split Tryd.lays146 (by kernel_rfl) s sep m w hs hm h1
def Tryd.lays185_ren : Go.Shelf.Ren := ⟨fun | 185 => 72 | 187 => 87 | 115 => 88 | 253 => 89 | 224 => 90 | 254 => 91 | 255 => 103 | 291 => 104 | n => n, fun | 37 => 25 | 3 => 3 | 4 => 4 | 0 => 0 | 5 => 5 | 46 => 62 | 9 => 9 | 146 => 118 | 51 => 24 | n => n, fun | 1 => 0 | n => n⟩
end Go.Proofs
end
section
set_option linter.unusedSimpArgs false
set_option linter.unusedVariables false
namespace Go.Proofs.YtlhnaplmphdhlaaDoor.Q
open Go.RowKit Go.Proofs.YtlhnaplmphdhlaaDoorW.PrintWords Go.Proofs.YtlhnaplmphdhlaaDoorW.PrintLast Go.Proofs.YtlhnaplmphdhlaaDoorW.PrintMore
attribute [local go_sem] max2_int min2_int max_two min_two max_three min_three max_four min_four
def zeroAt (L : List Int) : Int := Lib.indexByte (Lib.bytesOf L) 0
/-- What DecodeText answers. -/
def textF (L : List Int) : ByteArray × List Int × Int := if 0 ≤ zeroAt L then (strOfNums (L.take (zeroAt L).toNat), L.drop (zeroAt L + 1).toNat, 0) else ((⟨#[]⟩ : ByteArray), [], 2)
def BytesL (l : List Int) : Prop := ∀ a ∈ l, 0 ≤ a ∧ a < 256
end Go.Proofs.YtlhnaplmphdhlaaDoor.Q
end
section
namespace Go.Proofs.YtlhnaplmphdhlaaDoor.Q
open Go.RowKit Go.Shelf
/-- How a round may be left. -/
def RoundPost (Kp : World → World → Prop) (I : Nat → World → Prop) (Ix : Code → Nat → World → Prop) (k : Nat) (W : World) : Exit → Act → World → Prop
  | .normal, _, W' => KeepsOthers W W' ∧ Kp W W' ∧ I k W'
  | .ret, _, W' => KeepsOthers W W' ∧ Ix .ret k W'
  | .exit id, _, W' => KeepsOthers W W' ∧ Ix (.exit id) k W'
  | _, _, _ => False
/-- The iterator hands on the list L, one by one; between two rounds it goes by Ab; a round that goes on keeps Kp. -/
def SeqL (n : Nat) (P : Program) (gf : Nat) (lb : Array Value) (Ab Kp : World → World → Prop) (L : List (Array Value)) (w : World) : Prop :=
  ∀ (l : Nat) (J Jx : Nat → World → Prop) (W : World), Below w.heap.size w W → (∀ k A B, J k A → Ab A B → J k B) → (∀ k A B, Jx k A → Ab A B → Jx k B) →
    (∀ (k : Nat) (hk : k < L.length) (A : World), J k A → YieldAt Fence.wide (n - 1) P l L[k] A fun e B => (e = .returned (.bool true) ∧ J (k + 1) B ∧ Kp A B) ∨ (e = .returned (.bool false) ∧ Jx (k + 1) B)) →
    J 0 W → CallsIn Fence.wide n P gf (#[.func (.yield l) #[] #[]] ++ lb) W fun e B => (∃ v, e = .returned v) ∧ (J L.length B ∨ ∃ k, k ≤ L.length ∧ Jx k B)
section
variable {n : Nat} {P : Program}
theorem wp_rangeL {g : Operand} {ps : Array Tmp} {assign body : Code} {Q : Exit → Act → World → Prop} {a : Act} {w : World} (h1 : 1 ≤ n) {gf : Nat} {lb : Array Value} (hg : a.eval g = .func (.func gf) #[] lb) (eg : ∀ args w, (callFunc gf args).run P w = .ok (.enter gf args) w)
    {Ab Kp : World → World → Prop} {L : List (Array Value)} (hseq : SeqL (n - 1) P gf lb Ab Kp L w) (hAb : ∀ {A B : World} {i : Nat} {o : Obj}, Ab A B → A.heap[i]? = some o → o.isCells = false → B.heap[i]? = some o)
    (hKt : ∀ {A B C : World}, Kp A B → Kp B C → Kp A C) (hKb : ∀ (W : World) (l : Nat) (o o' : Obj), w.heap.size ≤ l → W.heap[l]? = some o → o.isCells = false → o.isWalk = false → Kp W (W.putObj l o')) (hps : ∀ x ∈ L, x.size = ps.size)
    (I : Nat → World → Prop) (Ix : Code → Nat → World → Prop) (hI : OwnFrom w.heap.size I) (hIx : ∀ c, OwnFrom w.heap.size (Ix c)) (hIA : ∀ k A B, I k A → Ab A B → I k B) (hXA : ∀ c k A B, Ix c k A → Ab A B → Ix c k B) (h0 : I 0 w) (a₁ : Nat → Act)
    (hassign : ∀ (l k : Nat) (hk : k < L.length) (W : World) (K : Act → World → Prop), K (a₁ k) W →
      assign.wpIn (Fence.wide.inRound l) (n - 1 - 1) P (Exit.then K (fun _ _ _ => False)) { tmps := (ps.zip L[k]).foldl (fun t (p, v) => t.setIfInBounds p v) a.tmps, defers := [] } W)
    (hbody : ∀ (l k : Nat) (W : World), k < L.length → I k W → body.wpIn (Fence.wide.inRound l) (n - 1 - 1) P (RoundPost Kp I Ix (k + 1) W) (a₁ k) W)
    (hdone : ∀ (D : Nat) (W : World), w.heap.size ≤ D → I L.length W → W.heap[D]? = some (.deferred (some [])) → Q .normal { a with defers := { target := .collected D, args := #[] } :: a.defers } W)
    (hstop : ∀ (D : Nat) (c : Code) (k : Nat) (W : World), w.heap.size ≤ D → k ≤ L.length → Ix c k W → W.heap[D]? = some (.deferred (some [])) → c.wpIn Fence.wide n P Q { a with defers := { target := .collected D, args := #[] } :: a.defers } W) :
    (Code.rangeFunc g ps assign body).wpIn Fence.wide n P Q a w := by
  refine wpIn_rangeFunc ?_
  intro fn hfn
  obtain ⟨R, hR⟩ : ∃ R : LoopState → Option Code → Loop, R = fun st pe => { state := st, pending := pe, fn, tmps := a.tmps, params := ps, assign, body, defers := w.heap.size } := ⟨_, rfl⟩
  obtain ⟨V, hV⟩ : ∃ V, V = (w.alloc (.deferred (some []))).alloc (.loop (R .ready none)) := ⟨_, rfl⟩
  have sL : V.heap[w.heap.size + 1]? = some (.loop (R .ready none)) := by
    have := World.alloc_heap_new (w.alloc (.deferred (some []))) (.loop (R .ready none))
    rw [World.size_alloc] at this
    rw [hV]; exact this
  have sD : V.heap[w.heap.size]? = some (.deferred (some [])) := by rw [hV]; exact (Below.heap_alloc _ _ _ (by simp)).trans (World.alloc_heap_new w _)
  have sI : I 0 V := by rw [hV]; exact hI.alloc _ (hI.alloc _ h0)
  have sB : Below w.heap.size w V := by rw [hV]; exact ((Below.refl _ w).alloc (Nat.le_refl _) _).alloc (by simp) _
  refine ⟨w.heap.size + 1, [{ target := .collected w.heap.size, args := #[] }], V, { target := .fn (.func gf) lb, args := #[.func (.yield (w.heap.size + 1)) #[] #[]] }, V, gf, #[.func (.yield (w.heap.size + 1)) #[] #[]] ++ lb, V, ?_, ?_, ?_, ?_, fun _ => h1, ?_⟩
  · rw [hV, hR]; exact run_enterLoop_outer _ _ _ _ _
  · simp only [resolve, hg]
    simp [go_sem]
  · intro f' hf'; simp [Target.leads] at hf'; subst hf'; trivial
  · simp [invoke, go_sem, eg]
  · refine (hseq (w.heap.size + 1) (fun k W => I k W ∧ W.heap[w.heap.size + 1]? = some (.loop (R .ready none)) ∧ W.heap[w.heap.size]? = some (.deferred (some [])))
      (fun k W => ∃ c, Ix c k W ∧ W.heap[w.heap.size + 1]? = some (.loop (R .done (some c))) ∧ W.heap[w.heap.size]? = some (.deferred (some []))) V sB
      (fun k A B h hab => ⟨hIA k A B h.1 hab, hAb hab h.2.1 rfl, hAb hab h.2.2 rfl⟩) (fun k A B h hab => by obtain ⟨c, h1, h2, h3⟩ := h; exact ⟨c, hXA c k A B h1 hab, hAb hab h2 rfl, hAb hab h3 rfl⟩) ?_ ⟨sI, sL, sD⟩).mono ?_
    · rintro k hk W ⟨hi, hl, hd⟩
      have hlt : w.heap.size + 1 < W.heap.size := (Array.getElem?_eq_some_iff.1 hl).1
      have hy := run_yield (P := P) (args := L[k]) hl (by rw [hR]; exact hps _ (List.getElem_mem hk))
      rw [hR] at hy
      refine ⟨fn, _, assign, body, hy, roundIn_of_wpIn hfn (hassign _ k hk W _ ⟨_, run_beginRound hl (by rw [hR]), ?_⟩)⟩
      obtain ⟨U, hU⟩ : ∃ U, U = W.putObj (w.heap.size + 1) (.loop { R .ready none with state := .busy }) := ⟨_, rfl⟩
      have uL : U.heap[w.heap.size + 1]? = some (.loop { R .ready none with state := .busy }) := by rw [hU]; exact World.putObj_heap_same hlt
      have uD : U.heap[w.heap.size]? = some (.deferred (some [])) := by rw [hU]; exact (World.putObj_heap_other (by omega)).trans hd
      have uK : Kp W U := by rw [hU]; exact hKb _ _ _ _ (by omega) hl rfl rfl
      have uI : I k U := by rw [hU]; exact hI.putObj _ hi (by omega) hl rfl
      rw [← hU]
      refine wpIn_mono (hbody _ k U hk uI) ?_
      have last : ∀ (jump : Option Code) (X : World), KeepsOthers U X → X.heap[w.heap.size + 1]? = some (.loop { R .ready none with state := .busy }) ∧ ∃ Y, Y = X.putObj (w.heap.size + 1) (.loop (R (if jump.isNone then .ready else .done) jump)) ∧ (Instr.endRound (w.heap.size + 1) jump).run P X = .ok (.bool jump.isNone) Y ∧
          Y.heap[w.heap.size + 1]? = some (.loop (R (if jump.isNone then .ready else .done) jump)) ∧ Y.heap[w.heap.size]? = some (.deferred (some [])) := fun jump X hx => by
        have xL := hx.same _ _ uL rfl
        have hr := run_endRound (P := P) jump xL
        refine ⟨xL, _, rfl, ?_, World.putObj_heap_same (Array.getElem?_eq_some_iff.1 xL).1, (World.putObj_heap_other (by omega)).trans (hx.same _ _ uD rfl)⟩
        rw [hR] at hr ⊢
        exact hr
      rintro e a3 X hp
      cases e with
      | normal =>
        obtain ⟨x1, x2, x3⟩ := hp
        obtain ⟨xL, Y, hY, hr, yL, yD⟩ := last none X x1
        exact ⟨_, _, hr, .inl ⟨rfl, ⟨by rw [hY]; exact hI.putObj _ x3 (by omega) xL rfl, yL, yD⟩, hKt (hKt uK x2) (by rw [hY]; exact hKb _ _ _ _ (by omega) xL rfl rfl)⟩⟩
      | ret =>
        obtain ⟨x1, x3⟩ := hp
        obtain ⟨xL, Y, hY, hr, yL, yD⟩ := last (some .ret) X x1
        exact ⟨_, _, hr, .inr ⟨rfl, .ret, by rw [hY]; exact (hIx _).putObj _ x3 (by omega) xL rfl, yL, yD⟩⟩
      | exit id =>
        obtain ⟨x1, x3⟩ := hp
        obtain ⟨xL, Y, hY, hr, yL, yD⟩ := last (some (.exit id)) X x1
        exact ⟨_, _, hr, .inr ⟨rfl, .exit id, by rw [hY]; exact (hIx _).putObj _ x3 (by omega) xL rfl, yL, yD⟩⟩
      | goto t => exact hp.elim
      | panic ch => exact hp.elim
      | outgrown => exact hp.elim
    · rintro e X ⟨⟨v, rfl⟩, (⟨hi, hl, hd⟩ | ⟨k, hk, c, hi, hl, hd⟩)⟩
      · have hr := run_endLoop (P := P) hl (by rw [hR]; simp)
        rw [hR] at hr
        exact ⟨none, _, hr, hdone _ _ (Nat.le_refl _) (hI.putObj _ hi (by omega) hl rfl) ((World.putObj_heap_other (by omega)).trans hd)⟩
      · have hr := run_endLoop (P := P) hl (by rw [hR]; simp)
        rw [hR] at hr
        exact ⟨some c, _, hr, hstop _ c k _ (Nat.le_refl _) hk ((hIx c).putObj _ hi (by omega) hl rfl) ((World.putObj_heap_other (by omega)).trans hd)⟩
end
end Go.Proofs.YtlhnaplmphdhlaaDoor.Q
end
section
namespace Go.Proofs.YtlhnaplmphdhlaaDoor.Q
open Go.RowKit Go.Shelf Go.Proofs.YtlhnaplmphdhlaaDoorW.PrintWords Go.Proofs.YtlhnaplmphdhlaaDoorW.PrintLast
attribute [local go_sem] Oper.semAt_some
/-- The pieces of a row of bytes at c. -/
def cuts (c : UInt8) : List UInt8 → List (List UInt8)
  | [] => [[]]
  | a :: l => if a = c then [] :: cuts c l else match cuts c l with | p :: ps => (a :: p) :: ps | [] => [[a]]
theorem cuts_ne (c : UInt8) : ∀ l, cuts c l ≠ []
  | [] => by simp [cuts]
  | a :: l => by
    rw [cuts]
    split
    · simp
    · split <;> simp
theorem cuts_none (c : UInt8) : ∀ {l : List UInt8}, Lib.indexByte l c = -1 → cuts c l = [l]
  | [], _ => rfl
  | a :: l, h => by
    have h0 := Lib.indexByte_none h 0
    have ha : ¬ a = c := fun e => h0 (by rw [e]; rfl)
    have hl : Lib.indexByte l c = -1 := by
      rw [Lib.indexByte] at h
      have hb : (a == c) = false := by simp [ha]
      rw [hb] at h
      simp only [Bool.false_eq_true, if_false] at h
      split at h
      · rename_i h1; exact eq_of_beq h1
      · have := Lib.indexByte_ge l c
        omega
    rw [cuts, if_neg ha, cuts_none c hl]
theorem cuts_some (c : UInt8) : ∀ {l : List UInt8} {i : Nat}, Lib.indexByte l c = i → cuts c l = l.take i :: cuts c (l.drop (i + 1))
  | [], i, h => by rw [Lib.indexByte] at h; omega
  | a :: l, i, h => by
    rw [cuts]
    by_cases ha : a = c
    · have h0 : i = 0 := by
        rw [Lib.indexByte, if_pos (by simp [ha])] at h
        omega
      rw [if_pos ha, h0]
      rfl
    · rw [if_neg ha]
      have hb : (a == c) = false := by simp [ha]
      rw [Lib.indexByte, hb] at h
      simp only [Bool.false_eq_true, if_false] at h
      split at h
      · omega
      · have := Lib.indexByte_ge l c
        obtain ⟨j, hj⟩ : ∃ j : Nat, Lib.indexByte l c = j := ⟨(Lib.indexByte l c).toNat, by rename_i h1; have h2 : Lib.indexByte l c ≠ -1 := fun e => h1 (by rw [e]; rfl); omega⟩
        rw [hj] at h
        obtain rfl : i = j + 1 := by omega
        rw [cuts_some c hj]
        rfl
def pieceV (p : List UInt8) : Array Value := #[.string ⟨p.toArray⟩]
/-- What the iterator does between two rounds: it writes its own cell. -/
def AbS (Bs : Nat) (A B : World) : Prop := ∃ u, B = A.setCell ⟨Bs, 0, none⟩ u
/-- What a round keeps: the iterator's three cells. -/
def KpS (Bs Bp Bz : Nat) (W W' : World) : Prop := W.heap.size ≤ W'.heap.size ∧ ∀ i, i = Bs ∨ i = Bp ∨ i = Bz → i < W.heap.size → W'.heap[i]? = W.heap[i]?
theorem KpS.trans {Bs Bp Bz : Nat} {A B C : World} (h : KpS Bs Bp Bz A B) (k : KpS Bs Bp Bz B C) : KpS Bs Bp Bz A C :=
  ⟨Nat.le_trans h.1 k.1, fun i hi hl => (k.2 i hi (Nat.lt_of_lt_of_le hl h.1)).trans (h.2 i hi hl)⟩
theorem KpS.heap {Bs Bp Bz : Nat} {A B : World} (h : KpS Bs Bp Bz A B) {i : Nat} (hi : i = Bs ∨ i = Bp ∨ i = Bz) {o : Obj} (ho : A.heap[i]? = some o) : B.heap[i]? = some o := (h.2 i hi (Array.getElem?_eq_some_iff.1 ho).1).trans ho
theorem extract_take (s : ByteArray) (i : Nat) : s.extract 0 i = ⟨(s.data.toList.take i).toArray⟩ := by
  apply ByteArray.ext
  apply Array.ext'
  rw [Lib.extract_data, List.drop_zero, Nat.sub_zero]
theorem extract_drop (s : ByteArray) (i : Nat) : s.extract i s.size = ⟨(s.data.toList.drop i).toArray⟩ := by
  apply ByteArray.ext
  apply Array.ext'
  rw [Lib.extract_data]
  show _ = s.data.toList.drop i
  rw [List.take_of_length_le]
  rw [List.length_drop]
  exact Nat.le_refl _
theorem mk_list (s : ByteArray) : (⟨s.data.toList.toArray⟩ : ByteArray) = s := by
  apply ByteArray.ext
  simp
def strSz (W : World) (Bs : Nat) : Nat := match W.cell? ⟨Bs, 0, none⟩ with | some (.string s) => s.size | _ => 0
set_option maxRecDepth 100000 in
set_option maxHeartbeats 4000000 in
theorem split_seq (c : UInt8) (n : Nat) (hn : 1 ≤ n) (Bs Bp Bz : Nat) (hsp : Bs ≠ Bp) (hsz : Bs ≠ Bz) (s : ByteArray) (hs : s.size ≤ 140737488351232) (w : World)
    (hBs : w.heap[Bs]? = some (.cells #[.string s] 9 (0, 0))) (hBp : w.heap[Bp]? = some (.cells #[.string ⟨#[c]⟩] 9 (0, 0))) (hBz : w.heap[Bz]? = some (.cells #[.int .i64 0] 3 (0, 0))) :
    SeqL n Tryd.prog 92 #[.pointer (some ⟨Bp, 0, none⟩), .pointer (some ⟨Bs, 0, none⟩), .pointer (some ⟨Bz, 0, none⟩)] (AbS Bs) (KpS Bs Bp Bz) ((cuts c s.data.toList).map pieceV) w := by
  intro l J Jx W hW hJ hJx hY h0
  have hBs := blk_below hBs hW
  have hBp := blk_below hBp hW
  have hBz := blk_below hBz hW
  clear hW
  obtain ⟨L, hL⟩ : ∃ L, L = (cuts c s.data.toList).map pieceV := ⟨_, rfl⟩
  rw [← hL] at hY ⊢
  refine callsIn_of_wp Tryd.func92 rfl trivial ?_ rfl
  simp only [Tryd.ntmps92, List.size_toArray, List.length_cons, List.length_nil, Nat.reduceAdd, Nat.reduceSub, Array.replicate_succ, Array.replicate_zero, List.push_toArray, List.append_toArray, List.nil_append, List.cons_append]
  have hc1 := (blk_cell hBp 0).trans rfl
  have hone : ((1 : Int) == 0) = false := by decide
  gi_wp2
  gi_loopw [7] (fun v wr => ∃ (t : ByteArray) (k : Nat), t.size ≤ 140737488351232 ∧ Aside0 (L.drop k = (cuts c t.data.toList).map pieceV) ∧ J k wr ∧ wr.heap[Bs]? = some (.cells #[.string t] 9 (0, 0)) ∧ wr.heap[Bp]? = some (.cells #[.string ⟨#[c]⟩] 9 (0, 0)) ∧ wr.heap[Bz]? = some (.cells #[.int .i64 0] 3 (0, 0)))
    (fun _ wr => strSz wr Bs)
  case atStart => exact ⟨s, 0, hs, ⟨by rw [hL]; rfl⟩, h0, hBs, hBp, hBz⟩
  case round =>
    obtain ⟨t, k, ht, HD, hJk, hs1, hp1, hz1⟩ := hrel
    clear hc1 hBs hBp hBz h0
    obtain ⟨x, hx⟩ : ∃ x, x = Lib.indexByte t.data.toList c := ⟨_, rfl⟩
    have HI := Aside0.mk (show ∀ X : World, Calls Tryd.prog 81 #[.string t, .string ⟨#[c]⟩] X (fun e w' => e = .returned (.int .i64 x) ∧ w' = X) from fun X => by rw [hx]; exact Tryd.strings_Index_one t c X)
    have hcs := (blk_cell hs1 0).trans rfl
    have hcp := (blk_cell hp1 0).trans rfl
    have hcz := (blk_cell hz1 0).trans rfl
    have hge := Lib.indexByte_ge t.data.toList c
    rw [← hx] at hge
    have hkl : k < L.length := by
      have h1 := congrArg List.length HD.out
      rw [List.length_drop, List.length_map] at h1
      have h2 := List.length_pos_iff.2 (cuts_ne c t.data.toList)
      omega
    have hLk : L[k] = (L.drop k)[0]'(by rw [List.length_drop]; omega) := by simp
    by_cases hneg : x < 0
    · have d1 : decide (x < 0) = true := decide_eq_true hneg
      have hcut := cuts_none c (show Lib.indexByte t.data.toList c = -1 by omega)
      have hLt : L[k] = #[.string t] := by
        rw [hLk]
        have : (L.drop k) = [#[.string t]] := by rw [HD.out, hcut]; simp [pieceV]
        simp [this]
      have hend : k + 1 = L.length := by
        have h1 := congrArg List.length HD.out
        rw [List.length_drop, hcut] at h1
        simp at h1
        omega
      have HE := Aside0.mk hend
      obtain ⟨fn, tmps, assign, body, hy, hR⟩ := hY k hkl wr hJk
      rw [hLt] at hy
      clear hx hge hneg HD hLk hLt hend hcut
      gi_wp2_with (refine ⟨trivial, ?_⟩; gi_at_call 81; (with_reducible refine (callsIn_wide.2 (HI.out _)).mono ?_); rintro e w7 ⟨rfl, rfl⟩)
      gi_wp2
      refine hR.mono ?_
      rintro e W3 (⟨rfl, hJ3, hk3⟩ | ⟨rfl, hJx3⟩)
      · gi_wp2
        go_end0
        exact ⟨⟨_, rfl⟩, .inl (HE.out ▸ hJ3)⟩
      · gi_wp2
        go_end0
        exact ⟨⟨_, rfl⟩, .inr ⟨k + 1, Nat.le_of_eq HE.out, hJx3⟩⟩
    · obtain ⟨i, hi⟩ : ∃ i : Nat, x = i := ⟨x.toNat, by omega⟩
      subst hi
      have d1 : decide ((i : Int) < 0) = false := decide_eq_false hneg
      have hcut := cuts_some c hx.symm
      have hil : i < t.size := by
        have h1 := (Lib.indexByte_some hx.symm).1
        have h2 := (List.getElem?_eq_some_iff.1 h1).1
        rwa [show t.data.toList.length = t.size from Array.length_toList] at h2
      have hLt : L[k] = #[.string (t.extract 0 i)] := by
        rw [hLk]
        have : (L.drop k) = #[.string (t.extract 0 i)] :: (cuts c (t.data.toList.drop (i + 1))).map pieceV := by rw [HD.out, hcut, extract_take]; rfl
        simp [this]
      have HD2 := Aside0.mk (show L.drop (k + 1) = (cuts c (t.extract (i + 1) t.size).data.toList).map pieceV by
        rw [← List.drop_drop, HD.out, hcut, extract_drop]
        rfl)
      have hsz2 : (t.extract (i + 1) t.size).size = t.size - (i + 1) := by
        rw [extract_drop]
        show (List.drop (i + 1) t.data.toList).toArray.size = _
        simp
      obtain ⟨fn, tmps, assign, body, hy, hR⟩ := hY k hkl wr hJk
      rw [hLt] at hy
      have q1 : ((i : Int) ≤ (t.size : Int)) = True := eq_true (by omega)
      have q2 : (0 ≤ (i : Int) + 1) = True := eq_true (by omega)
      have q3 : ((i : Int) + 1 ≤ (t.size : Int)) = True := eq_true (by omega)
      have q4 : IntKind.i64.wrap ((i : Int) + 1) = (i : Int) + 1 := (i64_w _).trans (by unfold wrap64; omega)
      have q5 : IntKind.i64.wrap (i : Int) = (i : Int) := (i64_w _).trans (by unfold wrap64; omega)
      have q6 : ((i : Int) + 1).toNat = i + 1 := by omega
      have HS := Aside0.mk hsz2
      have HT := Aside0.mk ht
      have HIL := Aside0.mk hil
      clear hx hge hneg HD hLk hLt hcut hsz2 ht hil
      gi_wp2_with (refine ⟨trivial, ?_⟩; gi_at_call 81; (with_reducible refine (callsIn_wide.2 (HI.out _)).mono ?_); rintro e w7 ⟨rfl, rfl⟩)
      refine hR.mono ?_
      rintro e W3 (⟨rfl, hJ3, hk3⟩ | ⟨rfl, hJx3⟩)
      · have hs3 := hk3.heap (.inl rfl) hs1
        have hp3 := hk3.heap (.inr (.inl rfl)) hp1
        have hz3 := hk3.heap (.inr (.inr rfl)) hz1
        have hcs3 := (blk_cell hs3 0).trans rfl
        have hcp3 := (blk_cell hp3 0).trans rfl
        have hfs3 := blk_frozen hs3 0
        have hsz3 : strSz w7 Bs = t.size := by unfold strSz; rw [hcs]; rfl
        have HZ := Aside0.mk hsz3
        clear hcs hcp hcz hsz3
        gi_wp2
        go_roundw
        case rel => exact ⟨t.extract (i + 1) t.size, k + 1, by rw [HS.out]; have := HT.out; omega, HD2, hJ _ _ _ hJ3 ⟨_, rfl⟩, blk_put hs3 0 _ rfl, blk_far hp3 (fun e => hsp e.symm) _, blk_far hz3 (fun e => hsz e.symm) _⟩
        case measure =>
          have : strSz (W3.setCell ⟨Bs, 0, none⟩ (.string (t.extract (i + 1) t.size))) Bs = (t.extract (i + 1) t.size).size := by
            unfold strSz
            rw [(blk_cell (blk_put hs3 0 (.string (t.extract (i + 1) t.size)) rfl) 0).trans rfl]
            rfl
          rw [this, HZ.out, HS.out]
          have := HIL.out
          omega
      · gi_wp2
        refine bodyPost_ret (results_none rfl _ _ _) rfl ?_
        exact ⟨⟨_, rfl⟩, .inr ⟨k + 1, hkl, hJx3⟩⟩
end Go.Proofs.YtlhnaplmphdhlaaDoor.Q
end
section
namespace Go.Proofs.YtlhnaplmphdhlaaDoor.Q
open Go.RowKit Go.Proofs.YtlhnaplmphdhlaaDoorW.PrintWords Go.Proofs.YtlhnaplmphdhlaaDoorW.PrintLast Go.Proofs.YtlhnaplmphdhlaaDoorW.PrintMore
set_option linter.unusedVariables false
set_option linter.unusedSimpArgs false

attribute [local go_sem] max2_int min2_int max_two min_two max_three min_three max_four min_four
/-! ### digit_fit: function 74 -/
def digit_fit.f (a0 : Int) : Option (Bool) := if a0 ≥ 2 then (some (decide (a0 ≤ 36))) else (some false)
set_option maxHeartbeats 8000000 in
set_option maxRecDepth 100000 in
theorem digit_fit.calls (a0 : Int) (r : Bool) (w : World) (h : digit_fit.f a0 = some r) :
    Calls Tryd.prog 74 #[.int .u32 a0] w fun e w' => e = .returned (.bool r) ∧ Drawn0 w w' := by
  have H : (if a0 ≥ 2 then (some (decide (a0 ≤ 36))) else (some false)) = some r := h
  clear h
  by_cases c2 : a0 ≥ 2
  · rw [if_pos c2] at H
    have c2b0 : decide (2 ≤ a0) = true := decide_eq_true c2
    clear c2
    obtain rfl := Option.some.inj H
    go_enter Tryd.func74, Tryd.ntmps74
    go_wp2
    go_ret
    exact ⟨by first | rfl | (simp; done) | (simp [*]; done), by repeat (first | exact Drawn0.refl _ | apply Drawn0.step)⟩
  · rw [if_neg c2] at H
    have c2b0 : decide (2 ≤ a0) = false := decide_eq_false c2
    clear c2
    obtain rfl := Option.some.inj H
    go_enter Tryd.func74, Tryd.ntmps74
    go_wp2
    go_ret
    exact ⟨by first | rfl | (simp; done) | (simp [*]; done), by repeat (first | exact Drawn0.refl _ | apply Drawn0.step)⟩

end Go.Proofs.YtlhnaplmphdhlaaDoor.Q
end
section
namespace Go.Proofs.YtlhnaplmphdhlaaDoor.Q
open Go.RowKit Go.Proofs.YtlhnaplmphdhlaaDoorW.PrintWords Go.Proofs.YtlhnaplmphdhlaaDoorW.PrintLast Go.Proofs.YtlhnaplmphdhlaaDoorW.PrintMore
set_option linter.unusedVariables false
set_option linter.unusedSimpArgs false

attribute [local go_sem] max2_int min2_int max_two min_two max_three min_three max_four min_four
/-! ### digit_Value: function 75 -/
mutual
def digit_Value.j0 : Nat → Int → Int → Int → Bool → Option (Int × Bool)
  | 0, _, _, _, _ => none
  | k + 1, x0, x1, x6, x7 => if x7 = true then ((digit_fit.f x1).bind fun t76001 => (if t76001 = true then (if ((x0 - 48) % 256) ≥ x1 then (some (0, false)) else (some ((x0 - 48) % 256, true))) else (some (0, false)))) else (if x0 ≥ 97 then (digit_Value.j1 k x0 x1 x6 (decide (x0 ≤ 122))) else (digit_Value.j1 k x0 x1 x6 false))
def digit_Value.j1 : Nat → Int → Int → Int → Bool → Option (Int × Bool)
  | 0, _, _, _, _ => none
  | k + 1, x0, x1, x6, x17 => if x17 = true then ((digit_fit.f x1).bind fun t76002 => (if t76002 = true then (if (((x0 - 97) % 256) + 10) ≥ x1 then (some (0, false)) else (some (((x0 - 97) % 256) + 10, true))) else (some (0, false)))) else (if x0 ≥ 65 then (digit_Value.j2 k x0 x1 x6 (decide (x0 ≤ 90))) else (digit_Value.j2 k x0 x1 x6 false))
def digit_Value.j2 : Nat → Int → Int → Int → Bool → Option (Int × Bool)
  | 0, _, _, _, _ => none
  | k + 1, x0, x1, x6, x28 => if x28 = true then ((digit_fit.f x1).bind fun t76003 => (if t76003 = true then (if (((x0 - 65) % 256) + 10) ≥ x1 then (some (0, false)) else (some (((x0 - 65) % 256) + 10, true))) else (some (0, false)))) else ((digit_fit.f x1).bind fun t76004 => (if t76004 = true then (if x6 ≥ x1 then (some (0, false)) else (some (x6, true))) else (some (0, false))))
end
def digit_Value.f (k : Nat) (a0 : Int) (a1 : Int) : Option (Int × Bool) := if a0 ≥ 48 then (digit_Value.j0 k a0 a1 255 (decide (a0 ≤ 57))) else (digit_Value.j0 k a0 a1 255 false)
set_option maxHeartbeats 8000000 in
set_option maxRecDepth 100000 in
theorem digit_Value.calls (k : Nat) (a0 : Int) (a1 : Int) (r1 : Int) (r2 : Bool) (w : World) (h : digit_Value.f k a0 a1 = some (r1, r2)) :
    Calls Tryd.prog 75 #[.int .u8 a0, .int .u32 a1] w fun e w' => e = .returned (.tuple #[.int .u32 r1, .bool r2]) ∧ Drawn0 w w' := by
  have H : (if a0 ≥ 48 then (digit_Value.j0 k a0 a1 255 (decide (a0 ≤ 57))) else (digit_Value.j0 k a0 a1 255 false)) = some (r1, r2) := h
  clear h
  have HC3 := Aside0.mk H
  clear H
  go_enter Tryd.func75, Tryd.ntmps75
  go_upto_region 2 with (fail)
  go_cut [7] (fun v7 wc => ∃ (kq : Nat) (x7_2 : Bool), v7 = .bool x7_2 ∧ Aside0 (digit_Value.j0 kq a0 a1 255 x7_2 = some (r1, r2)) ∧ Aside0 (kq ≤ k) ∧ Drawn0 w wc)
  case first =>
    have H := HC3.out
    clear HC3
    by_cases c4 : a0 ≥ 48
    · rw [if_pos c4] at H
      have c4b0 : decide (48 ≤ a0) = true := decide_eq_true c4
      clear c4
      (first | rw [c4b0] | (simp only [i64_w, i32_w]; rw [c4b0]) | skip)
      have H' := Aside0.mk H
      clear H
      go_wp2
      go_meet
      case rel => exact ⟨_, (decide (a0 ≤ 57)), (by first | rfl | (simp; done) | (simp [*]; done)), H', ⟨by first | omega | exact Nat.le_refl _⟩, by repeat (first | exact Drawn0.refl _ | apply Drawn0.step)⟩
    · rw [if_neg c4] at H
      have c4b0 : decide (48 ≤ a0) = false := decide_eq_false c4
      clear c4
      (first | rw [c4b0] | (simp only [i64_w, i32_w]; rw [c4b0]) | skip)
      have H' := Aside0.mk H
      clear H
      go_wp2
      go_meet
      case rel => exact ⟨_, (false), (by first | rfl | (simp; done) | (simp [*]; done)), H', ⟨by first | omega | exact Nat.le_refl _⟩, by repeat (first | exact Drawn0.refl _ | apply Drawn0.step)⟩
  case rest =>
    clear HC3
    try clear p2
    try clear c4
    try clear c4b0
    obtain ⟨kq, x7_2, rfl, HA, HJ2, ⟨mc2, rfl⟩⟩ := hcut
    cases kq with
    | zero => exact absurd HA.out (by simp [digit_Value.j0])
    | succ kj2 =>
      have H := HA.out
      clear HA
      simp only [digit_Value.j0] at H
      by_cases c5 : x7_2 = true
      · subst c5
        have H1 : ((digit_fit.f a1).bind fun t76001 => (if t76001 = true then (if ((a0 - 48) % 256) ≥ a1 then (some (0, false)) else (some ((a0 - 48) % 256, true))) else (some (0, false)))) = some (r1, r2) := by rw [if_pos rfl] at H; exact H
        clear H
        have H := H1
        clear H1
        replace H := Option.bind_eq_some_iff.mp H
        obtain ⟨t76001, A60, H⟩ := H
        replace H : (if t76001 = true then (if ((a0 - 48) % 256) ≥ a1 then (some (0, false)) else (some ((a0 - 48) % 256, true))) else (some (0, false))) = some (r1, r2) := H
        have A6 := Aside0.mk A60
        clear A60
        by_cases c7 : t76001 = true
        · subst c7
          have H1 : (if ((a0 - 48) % 256) ≥ a1 then (some (0, false)) else (some ((a0 - 48) % 256, true))) = some (r1, r2) := by rw [if_pos rfl] at H; exact H
          clear H
          have H := H1
          clear H1
          by_cases c8 : ((a0 - 48) % 256) ≥ a1
          · rw [if_pos c8] at H
            have c8b0 : decide (a1 ≤ ((a0 - 48) % 256)) = true := decide_eq_true c8
            clear c8
            simp only [Option.some.injEq, Prod.mk.injEq] at H
            obtain ⟨rfl, rfl⟩ := H
            go_wp2_with (first | ((with_reducible refine gate_callee (f := 74) rfl ?_); refine goesL_ (some 40) rfl rfl Tryd.func74 (by kernel_rfl) rfl #[.int .u32 a1] rfl (by (try simp only [List.map_toArray, List.map_cons, List.map_nil]); first | done | rfl | (simp only [List.length_drop, List.length_take]; rfl)) ?_; (with_reducible refine (digit_fit.calls a1 true _ A6.out).mono ?_); rintro e w' ⟨rfl, ⟨nd, rfl⟩⟩; refine ⟨_, rfl, ?_⟩))
            go_ret2
            exact ⟨by first | rfl | (simp; done) | (simp [*]; done), by repeat (first | exact Drawn0.refl _ | apply Drawn0.step)⟩
          · rw [if_neg c8] at H
            have c8b0 : decide (a1 ≤ ((a0 - 48) % 256)) = false := decide_eq_false c8
            clear c8
            simp only [Option.some.injEq, Prod.mk.injEq] at H
            obtain ⟨rfl, rfl⟩ := H
            go_wp2_with (first | ((with_reducible refine gate_callee (f := 74) rfl ?_); refine goesL_ (some 40) rfl rfl Tryd.func74 (by kernel_rfl) rfl #[.int .u32 a1] rfl (by (try simp only [List.map_toArray, List.map_cons, List.map_nil]); first | done | rfl | (simp only [List.length_drop, List.length_take]; rfl)) ?_; (with_reducible refine (digit_fit.calls a1 true _ A6.out).mono ?_); rintro e w' ⟨rfl, ⟨nd, rfl⟩⟩; refine ⟨_, rfl, ?_⟩))
            go_ret2
            exact ⟨by first | rfl | (simp; done) | (simp [*]; done), by repeat (first | exact Drawn0.refl _ | apply Drawn0.step)⟩
        · replace c7 := Bool.eq_false_iff.mpr c7
          subst c7
          have H1 : (some (0, false)) = some (r1, r2) := by rw [if_neg (show ¬ (false = true) by decide)] at H; exact H
          clear H
          have H := H1
          clear H1
          simp only [Option.some.injEq, Prod.mk.injEq] at H
          obtain ⟨rfl, rfl⟩ := H
          go_wp2_with (first | ((with_reducible refine gate_callee (f := 74) rfl ?_); refine goesL_ (some 40) rfl rfl Tryd.func74 (by kernel_rfl) rfl #[.int .u32 a1] rfl (by (try simp only [List.map_toArray, List.map_cons, List.map_nil]); first | done | rfl | (simp only [List.length_drop, List.length_take]; rfl)) ?_; (with_reducible refine (digit_fit.calls a1 false _ A6.out).mono ?_); rintro e w' ⟨rfl, ⟨nd, rfl⟩⟩; refine ⟨_, rfl, ?_⟩))
          go_ret2
          exact ⟨by first | rfl | (simp; done) | (simp [*]; done), by repeat (first | exact Drawn0.refl _ | apply Drawn0.step)⟩
      · replace c5 := Bool.eq_false_iff.mpr c5
        subst c5
        have H1 : (if a0 ≥ 97 then (digit_Value.j1 kj2 a0 a1 255 (decide (a0 ≤ 122))) else (digit_Value.j1 kj2 a0 a1 255 false)) = some (r1, r2) := by rw [if_neg (show ¬ (false = true) by decide)] at H; exact H
        clear H
        have H := H1
        clear H1
        have HC9 := Aside0.mk H
        clear H
        go_upto_region 4 with (fail)
        go_cut [17] (fun v17 wc => ∃ (kq : Nat) (x17_8 : Bool), v17 = .bool x17_8 ∧ Aside0 (digit_Value.j1 kq a0 a1 255 x17_8 = some (r1, r2)) ∧ Aside0 (kq ≤ kj2) ∧ Drawn0 w wc)
        case first =>
          have H := HC9.out
          clear HC9
          by_cases c10 : a0 ≥ 97
          · rw [if_pos c10] at H
            have c10b0 : decide (97 ≤ a0) = true := decide_eq_true c10
            clear c10
            (first | rw [c10b0] | (simp only [i64_w, i32_w]; rw [c10b0]) | skip)
            have H' := Aside0.mk H
            clear H
            go_wp2
            go_meet
            case rel => exact ⟨_, (decide (a0 ≤ 122)), (by first | rfl | (simp; done) | (simp [*]; done)), H', ⟨by have := HJ2.out; first | omega | exact Nat.le_refl _⟩, by repeat (first | exact Drawn0.refl _ | apply Drawn0.step)⟩
          · rw [if_neg c10] at H
            have c10b0 : decide (97 ≤ a0) = false := decide_eq_false c10
            clear c10
            (first | rw [c10b0] | (simp only [i64_w, i32_w]; rw [c10b0]) | skip)
            have H' := Aside0.mk H
            clear H
            go_wp2
            go_meet
            case rel => exact ⟨_, (false), (by first | rfl | (simp; done) | (simp [*]; done)), H', ⟨by have := HJ2.out; first | omega | exact Nat.le_refl _⟩, by repeat (first | exact Drawn0.refl _ | apply Drawn0.step)⟩
        case rest =>
          clear HC9
          try clear c1
          try clear c2
          try clear p2
          try clear c4
          try clear c4b0
          try clear c5
          try clear c7
          try clear c8
          try clear c8b0
          try clear c10
          try clear c10b0
          try clear p2
          obtain ⟨kq, x17_8, rfl, HA, HJ8, ⟨mc8, rfl⟩⟩ := hcut
          cases kq with
          | zero => exact absurd HA.out (by simp [digit_Value.j1])
          | succ kj8 =>
            have H := HA.out
            clear HA
            simp only [digit_Value.j1] at H
            by_cases c11 : x17_8 = true
            · subst c11
              have H1 : ((digit_fit.f a1).bind fun t76002 => (if t76002 = true then (if (((a0 - 97) % 256) + 10) ≥ a1 then (some (0, false)) else (some (((a0 - 97) % 256) + 10, true))) else (some (0, false)))) = some (r1, r2) := by rw [if_pos rfl] at H; exact H
              clear H
              have H := H1
              clear H1
              replace H := Option.bind_eq_some_iff.mp H
              obtain ⟨t76002, A120, H⟩ := H
              replace H : (if t76002 = true then (if (((a0 - 97) % 256) + 10) ≥ a1 then (some (0, false)) else (some (((a0 - 97) % 256) + 10, true))) else (some (0, false))) = some (r1, r2) := H
              have A12 := Aside0.mk A120
              clear A120
              by_cases c13 : t76002 = true
              · subst c13
                have H1 : (if (((a0 - 97) % 256) + 10) ≥ a1 then (some (0, false)) else (some (((a0 - 97) % 256) + 10, true))) = some (r1, r2) := by rw [if_pos rfl] at H; exact H
                clear H
                have H := H1
                clear H1
                by_cases c14 : (((a0 - 97) % 256) + 10) ≥ a1
                · rw [if_pos c14] at H
                  have c14b0 : decide (a1 ≤ (((a0 - 97) % 256) + 10)) = true := decide_eq_true c14
                  clear c14
                  simp only [Option.some.injEq, Prod.mk.injEq] at H
                  obtain ⟨rfl, rfl⟩ := H
                  go_wp2_with (first | ((with_reducible refine gate_callee (f := 74) rfl ?_); refine goesL_ (some 40) rfl rfl Tryd.func74 (by kernel_rfl) rfl #[.int .u32 a1] rfl (by (try simp only [List.map_toArray, List.map_cons, List.map_nil]); first | done | rfl | (simp only [List.length_drop, List.length_take]; rfl)) ?_; (with_reducible refine (digit_fit.calls a1 true _ A12.out).mono ?_); rintro e w' ⟨rfl, ⟨nd, rfl⟩⟩; refine ⟨_, rfl, ?_⟩))
                  go_ret2
                  exact ⟨by first | rfl | (simp; done) | (simp [*]; done), by repeat (first | exact Drawn0.refl _ | apply Drawn0.step)⟩
                · rw [if_neg c14] at H
                  have c14b0 : decide (a1 ≤ (((a0 - 97) % 256) + 10)) = false := decide_eq_false c14
                  clear c14
                  simp only [Option.some.injEq, Prod.mk.injEq] at H
                  obtain ⟨rfl, rfl⟩ := H
                  go_wp2_with (first | ((with_reducible refine gate_callee (f := 74) rfl ?_); refine goesL_ (some 40) rfl rfl Tryd.func74 (by kernel_rfl) rfl #[.int .u32 a1] rfl (by (try simp only [List.map_toArray, List.map_cons, List.map_nil]); first | done | rfl | (simp only [List.length_drop, List.length_take]; rfl)) ?_; (with_reducible refine (digit_fit.calls a1 true _ A12.out).mono ?_); rintro e w' ⟨rfl, ⟨nd, rfl⟩⟩; refine ⟨_, rfl, ?_⟩))
                  go_ret2
                  exact ⟨by first | rfl | (simp; done) | (simp [*]; done), by repeat (first | exact Drawn0.refl _ | apply Drawn0.step)⟩
              · replace c13 := Bool.eq_false_iff.mpr c13
                subst c13
                have H1 : (some (0, false)) = some (r1, r2) := by rw [if_neg (show ¬ (false = true) by decide)] at H; exact H
                clear H
                have H := H1
                clear H1
                simp only [Option.some.injEq, Prod.mk.injEq] at H
                obtain ⟨rfl, rfl⟩ := H
                go_wp2_with (first | ((with_reducible refine gate_callee (f := 74) rfl ?_); refine goesL_ (some 40) rfl rfl Tryd.func74 (by kernel_rfl) rfl #[.int .u32 a1] rfl (by (try simp only [List.map_toArray, List.map_cons, List.map_nil]); first | done | rfl | (simp only [List.length_drop, List.length_take]; rfl)) ?_; (with_reducible refine (digit_fit.calls a1 false _ A12.out).mono ?_); rintro e w' ⟨rfl, ⟨nd, rfl⟩⟩; refine ⟨_, rfl, ?_⟩))
                go_ret2
                exact ⟨by first | rfl | (simp; done) | (simp [*]; done), by repeat (first | exact Drawn0.refl _ | apply Drawn0.step)⟩
            · replace c11 := Bool.eq_false_iff.mpr c11
              subst c11
              have H1 : (if a0 ≥ 65 then (digit_Value.j2 kj8 a0 a1 255 (decide (a0 ≤ 90))) else (digit_Value.j2 kj8 a0 a1 255 false)) = some (r1, r2) := by rw [if_neg (show ¬ (false = true) by decide)] at H; exact H
              clear H
              have H := H1
              clear H1
              have HC15 := Aside0.mk H
              clear H
              go_upto_region 6 with (fail)
              go_cut [28] (fun v28 wc => ∃ (kq : Nat) (x28_14 : Bool), v28 = .bool x28_14 ∧ Aside0 (digit_Value.j2 kq a0 a1 255 x28_14 = some (r1, r2)) ∧ Aside0 (kq ≤ kj8) ∧ Drawn0 w wc)
              case first =>
                have H := HC15.out
                clear HC15
                by_cases c16 : a0 ≥ 65
                · rw [if_pos c16] at H
                  have c16b0 : decide (65 ≤ a0) = true := decide_eq_true c16
                  clear c16
                  (first | rw [c16b0] | (simp only [i64_w, i32_w]; rw [c16b0]) | skip)
                  have H' := Aside0.mk H
                  clear H
                  go_wp2
                  go_meet
                  case rel => exact ⟨_, (decide (a0 ≤ 90)), (by first | rfl | (simp; done) | (simp [*]; done)), H', ⟨by have := HJ2.out; have := HJ8.out; first | omega | exact Nat.le_refl _⟩, by repeat (first | exact Drawn0.refl _ | apply Drawn0.step)⟩
                · rw [if_neg c16] at H
                  have c16b0 : decide (65 ≤ a0) = false := decide_eq_false c16
                  clear c16
                  (first | rw [c16b0] | (simp only [i64_w, i32_w]; rw [c16b0]) | skip)
                  have H' := Aside0.mk H
                  clear H
                  go_wp2
                  go_meet
                  case rel => exact ⟨_, (false), (by first | rfl | (simp; done) | (simp [*]; done)), H', ⟨by have := HJ2.out; have := HJ8.out; first | omega | exact Nat.le_refl _⟩, by repeat (first | exact Drawn0.refl _ | apply Drawn0.step)⟩
              case rest =>
                clear HC15
                try clear c1
                try clear c2
                try clear p2
                try clear c4
                try clear c4b0
                try clear c5
                try clear c7
                try clear c8
                try clear c8b0
                try clear c10
                try clear c10b0
                try clear c11
                try clear c13
                try clear c14
                try clear c14b0
                try clear c16
                try clear c16b0
                try clear p2
                obtain ⟨kq, x28_14, rfl, HA, HJ14, ⟨mc14, rfl⟩⟩ := hcut
                cases kq with
                | zero => exact absurd HA.out (by simp [digit_Value.j2])
                | succ kj14 =>
                  have H := HA.out
                  clear HA
                  simp only [digit_Value.j2] at H
                  by_cases c17 : x28_14 = true
                  · subst c17
                    have H1 : ((digit_fit.f a1).bind fun t76003 => (if t76003 = true then (if (((a0 - 65) % 256) + 10) ≥ a1 then (some (0, false)) else (some (((a0 - 65) % 256) + 10, true))) else (some (0, false)))) = some (r1, r2) := by rw [if_pos rfl] at H; exact H
                    clear H
                    have H := H1
                    clear H1
                    replace H := Option.bind_eq_some_iff.mp H
                    obtain ⟨t76003, A180, H⟩ := H
                    replace H : (if t76003 = true then (if (((a0 - 65) % 256) + 10) ≥ a1 then (some (0, false)) else (some (((a0 - 65) % 256) + 10, true))) else (some (0, false))) = some (r1, r2) := H
                    have A18 := Aside0.mk A180
                    clear A180
                    by_cases c19 : t76003 = true
                    · subst c19
                      have H1 : (if (((a0 - 65) % 256) + 10) ≥ a1 then (some (0, false)) else (some (((a0 - 65) % 256) + 10, true))) = some (r1, r2) := by rw [if_pos rfl] at H; exact H
                      clear H
                      have H := H1
                      clear H1
                      by_cases c20 : (((a0 - 65) % 256) + 10) ≥ a1
                      · rw [if_pos c20] at H
                        have c20b0 : decide (a1 ≤ (((a0 - 65) % 256) + 10)) = true := decide_eq_true c20
                        clear c20
                        simp only [Option.some.injEq, Prod.mk.injEq] at H
                        obtain ⟨rfl, rfl⟩ := H
                        go_wp2_with (first | ((with_reducible refine gate_callee (f := 74) rfl ?_); refine goesL_ (some 40) rfl rfl Tryd.func74 (by kernel_rfl) rfl #[.int .u32 a1] rfl (by (try simp only [List.map_toArray, List.map_cons, List.map_nil]); first | done | rfl | (simp only [List.length_drop, List.length_take]; rfl)) ?_; (with_reducible refine (digit_fit.calls a1 true _ A18.out).mono ?_); rintro e w' ⟨rfl, ⟨nd, rfl⟩⟩; refine ⟨_, rfl, ?_⟩))
                        go_ret2
                        exact ⟨by first | rfl | (simp; done) | (simp [*]; done), by repeat (first | exact Drawn0.refl _ | apply Drawn0.step)⟩
                      · rw [if_neg c20] at H
                        have c20b0 : decide (a1 ≤ (((a0 - 65) % 256) + 10)) = false := decide_eq_false c20
                        clear c20
                        simp only [Option.some.injEq, Prod.mk.injEq] at H
                        obtain ⟨rfl, rfl⟩ := H
                        go_wp2_with (first | ((with_reducible refine gate_callee (f := 74) rfl ?_); refine goesL_ (some 40) rfl rfl Tryd.func74 (by kernel_rfl) rfl #[.int .u32 a1] rfl (by (try simp only [List.map_toArray, List.map_cons, List.map_nil]); first | done | rfl | (simp only [List.length_drop, List.length_take]; rfl)) ?_; (with_reducible refine (digit_fit.calls a1 true _ A18.out).mono ?_); rintro e w' ⟨rfl, ⟨nd, rfl⟩⟩; refine ⟨_, rfl, ?_⟩))
                        go_ret2
                        exact ⟨by first | rfl | (simp; done) | (simp [*]; done), by repeat (first | exact Drawn0.refl _ | apply Drawn0.step)⟩
                    · replace c19 := Bool.eq_false_iff.mpr c19
                      subst c19
                      have H1 : (some (0, false)) = some (r1, r2) := by rw [if_neg (show ¬ (false = true) by decide)] at H; exact H
                      clear H
                      have H := H1
                      clear H1
                      simp only [Option.some.injEq, Prod.mk.injEq] at H
                      obtain ⟨rfl, rfl⟩ := H
                      go_wp2_with (first | ((with_reducible refine gate_callee (f := 74) rfl ?_); refine goesL_ (some 40) rfl rfl Tryd.func74 (by kernel_rfl) rfl #[.int .u32 a1] rfl (by (try simp only [List.map_toArray, List.map_cons, List.map_nil]); first | done | rfl | (simp only [List.length_drop, List.length_take]; rfl)) ?_; (with_reducible refine (digit_fit.calls a1 false _ A18.out).mono ?_); rintro e w' ⟨rfl, ⟨nd, rfl⟩⟩; refine ⟨_, rfl, ?_⟩))
                      go_ret2
                      exact ⟨by first | rfl | (simp; done) | (simp [*]; done), by repeat (first | exact Drawn0.refl _ | apply Drawn0.step)⟩
                  · replace c17 := Bool.eq_false_iff.mpr c17
                    subst c17
                    have H1 : ((digit_fit.f a1).bind fun t76004 => (if t76004 = true then (if 255 ≥ a1 then (some (0, false)) else (some (255, true))) else (some (0, false)))) = some (r1, r2) := by rw [if_neg (show ¬ (false = true) by decide)] at H; exact H
                    clear H
                    have H := H1
                    clear H1
                    replace H := Option.bind_eq_some_iff.mp H
                    obtain ⟨t76004, A210, H⟩ := H
                    replace H : (if t76004 = true then (if 255 ≥ a1 then (some (0, false)) else (some (255, true))) else (some (0, false))) = some (r1, r2) := H
                    have A21 := Aside0.mk A210
                    clear A210
                    by_cases c22 : t76004 = true
                    · subst c22
                      have H1 : (if 255 ≥ a1 then (some (0, false)) else (some (255, true))) = some (r1, r2) := by rw [if_pos rfl] at H; exact H
                      clear H
                      have H := H1
                      clear H1
                      by_cases c23 : 255 ≥ a1
                      · rw [if_pos c23] at H
                        have c23b0 : decide (a1 ≤ 255) = true := decide_eq_true c23
                        clear c23
                        simp only [Option.some.injEq, Prod.mk.injEq] at H
                        obtain ⟨rfl, rfl⟩ := H
                        go_wp2_with (first | ((with_reducible refine gate_callee (f := 74) rfl ?_); refine goesL_ (some 40) rfl rfl Tryd.func74 (by kernel_rfl) rfl #[.int .u32 a1] rfl (by (try simp only [List.map_toArray, List.map_cons, List.map_nil]); first | done | rfl | (simp only [List.length_drop, List.length_take]; rfl)) ?_; (with_reducible refine (digit_fit.calls a1 true _ A21.out).mono ?_); rintro e w' ⟨rfl, ⟨nd, rfl⟩⟩; refine ⟨_, rfl, ?_⟩))
                        go_ret2
                        exact ⟨by first | rfl | (simp; done) | (simp [*]; done), by repeat (first | exact Drawn0.refl _ | apply Drawn0.step)⟩
                      · rw [if_neg c23] at H
                        have c23b0 : decide (a1 ≤ 255) = false := decide_eq_false c23
                        clear c23
                        simp only [Option.some.injEq, Prod.mk.injEq] at H
                        obtain ⟨rfl, rfl⟩ := H
                        go_wp2_with (first | ((with_reducible refine gate_callee (f := 74) rfl ?_); refine goesL_ (some 40) rfl rfl Tryd.func74 (by kernel_rfl) rfl #[.int .u32 a1] rfl (by (try simp only [List.map_toArray, List.map_cons, List.map_nil]); first | done | rfl | (simp only [List.length_drop, List.length_take]; rfl)) ?_; (with_reducible refine (digit_fit.calls a1 true _ A21.out).mono ?_); rintro e w' ⟨rfl, ⟨nd, rfl⟩⟩; refine ⟨_, rfl, ?_⟩))
                        go_ret2
                        exact ⟨by first | rfl | (simp; done) | (simp [*]; done), by repeat (first | exact Drawn0.refl _ | apply Drawn0.step)⟩
                    · replace c22 := Bool.eq_false_iff.mpr c22
                      subst c22
                      have H1 : (some (0, false)) = some (r1, r2) := by rw [if_neg (show ¬ (false = true) by decide)] at H; exact H
                      clear H
                      have H := H1
                      clear H1
                      simp only [Option.some.injEq, Prod.mk.injEq] at H
                      obtain ⟨rfl, rfl⟩ := H
                      go_wp2_with (first | ((with_reducible refine gate_callee (f := 74) rfl ?_); refine goesL_ (some 40) rfl rfl Tryd.func74 (by kernel_rfl) rfl #[.int .u32 a1] rfl (by (try simp only [List.map_toArray, List.map_cons, List.map_nil]); first | done | rfl | (simp only [List.length_drop, List.length_take]; rfl)) ?_; (with_reducible refine (digit_fit.calls a1 false _ A21.out).mono ?_); rintro e w' ⟨rfl, ⟨nd, rfl⟩⟩; refine ⟨_, rfl, ?_⟩))
                      go_ret2
                      exact ⟨by first | rfl | (simp; done) | (simp [*]; done), by repeat (first | exact Drawn0.refl _ | apply Drawn0.step)⟩

end Go.Proofs.YtlhnaplmphdhlaaDoor.Q
end
section
namespace Go.Proofs.YtlhnaplmphdhlaaDoor.Q
open Go.RowKit Go.Proofs.YtlhnaplmphdhlaaDoorW.PrintWords Go.Proofs.YtlhnaplmphdhlaaDoorW.PrintLast Go.Proofs.YtlhnaplmphdhlaaDoorW.PrintMore
set_option linter.unusedVariables false
set_option linter.unusedSimpArgs false

attribute [local go_sem] max2_int min2_int max_two min_two max_three min_three max_four min_four
/-! ### stringslite_HasPrefix: function 97 -/
def stringslite_HasPrefix.f (a0 : ByteArray) (a1 : ByteArray) : Option (Bool) := if (a0.size : Int) ≥ (a1.size : Int) then (if 0 ≤ (a1.size : Int) then (if (a1.size : Int) ≤ (a0.size : Int) then (some ((a0.extract 0 ((a1.size : Int) : Int).toNat).toList == a1.toList)) else (none)) else (none)) else (some false)
set_option maxHeartbeats 8000000 in
set_option maxRecDepth 100000 in
theorem stringslite_HasPrefix.calls (a0 : ByteArray) (a1 : ByteArray) (r : Bool) (w : World) (h : stringslite_HasPrefix.f a0 a1 = some r) :
    Calls Tryd.prog 97 #[.string a0, .string a1] w fun e w' => e = .returned (.bool r) ∧ Drawn0 w w' := by
  have H : (if (a0.size : Int) ≥ (a1.size : Int) then (if 0 ≤ (a1.size : Int) then (if (a1.size : Int) ≤ (a0.size : Int) then (some ((a0.extract 0 ((a1.size : Int) : Int).toNat).toList == a1.toList)) else (none)) else (none)) else (some false)) = some r := h
  clear h
  by_cases c3 : (a0.size : Int) ≥ (a1.size : Int)
  · rw [if_pos c3] at H
    have c3b0 : decide ((a1.size : Int) ≤ (a0.size : Int)) = true := decide_eq_true c3
    have c3b1 : decide (a1.size ≤ a0.size) = true := decide_eq_true (Int.ofNat_le.mp c3)
    clear c3
    by_cases c4 : 0 ≤ (a1.size : Int)
    · rw [if_pos c4] at H
      have c4b0 := eq_true c4
      have c4b1 : decide (0 ≤ (a1.size : Int)) = true := decide_eq_true c4
      clear c4
      by_cases c5 : (a1.size : Int) ≤ (a0.size : Int)
      · rw [if_pos c5] at H
        have c5b0 := eq_true c5
        have c5b1 : decide ((a1.size : Int) ≤ (a0.size : Int)) = true := decide_eq_true c5
        clear c5
        obtain rfl := Option.some.inj H
        go_enter Tryd.func97, Tryd.ntmps97
        go_wp2
        go_ret
        exact ⟨by first | rfl | (simp; done) | (simp [*]; done), by repeat (first | exact Drawn0.refl _ | apply Drawn0.step)⟩
      · rw [if_neg c5] at H
        exact absurd H (by simp)
    · rw [if_neg c4] at H
      exact absurd H (by simp)
  · rw [if_neg c3] at H
    have c3b0 : decide ((a1.size : Int) ≤ (a0.size : Int)) = false := decide_eq_false c3
    have c3b1 : decide (a1.size ≤ a0.size) = false := decide_eq_false (fun h => c3 (Int.ofNat_le.mpr h))
    clear c3
    obtain rfl := Option.some.inj H
    go_enter Tryd.func97, Tryd.ntmps97
    go_wp2
    go_ret
    exact ⟨by first | rfl | (simp; done) | (simp [*]; done), by repeat (first | exact Drawn0.refl _ | apply Drawn0.step)⟩

end Go.Proofs.YtlhnaplmphdhlaaDoor.Q
end
section
namespace Go.Proofs.YtlhnaplmphdhlaaDoor.Q
open Go.RowKit Go.Proofs.YtlhnaplmphdhlaaDoorW.PrintWords Go.Proofs.YtlhnaplmphdhlaaDoorW.PrintLast Go.Proofs.YtlhnaplmphdhlaaDoorW.PrintMore
set_option linter.unusedVariables false
set_option linter.unusedSimpArgs false

attribute [local go_sem] max2_int min2_int max_two min_two max_three min_three max_four min_four
/-! ### stringslite_CutPrefix: function 79 -/
def stringslite_CutPrefix.f (a0 : ByteArray) (a1 : ByteArray) : Option (ByteArray × Bool) := (stringslite_HasPrefix.f a0 a1).bind fun t80001 => (if t80001 = true then (if 0 ≤ (a1.size : Int) then (if (a1.size : Int) ≤ (a0.size : Int) then (some (a0.extract ((a1.size : Int) : Int).toNat a0.size, true)) else (none)) else (none)) else (some (a0, false)))
set_option maxHeartbeats 8000000 in
set_option maxRecDepth 100000 in
theorem stringslite_CutPrefix.calls (a0 : ByteArray) (a1 : ByteArray) (r1 : ByteArray) (r2 : Bool) (w : World) (h : stringslite_CutPrefix.f a0 a1 = some (r1, r2)) :
    Calls Tryd.prog 79 #[.string a0, .string a1] w fun e w' => e = .returned (.tuple #[.string r1, .bool r2]) ∧ Drawn0 w w' := by
  have H : ((stringslite_HasPrefix.f a0 a1).bind fun t80001 => (if t80001 = true then (if 0 ≤ (a1.size : Int) then (if (a1.size : Int) ≤ (a0.size : Int) then (some (a0.extract ((a1.size : Int) : Int).toNat a0.size, true)) else (none)) else (none)) else (some (a0, false)))) = some (r1, r2) := h
  clear h
  replace H := Option.bind_eq_some_iff.mp H
  obtain ⟨t80001, A30, H⟩ := H
  replace H : (if t80001 = true then (if 0 ≤ (a1.size : Int) then (if (a1.size : Int) ≤ (a0.size : Int) then (some (a0.extract ((a1.size : Int) : Int).toNat a0.size, true)) else (none)) else (none)) else (some (a0, false))) = some (r1, r2) := H
  have A3 := Aside0.mk A30
  clear A30
  by_cases c4 : t80001 = true
  · subst c4
    have H1 : (if 0 ≤ (a1.size : Int) then (if (a1.size : Int) ≤ (a0.size : Int) then (some (a0.extract ((a1.size : Int) : Int).toNat a0.size, true)) else (none)) else (none)) = some (r1, r2) := by rw [if_pos rfl] at H; exact H
    clear H
    have H := H1
    clear H1
    by_cases c5 : 0 ≤ (a1.size : Int)
    · rw [if_pos c5] at H
      have c5b0 := eq_true c5
      have c5b1 : decide (0 ≤ (a1.size : Int)) = true := decide_eq_true c5
      clear c5
      by_cases c6 : (a1.size : Int) ≤ (a0.size : Int)
      · rw [if_pos c6] at H
        have c6b0 := eq_true c6
        have c6b1 : decide ((a1.size : Int) ≤ (a0.size : Int)) = true := decide_eq_true c6
        clear c6
        simp only [Option.some.injEq, Prod.mk.injEq] at H
        obtain ⟨rfl, rfl⟩ := H
        go_enter Tryd.func79, Tryd.ntmps79
        go_wp2_with (first | ((with_reducible refine gate_callee (f := 97) rfl ?_); refine goesL_ (some 8) rfl rfl Tryd.func97 (by kernel_rfl) rfl #[.string a0, .string a1] rfl (by (try simp only [List.map_toArray, List.map_cons, List.map_nil]); first | done | rfl | (simp only [List.length_drop, List.length_take]; rfl)) ?_; (with_reducible refine (stringslite_HasPrefix.calls a0 a1 true _ A3.out).mono ?_); rintro e w' ⟨rfl, ⟨nd, rfl⟩⟩; refine ⟨_, rfl, ?_⟩))
        go_ret2
        exact ⟨by first | rfl | (simp; done) | (simp [*]; done), by repeat (first | exact Drawn0.refl _ | apply Drawn0.step)⟩
      · rw [if_neg c6] at H
        exact absurd H (by simp)
    · rw [if_neg c5] at H
      exact absurd H (by simp)
  · replace c4 := Bool.eq_false_iff.mpr c4
    subst c4
    have H1 : (some (a0, false)) = some (r1, r2) := by rw [if_neg (show ¬ (false = true) by decide)] at H; exact H
    clear H
    have H := H1
    clear H1
    simp only [Option.some.injEq, Prod.mk.injEq] at H
    obtain ⟨rfl, rfl⟩ := H
    go_enter Tryd.func79, Tryd.ntmps79
    go_wp2_with (first | ((with_reducible refine gate_callee (f := 97) rfl ?_); refine goesL_ (some 8) rfl rfl Tryd.func97 (by kernel_rfl) rfl #[.string a0, .string a1] rfl (by (try simp only [List.map_toArray, List.map_cons, List.map_nil]); first | done | rfl | (simp only [List.length_drop, List.length_take]; rfl)) ?_; (with_reducible refine (stringslite_HasPrefix.calls a0 a1 false _ A3.out).mono ?_); rintro e w' ⟨rfl, ⟨nd, rfl⟩⟩; refine ⟨_, rfl, ?_⟩))
    go_ret2
    exact ⟨by first | rfl | (simp; done) | (simp [*]; done), by repeat (first | exact Drawn0.refl _ | apply Drawn0.step)⟩

end Go.Proofs.YtlhnaplmphdhlaaDoor.Q
end
section
namespace Go.Proofs.YtlhnaplmphdhlaaDoor.Q
open Go.RowKit Go.Proofs.YtlhnaplmphdhlaaDoorW.PrintWords Go.Proofs.YtlhnaplmphdhlaaDoorW.PrintLast Go.Proofs.YtlhnaplmphdhlaaDoorW.PrintMore
set_option linter.unusedVariables false
set_option linter.unusedSimpArgs false

attribute [local go_sem] max2_int min2_int max_two min_two max_three min_three max_four min_four
/-! ### strings_CutPrefix: function 59 -/
def strings_CutPrefix.f (a0 : ByteArray) (a1 : ByteArray) : Option (ByteArray × Bool) := (stringslite_CutPrefix.f a0 a1).bind fun bt60001 => (some (bt60001.1, bt60001.2))
set_option maxHeartbeats 8000000 in
set_option maxRecDepth 100000 in
theorem strings_CutPrefix.calls (a0 : ByteArray) (a1 : ByteArray) (r1 : ByteArray) (r2 : Bool) (w : World) (h : strings_CutPrefix.f a0 a1 = some (r1, r2)) :
    Calls Tryd.prog 59 #[.string a0, .string a1] w fun e w' => e = .returned (.tuple #[.string r1, .bool r2]) ∧ Drawn0 w w' := by
  have H : ((stringslite_CutPrefix.f a0 a1).bind fun bt60001 => (some (bt60001.1, bt60001.2))) = some (r1, r2) := h
  clear h
  replace H := Option.bind_eq_some_iff.mp H
  obtain ⟨⟨t60001, t60002⟩, A30, H⟩ := H
  replace H : (some (t60001, t60002)) = some (r1, r2) := H
  have A3 := Aside0.mk A30
  clear A30
  simp only [Option.some.injEq, Prod.mk.injEq] at H
  obtain ⟨rfl, rfl⟩ := H
  go_enter Tryd.func59, Tryd.ntmps59
  go_wp2_with (first | ((with_reducible refine gate_callee (f := 79) rfl ?_); refine goesL_ (some 8) rfl rfl Tryd.func79 (by kernel_rfl) rfl #[.string a0, .string a1] rfl (by (try simp only [List.map_toArray, List.map_cons, List.map_nil]); first | done | rfl | (simp only [List.length_drop, List.length_take]; rfl)) ?_; (with_reducible refine (stringslite_CutPrefix.calls a0 a1 t60001 t60002 _ A3.out).mono ?_); rintro e w' ⟨rfl, ⟨nd, rfl⟩⟩; refine ⟨_, rfl, ?_⟩))
  go_ret2
  exact ⟨by first | rfl | (simp; done) | (simp [*]; done), by repeat (first | exact Drawn0.refl _ | apply Drawn0.step)⟩

end Go.Proofs.YtlhnaplmphdhlaaDoor.Q
end
section
namespace Go.Proofs.YtlhnaplmphdhlaaDoor.Q
open Go.RowKit Go.Proofs.YtlhnaplmphdhlaaDoorW.PrintWords Go.Proofs.YtlhnaplmphdhlaaDoorW.PrintLast Go.Proofs.YtlhnaplmphdhlaaDoorW.PrintMore
set_option linter.unusedVariables false
set_option linter.unusedSimpArgs false

attribute [local go_sem] max2_int min2_int max_two min_two max_three min_three max_four min_four
/-! ### digit_Parse: function 54 -/
def digit_Parse.l0 : Nat → Int → ByteArray → Bool → Int → Int → Int → Int → Option (Int × Int)
  | 0, _, _, _, _, _, _, _ => none
  | k + 1, x1, x6, x7, x8, x9, x24, x25 => if x25 < x24 then (if 0 ≤ x25 then (if x25 < (x6.size : Int) then ((digit_Value.f k (bt x6 x25) x1).bind fun bt55004 => (if bt55004.2 = true then (if (IntKind.u64.wrap ((IntKind.u64.wrap (x8 * (IntKind.u64.wrap (x1)))) + (IntKind.u64.wrap (bt55004.1)))) > 4294967295 then (digit_Parse.l0 k x1 x6 x7 4294967296 4 x24 (wrap64 (x25 + 1))) else (digit_Parse.l0 k x1 x6 x7 (IntKind.u64.wrap ((IntKind.u64.wrap (x8 * (IntKind.u64.wrap (x1)))) + (IntKind.u64.wrap (bt55004.1)))) x9 x24 (wrap64 (x25 + 1)))) else (some (0, 15)))) else (none)) else (none)) else (if x9 = 0 then (if x7 = true then (some ((IntKind.u64.wrap (-x8)) % 4294967296, 0)) else (some ((x8) % 4294967296, 0))) else (some (0, x9)))
def digit_Parse.f (k : Nat) (a0 : ByteArray) (a1 : Int) : Option (Int × Int) := (digit_fit.f a1).bind fun t55001 => (if t55001 = true then ((strings_CutPrefix.f a0 (⟨#[45]⟩ : ByteArray)).bind fun bt55002 => (if bt55002.1.toList = ([] : List UInt8) then (some (0, 15)) else (digit_Parse.l0 k a1 bt55002.1 bt55002.2 0 0 (bt55002.1.size : Int) 0))) else (some (0, 1)))
set_option maxHeartbeats 8000000 in
set_option maxRecDepth 100000 in
theorem digit_Parse.calls (k : Nat) (a0 : ByteArray) (a1 : Int) (r1 : Int) (r2 : Int) (w : World) (h : digit_Parse.f k a0 a1 = some (r1, r2)) :
    Calls Tryd.prog 54 #[.string a0, .int .u32 a1] w fun e w' => e = .returned (.tuple #[.int .u32 r1, .int .i64 r2]) ∧ Drawn0 w w' := by
  have H : ((digit_fit.f a1).bind fun t55001 => (if t55001 = true then ((strings_CutPrefix.f a0 (⟨#[45]⟩ : ByteArray)).bind fun bt55002 => (if bt55002.1.toList = ([] : List UInt8) then (some (0, 15)) else (digit_Parse.l0 k a1 bt55002.1 bt55002.2 0 0 (bt55002.1.size : Int) 0))) else (some (0, 1)))) = some (r1, r2) := h
  clear h
  replace H := Option.bind_eq_some_iff.mp H
  obtain ⟨t55001, A30, H⟩ := H
  replace H : (if t55001 = true then ((strings_CutPrefix.f a0 (⟨#[45]⟩ : ByteArray)).bind fun bt55002 => (if bt55002.1.toList = ([] : List UInt8) then (some (0, 15)) else (digit_Parse.l0 k a1 bt55002.1 bt55002.2 0 0 (bt55002.1.size : Int) 0))) else (some (0, 1))) = some (r1, r2) := H
  have A3 := Aside0.mk A30
  clear A30
  by_cases c4 : t55001 = true
  · subst c4
    have H1 : ((strings_CutPrefix.f a0 (⟨#[45]⟩ : ByteArray)).bind fun bt55002 => (if bt55002.1.toList = ([] : List UInt8) then (some (0, 15)) else (digit_Parse.l0 k a1 bt55002.1 bt55002.2 0 0 (bt55002.1.size : Int) 0))) = some (r1, r2) := by rw [if_pos rfl] at H; exact H
    clear H
    have H := H1
    clear H1
    replace H := Option.bind_eq_some_iff.mp H
    obtain ⟨⟨t55002, t55003⟩, A50, H⟩ := H
    replace H : (if t55002.toList = ([] : List UInt8) then (some (0, 15)) else (digit_Parse.l0 k a1 t55002 t55003 0 0 (t55002.size : Int) 0)) = some (r1, r2) := H
    have A5 := Aside0.mk A50
    clear A50
    by_cases c6 : t55002.toList = ([] : List UInt8)
    · rw [if_pos c6] at H
      have c6b0 : (t55002.toList == ([] : List UInt8)) = true := beq_iff_eq.mpr c6
      have c6b1 : (t55002.toList != ([] : List UInt8)) = false := bne_eq_false_iff_eq.mpr c6
      clear c6
      simp only [Option.some.injEq, Prod.mk.injEq] at H
      obtain ⟨rfl, rfl⟩ := H
      go_enter Tryd.func54, Tryd.ntmps54
      go_wp2_with (first | ((with_reducible refine gate_callee (f := 74) rfl ?_); refine goesL_ (some 14) rfl rfl Tryd.func74 (by kernel_rfl) rfl #[.int .u32 a1] rfl (by (try simp only [List.map_toArray, List.map_cons, List.map_nil]); first | done | rfl | (simp only [List.length_drop, List.length_take]; rfl)) ?_; (with_reducible refine (digit_fit.calls a1 true _ A3.out).mono ?_); rintro e w' ⟨rfl, ⟨nd, rfl⟩⟩; refine ⟨_, rfl, ?_⟩) | ((with_reducible refine gate_callee (f := 59) rfl ?_); refine goesL_ (some 18) rfl rfl Tryd.func59 (by kernel_rfl) rfl #[.string a0, .string (⟨#[45]⟩ : ByteArray)] rfl (by (try simp only [List.map_toArray, List.map_cons, List.map_nil]); first | done | rfl | (simp only [List.length_drop, List.length_take]; rfl)) ?_; (with_reducible refine (strings_CutPrefix.calls a0 (⟨#[45]⟩ : ByteArray) t55002 t55003 _ A5.out).mono ?_); rintro e w' ⟨rfl, ⟨nd, rfl⟩⟩; refine ⟨_, rfl, ?_⟩))
      go_ret2
      exact ⟨by first | rfl | (simp; done) | (simp [*]; done), by repeat (first | exact Drawn0.refl _ | apply Drawn0.step)⟩
    · rw [if_neg c6] at H
      have c6b0 : (t55002.toList == ([] : List UInt8)) = false := beq_eq_false_iff_ne.mpr c6
      have c6b1 : (t55002.toList != ([] : List UInt8)) = true := bne_iff_ne.mpr c6
      have H' := Aside0.mk H
      clear H
      go_enter Tryd.func54, Tryd.ntmps54
      go_wp2_with (first | ((with_reducible refine gate_callee (f := 74) rfl ?_); refine goesL_ (some 14) rfl rfl Tryd.func74 (by kernel_rfl) rfl #[.int .u32 a1] rfl (by (try simp only [List.map_toArray, List.map_cons, List.map_nil]); first | done | rfl | (simp only [List.length_drop, List.length_take]; rfl)) ?_; (with_reducible refine (digit_fit.calls a1 true _ A3.out).mono ?_); rintro e w' ⟨rfl, ⟨nd, rfl⟩⟩; refine ⟨_, rfl, ?_⟩) | ((with_reducible refine gate_callee (f := 59) rfl ?_); refine goesL_ (some 18) rfl rfl Tryd.func59 (by kernel_rfl) rfl #[.string a0, .string (⟨#[45]⟩ : ByteArray)] rfl (by (try simp only [List.map_toArray, List.map_cons, List.map_nil]); first | done | rfl | (simp only [List.length_drop, List.length_take]; rfl)) ?_; (with_reducible refine (strings_CutPrefix.calls a0 (⟨#[45]⟩ : ByteArray) t55002 t55003 _ A5.out).mono ?_); rintro e w' ⟨rfl, ⟨nd, rfl⟩⟩; refine ⟨_, rfl, ?_⟩))
      go_loopg [8, 9, 25] k (fun kq v8 v9 v25 w' => ∃ (x8_1 : Int) (x9_1 : Int) (x25_1 : Int), v8 = .int .u64 x8_1 ∧ v9 = .int .i64 x9_1 ∧ v25 = .int .i64 x25_1 ∧ Aside0 (digit_Parse.l0 kq a1 t55002 t55003 x8_1 x9_1 (t55002.size : Int) x25_1 = some (r1, r2)) ∧ Aside0 (kq ≤ k) ∧ Drawn0 w w')
      case atStart => exact ⟨(0), (0), (0), (by first | rfl | (simp; done) | (simp [*]; done)), (by first | rfl | (simp; done) | (simp [*]; done)), (by first | rfl | (simp; done) | (simp [*]; done)), H', ⟨Nat.le_refl _⟩, by repeat (first | exact Drawn0.refl _ | apply Drawn0.step)⟩
      case round =>
        clear H'
        try clear p2
        try clear c4
        try clear c5
        try clear c6
        try clear c6b0
        try clear c6b1
        obtain ⟨x8_1, x9_1, x25_1, rfl, rfl, rfl, HA, HK1, ⟨m1, rfl⟩⟩ := hrel
        cases gk with
        | zero => exact absurd HA.out (by simp [digit_Parse.l0])
        | succ k1 =>
          have H := HA.out
          clear HA
          simp only [digit_Parse.l0] at H
          by_cases c7 : x25_1 < (t55002.size : Int)
          · rw [if_pos c7] at H
            have c7b0 : decide (x25_1 < (t55002.size : Int)) = true := decide_eq_true c7
            clear c7
            by_cases c8 : 0 ≤ x25_1
            · rw [if_pos c8] at H
              have c8b0 : decide (0 ≤ x25_1) = true := decide_eq_true c8
              clear c8
              by_cases c9 : x25_1 < (t55002.size : Int)
              · rw [if_pos c9] at H
                have c9b0 : decide (x25_1 < (t55002.size : Int)) = true := decide_eq_true c9
                clear c9
                replace H := Option.bind_eq_some_iff.mp H
                obtain ⟨⟨t55004, t55005⟩, A110, H⟩ := H
                replace H : (if t55005 = true then (if (IntKind.u64.wrap ((IntKind.u64.wrap (x8_1 * (IntKind.u64.wrap (a1)))) + (IntKind.u64.wrap (t55004)))) > 4294967295 then (digit_Parse.l0 k1 a1 t55002 t55003 4294967296 4 (t55002.size : Int) (wrap64 (x25_1 + 1))) else (digit_Parse.l0 k1 a1 t55002 t55003 (IntKind.u64.wrap ((IntKind.u64.wrap (x8_1 * (IntKind.u64.wrap (a1)))) + (IntKind.u64.wrap (t55004)))) x9_1 (t55002.size : Int) (wrap64 (x25_1 + 1)))) else (some (0, 15))) = some (r1, r2) := H
                have A11 := Aside0.mk A110
                clear A110
                by_cases c12 : t55005 = true
                · subst c12
                  have H1 : (if (IntKind.u64.wrap ((IntKind.u64.wrap (x8_1 * (IntKind.u64.wrap (a1)))) + (IntKind.u64.wrap (t55004)))) > 4294967295 then (digit_Parse.l0 k1 a1 t55002 t55003 4294967296 4 (t55002.size : Int) (wrap64 (x25_1 + 1))) else (digit_Parse.l0 k1 a1 t55002 t55003 (IntKind.u64.wrap ((IntKind.u64.wrap (x8_1 * (IntKind.u64.wrap (a1)))) + (IntKind.u64.wrap (t55004)))) x9_1 (t55002.size : Int) (wrap64 (x25_1 + 1)))) = some (r1, r2) := by rw [if_pos rfl] at H; exact H
                  clear H
                  have H := H1
                  clear H1
                  by_cases c13 : (IntKind.u64.wrap ((IntKind.u64.wrap (x8_1 * (IntKind.u64.wrap (a1)))) + (IntKind.u64.wrap (t55004)))) > 4294967295
                  · rw [if_pos c13] at H
                    have c13b0 : decide (4294967295 < (IntKind.u64.wrap ((IntKind.u64.wrap (x8_1 * (IntKind.u64.wrap (a1)))) + (IntKind.u64.wrap (t55004))))) = true := decide_eq_true c13
                    clear c13
                    have H' := Aside0.mk H
                    clear H
                    have p10 : 0 ≤ (x25_1 : Int) := of_decide_eq_true (by first | (with_reducible assumption) | assumption)
                    have q10 : x25_1 < (t55002.size : Int) := of_decide_eq_true (by first | (with_reducible assumption) | assumption)
                    have hx10 := bt_at t55002 x25_1
                    replace p10 := eq_true p10
                    replace q10 := eq_true q10
                    go_wp2_with (first | ((with_reducible refine gate_callee (f := 75) rfl ?_); refine goesL_ (some 33) rfl rfl Tryd.func75 (by kernel_rfl) rfl #[.int .u8 (bt t55002 x25_1), .int .u32 a1] rfl (by (try simp only [List.map_toArray, List.map_cons, List.map_nil]); first | done | rfl | (simp only [List.length_drop, List.length_take]; rfl)) ?_; (with_reducible refine (digit_Value.calls k1 (bt t55002 x25_1) a1 t55004 true _ A11.out).mono ?_); rintro e w' ⟨rfl, ⟨nd, rfl⟩⟩; refine ⟨_, rfl, ?_⟩))
                    go_roundg k1
                    case measure => have := HK1.out; omega
                    case rel => exact ⟨(4294967296), (4), (wrap64 (x25_1 + 1)), (by first | rfl | (simp; done) | (simp [*]; done)), (by first | rfl | (simp; done) | (simp [*]; done)), (by first | rfl | (simp; done) | (simp [*]; done)), H', ⟨by have := HK1.out; omega⟩, by repeat (first | exact Drawn0.refl _ | apply Drawn0.step)⟩
                  · rw [if_neg c13] at H
                    have c13b0 : decide (4294967295 < (IntKind.u64.wrap ((IntKind.u64.wrap (x8_1 * (IntKind.u64.wrap (a1)))) + (IntKind.u64.wrap (t55004))))) = false := decide_eq_false c13
                    clear c13
                    have H' := Aside0.mk H
                    clear H
                    have p10 : 0 ≤ (x25_1 : Int) := of_decide_eq_true (by first | (with_reducible assumption) | assumption)
                    have q10 : x25_1 < (t55002.size : Int) := of_decide_eq_true (by first | (with_reducible assumption) | assumption)
                    have hx10 := bt_at t55002 x25_1
                    replace p10 := eq_true p10
                    replace q10 := eq_true q10
                    go_wp2_with (first | ((with_reducible refine gate_callee (f := 75) rfl ?_); refine goesL_ (some 33) rfl rfl Tryd.func75 (by kernel_rfl) rfl #[.int .u8 (bt t55002 x25_1), .int .u32 a1] rfl (by (try simp only [List.map_toArray, List.map_cons, List.map_nil]); first | done | rfl | (simp only [List.length_drop, List.length_take]; rfl)) ?_; (with_reducible refine (digit_Value.calls k1 (bt t55002 x25_1) a1 t55004 true _ A11.out).mono ?_); rintro e w' ⟨rfl, ⟨nd, rfl⟩⟩; refine ⟨_, rfl, ?_⟩))
                    go_roundg k1
                    case measure => have := HK1.out; omega
                    case rel => exact ⟨(IntKind.u64.wrap ((IntKind.u64.wrap (x8_1 * (IntKind.u64.wrap (a1)))) + (IntKind.u64.wrap (t55004)))), (x9_1), (wrap64 (x25_1 + 1)), (by first | rfl | (simp; done) | (simp [*]; done)), (by first | rfl | (simp; done) | (simp [*]; done)), (by first | rfl | (simp; done) | (simp [*]; done)), H', ⟨by have := HK1.out; omega⟩, by repeat (first | exact Drawn0.refl _ | apply Drawn0.step)⟩
                · replace c12 := Bool.eq_false_iff.mpr c12
                  subst c12
                  have H1 : (some (0, 15)) = some (r1, r2) := by rw [if_neg (show ¬ (false = true) by decide)] at H; exact H
                  clear H
                  have H := H1
                  clear H1
                  simp only [Option.some.injEq, Prod.mk.injEq] at H
                  obtain ⟨rfl, rfl⟩ := H
                  have p10 : 0 ≤ (x25_1 : Int) := of_decide_eq_true (by first | (with_reducible assumption) | assumption)
                  have q10 : x25_1 < (t55002.size : Int) := of_decide_eq_true (by first | (with_reducible assumption) | assumption)
                  have hx10 := bt_at t55002 x25_1
                  replace p10 := eq_true p10
                  replace q10 := eq_true q10
                  go_wp2_with (first | ((with_reducible refine gate_callee (f := 75) rfl ?_); refine goesL_ (some 33) rfl rfl Tryd.func75 (by kernel_rfl) rfl #[.int .u8 (bt t55002 x25_1), .int .u32 a1] rfl (by (try simp only [List.map_toArray, List.map_cons, List.map_nil]); first | done | rfl | (simp only [List.length_drop, List.length_take]; rfl)) ?_; (with_reducible refine (digit_Value.calls k1 (bt t55002 x25_1) a1 t55004 false _ A11.out).mono ?_); rintro e w' ⟨rfl, ⟨nd, rfl⟩⟩; refine ⟨_, rfl, ?_⟩))
                  go_ret2
                  exact ⟨by first | rfl | (simp; done) | (simp [*]; done), by repeat (first | exact Drawn0.refl _ | apply Drawn0.step)⟩
              · rw [if_neg c9] at H
                exact absurd H (by simp)
            · rw [if_neg c8] at H
              exact absurd H (by simp)
          · rw [if_neg c7] at H
            have c7b0 : decide (x25_1 < (t55002.size : Int)) = false := decide_eq_false c7
            clear c7
            by_cases c14 : x9_1 = 0
            · rw [if_pos c14] at H
              have c14b0 : (x9_1 == 0) = true := beq_iff_eq.mpr c14
              have c14b1 : (x9_1 != 0) = false := bne_eq_false_iff_eq.mpr c14
              clear c14
              by_cases c15 : t55003 = true
              · subst c15
                have H1 : (some ((IntKind.u64.wrap (-x8_1)) % 4294967296, 0)) = some (r1, r2) := by rw [if_pos rfl] at H; exact H
                clear H
                have H := H1
                clear H1
                simp only [Option.some.injEq, Prod.mk.injEq] at H
                obtain ⟨rfl, rfl⟩ := H
                go_wp2
                go_ret2
                exact ⟨by first | rfl | (simp; done) | (simp [*]; done), by repeat (first | exact Drawn0.refl _ | apply Drawn0.step)⟩
              · replace c15 := Bool.eq_false_iff.mpr c15
                subst c15
                have H1 : (some ((x8_1) % 4294967296, 0)) = some (r1, r2) := by rw [if_neg (show ¬ (false = true) by decide)] at H; exact H
                clear H
                have H := H1
                clear H1
                simp only [Option.some.injEq, Prod.mk.injEq] at H
                obtain ⟨rfl, rfl⟩ := H
                go_wp2
                go_ret2
                exact ⟨by first | rfl | (simp; done) | (simp [*]; done), by repeat (first | exact Drawn0.refl _ | apply Drawn0.step)⟩
            · rw [if_neg c14] at H
              have c14b0 : (x9_1 == 0) = false := beq_eq_false_iff_ne.mpr c14
              have c14b1 : (x9_1 != 0) = true := bne_iff_ne.mpr c14
              simp only [Option.some.injEq, Prod.mk.injEq] at H
              obtain ⟨rfl, rfl⟩ := H
              go_wp2
              go_ret2
              exact ⟨by first | rfl | (simp; done) | (simp [*]; done), by repeat (first | exact Drawn0.refl _ | apply Drawn0.step)⟩
  · replace c4 := Bool.eq_false_iff.mpr c4
    subst c4
    have H1 : (some (0, 1)) = some (r1, r2) := by rw [if_neg (show ¬ (false = true) by decide)] at H; exact H
    clear H
    have H := H1
    clear H1
    simp only [Option.some.injEq, Prod.mk.injEq] at H
    obtain ⟨rfl, rfl⟩ := H
    go_enter Tryd.func54, Tryd.ntmps54
    go_wp2_with (first | ((with_reducible refine gate_callee (f := 74) rfl ?_); refine goesL_ (some 14) rfl rfl Tryd.func74 (by kernel_rfl) rfl #[.int .u32 a1] rfl (by (try simp only [List.map_toArray, List.map_cons, List.map_nil]); first | done | rfl | (simp only [List.length_drop, List.length_take]; rfl)) ?_; (with_reducible refine (digit_fit.calls a1 false _ A3.out).mono ?_); rintro e w' ⟨rfl, ⟨nd, rfl⟩⟩; refine ⟨_, rfl, ?_⟩))
    go_ret2
    exact ⟨by first | rfl | (simp; done) | (simp [*]; done), by repeat (first | exact Drawn0.refl _ | apply Drawn0.step)⟩

end Go.Proofs.YtlhnaplmphdhlaaDoor.Q
end
section
namespace Go.Proofs.YtlhnaplmphdhlaaDoor.Q
open Go.RowKit Go.Proofs.YtlhnaplmphdhlaaDoorW.PrintWords Go.Proofs.YtlhnaplmphdhlaaDoorW.PrintLast Go.Proofs.YtlhnaplmphdhlaaDoorW.PrintMore
set_option linter.unusedVariables false
set_option linter.unusedSimpArgs false

attribute [local go_sem] max2_int min2_int max_two min_two max_three min_three max_four min_four
/-! ### tinderref02_Small: function 94 -/
def tinderref02_Small.f (a0 : Int) : Option (Int) := if a0 ≥ 65 then (if a0 ≤ 90 then (some ((a0 + 32) % 256)) else (some a0)) else (some a0)

end Go.Proofs.YtlhnaplmphdhlaaDoor.Q
end
section
namespace Go.Proofs.YtlhnaplmphdhlaaDoor.Q
open Go.RowKit Go.Proofs.YtlhnaplmphdhlaaDoorW.PrintWords Go.Proofs.YtlhnaplmphdhlaaDoorW.PrintLast Go.Proofs.YtlhnaplmphdhlaaDoorW.PrintMore
set_option linter.unusedVariables false
set_option linter.unusedSimpArgs false

attribute [local go_sem] max2_int min2_int max_two min_two max_three min_three max_four min_four
/-! ### tinderref02_Value: function 76 -/
mutual
def tinderref02_Value.j0 : Nat → Int → Int → Bool → Option (Int × Bool)
  | 0, _, _, _ => none
  | k + 1, x0, x1, x12 => if x12 = true then (some (0, false)) else (tinderref02_Value.l0 k x0 x1 0)
def tinderref02_Value.l0 : Nat → Int → Int → Int → Option (Int × Bool)
  | 0, _, _, _ => none
  | k + 1, x0, x1, x6 => if x6 < (wrap64 (x1)) then (if 0 ≤ x6 then (if x6 < 36 then ((tinderref02_Small.f x0).bind fun t77001 => (if (bt (⟨#[48, 49, 50, 51, 52, 53, 54, 55, 56, 57, 97, 98, 99, 100, 101, 102, 103, 104, 105, 106, 107, 108, 109, 110, 111, 112, 113, 114, 115, 116, 117, 118, 119, 120, 121, 122]⟩ : ByteArray) x6) = t77001 then (some ((x6) % 4294967296, true)) else (tinderref02_Value.l0 k x0 x1 (wrap64 (x6 + 1))))) else (none)) else (none)) else (some (0, false))
end
def tinderref02_Value.f (k : Nat) (a0 : Int) (a1 : Int) : Option (Int × Bool) := if a1 < 2 then (tinderref02_Value.j0 k a0 a1 true) else (tinderref02_Value.j0 k a0 a1 (decide (a1 > 36)))

end Go.Proofs.YtlhnaplmphdhlaaDoor.Q
end
section
namespace Go.Proofs.YtlhnaplmphdhlaaDoor.Q
open Go.RowKit Go.Proofs.YtlhnaplmphdhlaaDoorW.PrintWords Go.Proofs.YtlhnaplmphdhlaaDoorW.PrintLast Go.Proofs.YtlhnaplmphdhlaaDoorW.PrintMore
set_option linter.unusedVariables false
set_option linter.unusedSimpArgs false

attribute [local go_sem] max2_int min2_int max_two min_two max_three min_three max_four min_four
/-! ### tinderref02_Parse: function 55 -/
mutual
def tinderref02_Parse.j0 : Nat → ByteArray → Int → Bool → Option (Int × Int)
  | 0, _, _, _ => none
  | k + 1, x0, x1, x17 => if x17 = true then (some (0, 1)) else (if (x0.size : Int) > 0 then (if 0 < (x0.size : Int) then (tinderref02_Parse.j1 k x0 x1 ((bt x0 0) == 45)) else (none)) else (tinderref02_Parse.j1 k x0 x1 false))
def tinderref02_Parse.j1 : Nat → ByteArray → Int → Bool → Option (Int × Int)
  | 0, _, _, _ => none
  | k + 1, x0, x1, x6 => if x6 = true then (if 1 ≤ (x0.size : Int) then (tinderref02_Parse.j2 k (x0.extract 1 x0.size) x1 x6) else (none)) else (tinderref02_Parse.j2 k x0 x1 x6)
def tinderref02_Parse.j2 : Nat → ByteArray → Int → Bool → Option (Int × Int)
  | 0, _, _, _ => none
  | k + 1, x0, x1, x6 => if (x0.size : Int) = 0 then (some (0, 15)) else (tinderref02_Parse.l0 k x0 x1 x6 0 false 0)
def tinderref02_Parse.l0 : Nat → ByteArray → Int → Bool → Int → Bool → Int → Option (Int × Int)
  | 0, _, _, _, _, _, _ => none
  | k + 1, x0, x1, x6, x7, x8, x9 => if x9 < (x0.size : Int) then (if 0 ≤ x9 then ((tinderref02_Value.f k (bt x0 x9) x1).bind fun bt56001 => (if bt56001.2 = true then (if x8 = true then (tinderref02_Parse.l0 k x0 x1 x6 x7 x8 (wrap64 (x9 + 1))) else (tinderref02_Parse.l0 k x0 x1 x6 (IntKind.u64.wrap ((IntKind.u64.wrap (x7 * (IntKind.u64.wrap (x1)))) + (IntKind.u64.wrap (bt56001.1)))) (decide ((IntKind.u64.wrap ((IntKind.u64.wrap (x7 * (IntKind.u64.wrap (x1)))) + (IntKind.u64.wrap (bt56001.1)))) ≥ 4294967296)) (wrap64 (x9 + 1)))) else (some (0, 15)))) else (none)) else (if x8 = true then (some (0, 4)) else (if x6 = true then (some ((Int.tmod (IntKind.u64.wrap (4294967296 - x7)) 4294967296) % 4294967296, 0)) else (some ((x7) % 4294967296, 0))))
end
def tinderref02_Parse.f (k : Nat) (a0 : ByteArray) (a1 : Int) : Option (Int × Int) := if a1 < 2 then (tinderref02_Parse.j0 k a0 a1 true) else (tinderref02_Parse.j0 k a0 a1 (decide (a1 > 36)))

end Go.Proofs.YtlhnaplmphdhlaaDoor.Q
end
section
namespace Go.Proofs.YtlhnaplmphdhlaaDoor.Q
open Go.RowKit Go.Proofs.YtlhnaplmphdhlaaDoorW.PrintWords Go.Proofs.YtlhnaplmphdhlaaDoorW.PrintLast
/-- The place of a byte among all digits; 255: none. -/
def numF (c : Int) : Int := if 48 ≤ c ∧ c ≤ 57 then c - 48 else if 97 ≤ c ∧ c ≤ 122 then c - 87 else if 65 ≤ c ∧ c ≤ 90 then c - 55 else 255
def valF (c b : Int) : Int × Bool := if 2 ≤ b ∧ b ≤ 36 ∧ numF c < b then (numF c, true) else (0, false)
theorem numF_range (c : Int) : 0 ≤ numF c ∧ numF c ≤ 255 := by unfold numF; split; omega; split; omega; split <;> omega
theorem fit_eq (b : Int) : digit_fit.f b = some (decide (2 ≤ b ∧ b ≤ 36)) := by
  unfold digit_fit.f
  by_cases h1 : b ≥ 2
  · rw [if_pos h1, Option.some.injEq, decide_eq_decide]
    omega
  · rw [if_neg h1, Option.some.injEq, eq_comm, decide_eq_false_iff_not]
    omega
theorem value_end (b v : Int) : ((digit_fit.f b).bind fun t => (if t = true then (if v ≥ b then some ((0 : Int), false) else some (v, true)) else some (0, false))) = some (if 2 ≤ b ∧ b ≤ 36 ∧ v < b then (v, true) else (0, false)) := by
  rw [fit_eq, Option.bind_some]
  by_cases h : 2 ≤ b ∧ b ≤ 36
  · rw [if_pos (by simpa using h)]
    by_cases h2 : v ≥ b
    · rw [if_pos h2, if_neg (by omega)]
    · rw [if_neg h2, if_pos (by omega)]
  · rw [if_neg (by simpa using h), if_neg (by omega)]
theorem digit_Value_eq (k : Nat) (c b : Int) (hc : 0 ≤ c ∧ c < 256) : digit_Value.f (k + 3) c b = some (valF c b) := by
  have hj2 : ∀ k, digit_Value.j2 (k + 1) c b 255 (decide (65 ≤ c ∧ c ≤ 90)) = some (if 2 ≤ b ∧ b ≤ 36 ∧ (if 65 ≤ c ∧ c ≤ 90 then c - 55 else 255) < b then (if 65 ≤ c ∧ c ≤ 90 then c - 55 else 255, true) else (0, false)) := by
    intro k
    rw [digit_Value.j2]
    by_cases h : 65 ≤ c ∧ c ≤ 90
    · rw [if_pos (by simpa using h), if_pos h, show (c - 65) % 256 + 10 = c - 55 by omega]
      exact value_end b (c - 55)
    · rw [if_neg (by simpa using h), if_neg h]
      exact value_end b 255
  have hj1 : ∀ k, digit_Value.j1 (k + 2) c b 255 (decide (97 ≤ c ∧ c ≤ 122)) = some (if 2 ≤ b ∧ b ≤ 36 ∧ (if 97 ≤ c ∧ c ≤ 122 then c - 87 else if 65 ≤ c ∧ c ≤ 90 then c - 55 else 255) < b then (if 97 ≤ c ∧ c ≤ 122 then c - 87 else if 65 ≤ c ∧ c ≤ 90 then c - 55 else 255, true) else (0, false)) := by
    intro k
    rw [digit_Value.j1]
    by_cases h : 97 ≤ c ∧ c ≤ 122
    · rw [if_pos (by simpa using h), if_pos h, show (c - 97) % 256 + 10 = c - 87 by omega]
      exact value_end b (c - 87)
    · rw [if_neg (by simpa using h), if_neg h]
      by_cases h2 : c ≥ 65
      · rw [if_pos h2, ← hj2 k]
        congr 1
        simp [h2]
      · rw [if_neg h2, ← hj2 k]
        congr 1
        simp
        omega
  unfold digit_Value.f valF numF
  have hj0 : digit_Value.j0 (k + 3) c b 255 (decide (48 ≤ c ∧ c ≤ 57)) = some (if 2 ≤ b ∧ b ≤ 36 ∧ (if 48 ≤ c ∧ c ≤ 57 then c - 48 else if 97 ≤ c ∧ c ≤ 122 then c - 87 else if 65 ≤ c ∧ c ≤ 90 then c - 55 else 255) < b then (if 48 ≤ c ∧ c ≤ 57 then c - 48 else if 97 ≤ c ∧ c ≤ 122 then c - 87 else if 65 ≤ c ∧ c ≤ 90 then c - 55 else 255, true) else (0, false)) := by
    rw [digit_Value.j0]
    by_cases h : 48 ≤ c ∧ c ≤ 57
    · rw [if_pos (by simpa using h), if_pos h, show (c - 48) % 256 = c - 48 by omega]
      exact value_end b (c - 48)
    · rw [if_neg (by simpa using h), if_neg h]
      by_cases h2 : c ≥ 97
      · rw [if_pos h2, ← hj1 k]
        congr 1
        simp [h2]
      · rw [if_neg h2, ← hj1 k]
        congr 1
        simp
        omega
  by_cases h : c ≥ 48
  · rw [if_pos h, ← hj0]
    congr 1
    simp [h]
  · rw [if_neg h, ← hj0]
    congr 1
    simp
    omega
def smallF (c : Int) : Int := if 65 ≤ c ∧ c ≤ 90 then c + 32 else c
def digitsB : ByteArray := ⟨#[48, 49, 50, 51, 52, 53, 54, 55, 56, 57, 97, 98, 99, 100, 101, 102, 103, 104, 105, 106, 107, 108, 109, 110, 111, 112, 113, 114, 115, 116, 117, 118, 119, 120, 121, 122]⟩
theorem digits_all : ((List.range 36).all fun (j : Nat) => bt digitsB (j : Int) == if j < 10 then (j : Int) + 48 else (j : Int) + 87) = true := by kernel_rfl
theorem digits_at (i : Int) (h : 0 ≤ i ∧ i < 36) : bt digitsB i = if i < 10 then i + 48 else i + 87 := by
  have := List.all_eq_true.1 digits_all i.toNat (List.mem_range.2 (by omega))
  rw [beq_iff_eq] at this
  rw [show ((i.toNat : Nat) : Int) = i by omega] at this
  rw [this]
  by_cases h1 : i < 10
  · rw [if_pos h1, if_pos (by omega)]
  · rw [if_neg h1, if_neg (by omega)]
/-- A text's digits as a number; the mark: it is too great; none: a byte is no digit. -/
def parL (b : Int) : List Int → Int → Bool → Option (Int × Bool)
  | [], n, g => some (n, g)
  | c :: l, n, g => if (valF c b).2 = true then (if g = true then parL b l n true else parL b l (n * b + (valF c b).1) (decide (n * b + (valF c b).1 ≥ 4294967296))) else none
def resF (neg : Bool) : Option (Int × Bool) → Int × Int
  | none => (0, 15)
  | some (n, g) => if g = true then (0, 4) else (if neg = true then ((4294967296 - n) % 4294967296, 0) else (n, 0))
theorem parL_nil (b n : Int) (g : Bool) : parL b [] n g = some (n, g) := rfl
theorem parL_cons (b c : Int) (l : List Int) (n : Int) (g : Bool) : parL b (c :: l) n g = if (valF c b).2 = true then (if g = true then parL b l n true else parL b l (n * b + (valF c b).1) (decide (n * b + (valF c b).1 ≥ 4294967296))) else none := rfl
theorem resF_t (neg : Bool) (n : Int) : resF neg (some (n, true)) = (0, 4) := rfl
theorem resF_pos (n : Int) : resF false (some (n, false)) = (n, 0) := rfl
theorem resF_neg (n : Int) : resF true (some (n, false)) = ((4294967296 - n) % 4294967296, 0) := rfl
theorem val_range (c b : Int) : 0 ≤ (valF c b).1 ∧ (valF c b).1 < 36 := by
  have := numF_range c
  unfold valF
  split
  · dsimp only; omega
  · decide
theorem bytes_at (s : ByteArray) (i : Int) (h0 : 0 ≤ i) (h1 : i < s.size) : (bytesOf s).drop i.toNat = bt s i :: (bytesOf s).drop (i + 1).toNat := by
  have hl : i.toNat < (bytesOf s).length := by rw [bytesOf_length]; omega
  rw [List.drop_eq_getElem_cons hl, show (i + 1).toNat = i.toNat + 1 by omega, ← rd_bytesOf]
  simp [rd, List.getD_eq_getElem?_getD, List.getElem?_eq_getElem hl]
theorem wrap_u64_id (n : Int) (h0 : 0 ≤ n) (h1 : n < 18446744073709551616) : IntKind.u64.wrap n = n := by rw [IntKind.wrap_u64]; omega
theorem mulb (n b v : Int) (h0 : 0 ≤ n) (h1 : n ≤ 4294967296) (hb : 2 ≤ b ∧ b ≤ 36) (hv : 0 ≤ v ∧ v < 36) : 0 ≤ n * b ∧ n * b ≤ 154618822656 ∧ IntKind.u64.wrap (IntKind.u64.wrap (n * IntKind.u64.wrap b) + IntKind.u64.wrap v) = n * b + v := by
  have e1 : n * b ≤ 4294967296 * 36 := Int.mul_le_mul h1 hb.2 (by omega) (by omega)
  have e0 : 0 ≤ n * b := Int.mul_nonneg h0 (by omega)
  refine ⟨e0, by omega, ?_⟩
  rw [wrap_u64_id b (by omega) (by omega), wrap_u64_id (n * b) e0 (by omega), wrap_u64_id v (by omega) (by omega), wrap_u64_id _ (by omega) (by omega)]
theorem parse_go (b : Int) (hb : 2 ≤ b ∧ b ≤ 36) (s : ByteArray) (neg : Bool) (hs : s.size ≤ 9223372036854775806) (d : Nat) : ∀ (k : Nat) (i n m e : Int) (g : Bool), 0 ≤ i → i + d = s.size → d + 10 < k → ((g = false ∧ e = 0 ∧ n = m ∧ 0 ≤ n ∧ n < 4294967296) ∨ (g = true ∧ e = 4 ∧ n = 4294967296)) →
    digit_Parse.l0 k b s neg n e (s.size : Int) i = some (resF neg (parL b ((bytesOf s).drop i.toNat) m g)) := by
  induction d with
  | zero =>
    intro k i n m e g h0 h1 hk hst
    obtain ⟨k, rfl⟩ : ∃ k', k = k' + 1 := ⟨k - 1, by omega⟩
    rw [digit_Parse.l0, if_neg (by omega), List.drop_eq_nil_of_le (by rw [bytesOf_length]; omega)]
    rw [parL_nil]
    rcases hst with ⟨rfl, rfl, rfl, h2, h3⟩ | ⟨rfl, rfl, rfl⟩
    · rw [if_pos rfl]
      cases neg
      · rw [if_neg Bool.false_ne_true, resF_pos, Int.emod_eq_of_lt h2 h3]
      · rw [if_pos rfl, resF_neg, IntKind.wrap_u64, Option.some.injEq, Prod.mk.injEq]
        exact ⟨by omega, rfl⟩
    · rw [if_neg (by decide), resF_t]
  | succ d ih =>
    intro k i n m e g h0 h1 hk hst
    obtain ⟨k, rfl⟩ : ∃ k', k = k' + 1 := ⟨k - 1, by omega⟩
    obtain ⟨k3, hk3⟩ : ∃ k', k = k' + 3 := ⟨k - 3, by omega⟩
    have hv := val_range (bt s i) b
    have hbt := bt_range s i
    rw [digit_Parse.l0, if_pos (by omega), if_pos h0, if_pos (by omega), hk3, digit_Value_eq k3 _ b ⟨hbt.1, by omega⟩, ← hk3, Option.bind_some, bytes_at s i h0 (by omega), show wrap64 (i + 1) = i + 1 by unfold wrap64; omega]
    rw [parL_cons]
    obtain ⟨v, hve⟩ : ∃ v, v = (valF (bt s i) b).1 := ⟨_, rfl⟩
    rw [← hve] at hv ⊢
    cases hd : (valF (bt s i) b).2
    · rw [if_neg Bool.false_ne_true, if_neg Bool.false_ne_true]
      rfl
    · rw [if_pos rfl, if_pos rfl]
      rcases hst with ⟨rfl, rfl, rfl, h2, h3⟩ | ⟨rfl, rfl, rfl⟩
      · obtain ⟨m0, m1, m2⟩ := mulb n b v h2 (by omega) hb hv
        rw [m2, if_neg Bool.false_ne_true]
        by_cases hg : n * b + v > 4294967295
        · rw [if_pos hg, decide_eq_true (show n * b + v ≥ 4294967296 by omega)]
          exact ih k (i + 1) _ _ _ _ (by omega) (by omega) (by omega) (.inr ⟨rfl, rfl, rfl⟩)
        · rw [if_neg hg, decide_eq_false (show ¬ n * b + v ≥ 4294967296 by omega)]
          exact ih k (i + 1) _ _ _ _ (by omega) (by omega) (by omega) (.inl ⟨rfl, rfl, rfl, by omega, by omega⟩)
      · obtain ⟨m0, m1, m2⟩ := mulb 4294967296 b v (by omega) (by omega) hb hv
        rw [m2, if_pos (by omega), if_pos rfl]
        exact ih k (i + 1) _ _ _ _ (by omega) (by omega) (by omega) (.inr ⟨rfl, rfl, rfl⟩)
/-- A text as a number in a base. -/
def parF (s : ByteArray) (b : Int) : Int × Int :=
  if 2 ≤ b ∧ b ≤ 36 then
    (if 0 < s.size ∧ bt s 0 = 45 then (if s.size = 1 then (0, 15) else resF true (parL b (bytesOf (s.extract 1 s.size)) 0 false))
     else (if s.size = 0 then (0, 15) else resF false (parL b (bytesOf s) 0 false)))
  else (0, 1)
theorem extract_size (s : ByteArray) : (s.extract 1 s.size).size = s.size - 1 := by rw [ByteArray.size_extract]; omega
theorem minus_iff (s : ByteArray) (h : 1 ≤ s.size) : ((s.extract 0 1).toList == (⟨#[45]⟩ : ByteArray).toList) = decide (bt s 0 = 45) := by
  rw [ByteArray.toList_eq, ByteArray.toList_eq, Go.Lib.extract_data, List.drop_zero]
  have hl : 0 < s.data.toList.length := by rw [data_length]; omega
  have hb : bt s 0 = ((s.data.toList[0]'hl).toNat : Int) := by
    rw [← rd_bytesOf]
    simp [rd, bytesOf, List.getD_eq_getElem?_getD, List.getElem?_eq_getElem hl]
  rw [hb]
  match hx : s.data.toList, hl with
  | a :: t, _ =>
    show ([a] == [45]) = decide ((a.toNat : Int) = 45)
    rw [Bool.eq_iff_iff, beq_iff_eq, decide_eq_true_iff, List.cons.injEq, and_iff_left rfl]
    constructor
    · intro h; rw [h]; rfl
    · intro h
      refine UInt8.toNat_inj.1 ?_
      show a.toNat = 45
      omega
theorem cutprefix_eq (s : ByteArray) : strings_CutPrefix.f s (⟨#[45]⟩ : ByteArray) = some (if 0 < s.size ∧ bt s 0 = 45 then (s.extract 1 s.size, true) else (s, false)) := by
  unfold strings_CutPrefix.f stringslite_CutPrefix.f stringslite_HasPrefix.f
  have h1 : (((⟨#[45]⟩ : ByteArray).size : Nat) : Int) = 1 := rfl
  rw [h1]
  by_cases hs : 1 ≤ s.size
  · rw [if_pos (by omega), if_pos (by omega), if_pos (by omega), Option.bind_some, show ((1 : Int)).toNat = 1 from rfl, minus_iff s hs]
    by_cases hb : bt s 0 = 45
    · rw [if_pos (by simpa using hb), if_pos (by omega), if_pos (by omega), Option.bind_some, if_pos ⟨by omega, hb⟩]
    · rw [if_neg (by simpa using hb), Option.bind_some, if_neg (fun h => hb h.2)]
  · rw [if_neg (by omega), Option.bind_some, if_neg (by decide), Option.bind_some, if_neg (by omega)]
theorem empty_iff (s : ByteArray) : s.toList = ([] : List UInt8) ↔ s.size = 0 := by
  rw [ByteArray.toList_eq, ← List.length_eq_zero_iff, data_length]
theorem parse_eq (k : Nat) (s : ByteArray) (b : Int) (hs : s.size ≤ 9223372036854775806) (hk : s.size + 20 < k) : digit_Parse.f k s b = some (parF s b) := by
  unfold digit_Parse.f parF
  rw [fit_eq, Option.bind_some]
  by_cases hb : 2 ≤ b ∧ b ≤ 36
  · rw [if_pos (by simpa using hb), if_pos hb, cutprefix_eq, Option.bind_some]
    by_cases hm : 0 < s.size ∧ bt s 0 = 45
    · have hx := extract_size s
      rw [if_pos hm, if_pos hm]
      dsimp only
      by_cases h1 : s.size = 1
      · rw [if_pos ((empty_iff _).2 (by omega)), if_pos h1]
      · rw [if_neg (fun h => h1 (by have := (empty_iff _).1 h; omega)), if_neg h1]
        exact parse_go b hb _ true (by omega) _ k 0 0 0 0 false (by omega) (by simp; rfl) (by omega) (.inl ⟨rfl, rfl, rfl, by omega, by omega⟩)
    · rw [if_neg hm, if_neg hm]
      dsimp only
      by_cases h1 : s.size = 0
      · rw [if_pos ((empty_iff _).2 h1), if_pos h1]
      · rw [if_neg (fun h => h1 ((empty_iff _).1 h)), if_neg h1]
        exact parse_go b hb _ false (by omega) _ k 0 0 0 0 false (by omega) (by simp; rfl) (by omega) (.inl ⟨rfl, rfl, rfl, by omega, by omega⟩)
  · rw [if_neg (by simpa using hb), if_neg hb]
end Go.Proofs.YtlhnaplmphdhlaaDoor.Q
end
section
set_option linter.unusedSimpArgs false
set_option linter.unusedVariables false
namespace Go.Proofs.YtlhnaplmphdhlaaDoor.Q
open Go.RowKit Go.Shelf Go.Proofs.YtlhnaplmphdhlaaDoorW.PrintWords Go.Proofs.YtlhnaplmphdhlaaDoorW.PrintLast
attribute [local go_sem] Oper.semAt_some
def bOf (p : List UInt8) : ByteArray := ⟨p.toArray⟩
theorem bOf_size (p : List UInt8) : (bOf p).size = p.length := by
  show p.toArray.size = _
  simp
def pcAt (L : List (List UInt8)) (k : Nat) : ByteArray := bOf (L.getD k [])
def okU (p : List UInt8) : Bool := decide ((parF (bOf p) 16).2 = 0) && !decide (bt (bOf p) 0 = 45) && decide (p.length ≤ 8)
def valU (p : List UInt8) : Int := (parF (bOf p) 16).1
def unitF (s : ByteArray) : List Int × Int := if (cuts 44 s.data.toList).all okU = true then (if 4 < (cuts 44 s.data.toList).length then ([], 3) else ((cuts 44 s.data.toList).map valU, 0)) else ([], 15)
theorem cuts_len (c : UInt8) : ∀ l : List UInt8, (cuts c l).length ≤ l.length + 1
  | [] => by simp [cuts]
  | a :: l => by
    have h := cuts_len c l
    rw [cuts]
    split
    · simp; omega
    · split
      · rename_i h2; rw [h2] at h; simp at h ⊢; omega
      · simp
theorem cuts_size (c : UInt8) : ∀ (l : List UInt8), ∀ p ∈ cuts c l, p.length ≤ l.length
  | [] => by simp [cuts]
  | a :: l => by
    have h := cuts_size c l
    rw [cuts]
    intro p hp
    split at hp
    · rcases List.mem_cons.1 hp with rfl | hp
      · simp
      · have := h p hp; simp; omega
    · split at hp
      · rename_i q qs h2
        rw [h2] at h
        rcases List.mem_cons.1 hp with rfl | hp
        · have := h q (by simp); simp; omega
        · have := h p (by simp [hp]); simp; omega
      · simp at hp; subst hp; simp
theorem info24i : (Tryd.prog.info? 24).map (fun i => (i.zero, i.size, i.bytes)) = some (some (.int .u32 0), 1, 4) := by kernel_rfl
theorem bt_idx (s : ByteArray) (h : 0 < s.size) : ((s[0]'h).toNat : Int) = bt s 0 := by
  unfold bt
  rw [dif_pos (by simpa using h)]
  rfl
theorem parF_pos {s : ByteArray} (h : (parF s 16).2 = 0) : 0 < s.size := by
  rcases Nat.eq_zero_or_pos s.size with h0 | h0
  · exfalso
    have e : s = ⟨#[]⟩ := by
      apply ByteArray.ext
      apply Array.ext'
      exact List.eq_nil_of_length_eq_zero (by rw [Array.length_toList]; exact h0)
    rw [e] at h
    exact absurd h (by decide)
  · exact h0
set_option maxHeartbeats 1000000 in
theorem splitSeq1_in (n : Nat) (s : ByteArray) (c : UInt8) (W : World) :
    CallsIn Fence.wide n Tryd.prog 73 #[.string s, .string ⟨#[c]⟩, .int .i64 0] W fun e w' => e = .returned (.func (.func 92) #[] #[.pointer (some ⟨W.heap.size + 1, 0, none⟩), .pointer (some ⟨W.heap.size, 0, none⟩), .pointer (some ⟨W.heap.size + 1 + 1, 0, none⟩)]) ∧ w' = ((W.alloc (.cells #[.string s] 9)).alloc (.cells #[.string ⟨#[c]⟩] 9)).alloc (.cells #[.int .i64 0] 3) := by
  refine callsIn_of_wp Tryd.func73 rfl trivial ?_ rfl
  simp only [Tryd.ntmps73, List.size_toArray, List.length_cons, List.length_nil, Nat.reduceAdd, Nat.reduceSub, Array.replicate_succ, Array.replicate_zero, List.push_toArray, List.append_toArray, List.nil_append, List.cons_append]
  gi_wp2
  go_ret
  exact ⟨by simp, rfl⟩
set_option maxHeartbeats 1000000 in
theorem splitSeq_in (s : ByteArray) (c : UInt8) (w : World) :
    CallsIn Fence.wide 4 Tryd.prog 53 #[.string s, .string ⟨#[c]⟩] w fun e w' => e = .returned (.func (.func 92) #[] #[.pointer (some ⟨w.heap.size + 1, 0, none⟩), .pointer (some ⟨w.heap.size, 0, none⟩), .pointer (some ⟨w.heap.size + 1 + 1, 0, none⟩)]) ∧ w' = ((w.alloc (.cells #[.string s] 9)).alloc (.cells #[.string ⟨#[c]⟩] 9)).alloc (.cells #[.int .i64 0] 3) := by
  refine callsIn_of_wp Tryd.func53 rfl trivial ?_ rfl
  simp only [Tryd.ntmps53, List.size_toArray, List.length_cons, List.length_nil, Nat.reduceAdd, Nat.reduceSub, Array.replicate_succ, Array.replicate_zero, List.push_toArray, List.append_toArray, List.nil_append, List.cons_append]
  gi_wp2_with (refine ⟨trivial, ?_⟩; gi_at_call 73; refine (splitSeq1_in _ _ _ _).mono ?_; rintro e w' ⟨rfl, rfl⟩)
  go_ret
  exact ⟨rfl, rfl⟩
/-- What stands between two rounds: the numbers so far, the two results, the iterator's cells. -/
def UnitI (w : World) (L : List (List UInt8)) (k : Nat) (W : World) : Prop :=
  ((∃ v, Boxed W (w.heap.size + 1 + 1) 36 v ∧ W.ownsRow w.heap.size 24 1 v k (((L.map valU).take k).map (Value.int .u32)) ∧ ∀ p ∈ L.take k, okU p = true) ∧ (Boxed W w.heap.size 36 (.slice none 0 0) ∧ Boxed W (w.heap.size + 1) 26 (.int .i64 0))) ∧
    ((∃ t, Boxed W (w.heap.size + 1 + 1 + 1) 9 t) ∧ (∃ t, Boxed W (w.heap.size + 1 + 1 + 1 + 1) 9 t) ∧ (∃ t, Boxed W (w.heap.size + 1 + 1 + 1 + 1 + 1) 3 t)) ∧ Below w.heap.size w W
def UnitX (w : World) (L : List (List UInt8)) (c : Code) (k : Nat) (W : World) : Prop := (c = .ret ∧ ¬ ∀ p ∈ L, okU p = true) ∧ Boxed W w.heap.size 36 (.slice none 0 0) ∧ Boxed W (w.heap.size + 1) 26 (.int .i64 15) ∧ Below w.heap.size w W
theorem someBoxed_own {β : Type} (B : Nat) (t : TypeId) : Own (fun (_ : β) W => ∃ v, Boxed W B t v) := fun s X Y row ⟨v, hv⟩ hg hrow => ⟨v, boxed_own (β := β) B t (fun _ => v) s X Y row hv hg hrow⟩
theorem unitI_own (w : World) (L : List (List UInt8)) (B : Nat) (hB : w.heap.size ≤ B) : OwnFrom B (UnitI w L) :=
  OwnFrom.and (OwnFrom.and (Own.from (holdsRow_own w.heap.size (w.heap.size + 1 + 1) 36 24 1 (fun k => k) (fun k => ((L.map valU).take k).map (Value.int .u32)) (fun k _ => ∀ p ∈ L.take k, okU p = true)) _) (OwnFrom.and (Own.from (boxed_own _ _ _) _) (Own.from (boxed_own _ _ _) _)))
    (OwnFrom.and (OwnFrom.and (Own.from (someBoxed_own _ _) _) (OwnFrom.and (Own.from (someBoxed_own _ _) _) (Own.from (someBoxed_own _ _) _))) (ownFrom_below (Nat.le_refl _) hB))
theorem unitX_own (w : World) (L : List (List UInt8)) (c : Code) (B : Nat) (hB : w.heap.size ≤ B) : OwnFrom B (UnitX w L c) :=
  OwnFrom.and (fun _ _ _ _ h _ _ => h) (OwnFrom.and (Own.from (boxed_own _ _ _) _) (OwnFrom.and (Own.from (boxed_own _ _ _) _) (ownFrom_below (Nat.le_refl _) hB)))
theorem unitI_abs (w : World) (L : List (List UInt8)) (k : Nat) (A B : World) (h : UnitI w L k A) (hab : AbS (w.heap.size + 1 + 1 + 1) A B) : UnitI w L k B := by
  obtain ⟨u, rfl⟩ := hab
  obtain ⟨⟨⟨v, hv, hrow, hok⟩, h1, h2⟩, ⟨⟨t3, h3⟩, ⟨t4, h4⟩, t5, h5⟩, hb⟩ := h
  refine ⟨⟨⟨v, hv.other (by omega) u, hrow.kept (grownBy_setCell' A _ u) (.inr (h3.not_row (by decide) hrow).symm), hok⟩, h1.other (by omega) u, h2.other (by omega) u⟩, ⟨⟨u, h3.set u⟩, ⟨t4, h4.other (by omega) u⟩, t5, h5.other (by omega) u⟩, below_set hb (by omega)⟩
theorem unitX_abs (w : World) (L : List (List UInt8)) (c : Code) (k : Nat) (A B : World) (h : UnitX w L c k A) (hab : AbS (w.heap.size + 1 + 1 + 1) A B) : UnitX w L c k B := by
  obtain ⟨u, rfl⟩ := hab
  exact ⟨h.1, h.2.1.other (by omega) u, h.2.2.1.other (by omega) u, below_set h.2.2.2 (by omega)⟩
theorem unit_out (w : World) (L : List (List UInt8)) (Kp : World → World → Prop) (k nn : Nat) (W : World) (a : Act) (h1 : Boxed W w.heap.size 36 (.slice none 0 0)) (h2 : Boxed W (w.heap.size + 1) 26 (.int .i64 0)) (hB : Below w.heap.size w W) (hX : ¬ ∀ p ∈ L, okU p = true) :
    RoundPost Kp (UnitI w L) (UnitX w L) k W .ret a (((W.drewN nn).setCell ⟨w.heap.size, 0, none⟩ (.slice none 0 0)).setCell ⟨w.heap.size + 1, 0, none⟩ (.int .i64 15)) := by
  have k1 : KeepsOthers W (W.drewN nn) := ⟨Nat.le_refl _, fun _ _ h _ => h⟩
  have g1 : Boxed (W.drewN nn) w.heap.size 36 (.slice none 0 0) := h1
  have g2 : Boxed (W.drewN nn) (w.heap.size + 1) 26 (.int .i64 0) := h2
  exact ⟨(k1.trans (KeepsOthers.setCell _ _ _)).trans (KeepsOthers.setCell _ _ _), ⟨rfl, hX⟩, (g1.set _).other (by omega) _, ((g2.other (by omega) _).set _), below_set (below_set (pw_below_drewN hB nn) (Nat.le_refl _)) (by omega)⟩
set_option maxRecDepth 100000 in
theorem unit_end (w X : World) (D : Nat) (hD : w.heap.size + 1 < D) (tmps : Array Value) (v : Value) (e0 : Int) (r : List Int) (ht2 : tmps.getD 2 undef = .pointer (some ⟨w.heap.size, 0, none⟩)) (ht3 : tmps.getD 3 undef = .pointer (some ⟨w.heap.size + 1, 0, none⟩))
    (hK : X.heap[D]? = some (.deferred (some []))) (g1 : Boxed X w.heap.size 36 v) (g2 : Boxed X (w.heap.size + 1) 26 (.int .i64 e0)) (hrow : X.ownsRow w.heap.size 24 1 v r.length (r.map (Value.int .u32))) (hB : Below w.heap.size w X) :
    bodyPostM Fence.wide 5 Tryd.prog Tryd.f35 (fun e W' => ∃ v, e = .returned (.tuple #[v, .int .i64 e0]) ∧ Kd.R (Kd.int .u32) 24 W' w.heap.size (fun _ => True) v r ∧ Below w.heap.size w W') Exit.ret { tmps := tmps, defers := [{ target := .collected D, args := #[] }] } X := by
  refine ⟨by simp, .inl ⟨_, _, rfl, run_takeDeferred hK, ?_⟩⟩
  have k1 : Boxed (X.putObj D (.deferred none)) w.heap.size 36 v := (World.putObj_heap_other (by omega)).trans g1
  have k2 : Boxed (X.putObj D (.deferred none)) (w.heap.size + 1) 26 (.int .i64 e0) := (World.putObj_heap_other (by omega)).trans g2
  have c1 := k1.cell
  have c2 := k2.cell
  have hrow2 := ownsRow_putObj hrow (.deferred none) hK rfl
  refine ⟨_, ?_, v, rfl, Kd.R_of_own (xs := r) hrow2 (fun _ _ => trivial), hB.trans (belowK_b (w := w) (Nat.le_refl _) X D _ _ (by omega) hK rfl rfl)⟩
  have hRR : Kd.R (Kd.int .u32) 24 (X.putObj D (.deferred none)) w.heap.size (fun _ => True) v r := Kd.R_of_own (xs := r) hrow2 (fun _ _ => trivial)
  obtain ⟨A, c, hv⟩ := Kd.R_slice hRR
  subst hv
  rw [Array.getD_eq_getD_getElem?] at ht2 ht3
  simp [results, Tryd.results35, go_sem, ht2, ht3, c1, c2]
set_option maxRecDepth 100000 in
set_option maxHeartbeats 4000000 in
theorem unit_calls (s : ByteArray) (w : World) (hs : s.size ≤ 100000000) :
    Calls Tryd.prog 35 #[.string s] w fun e W' => ∃ v, e = .returned (.tuple #[v, .int .i64 (unitF s).2]) ∧ Kd.R (Kd.int .u32) 24 W' w.heap.size (fun _ => True) v (unitF s).1 ∧ Below w.heap.size w W' := by
  refine (callsIn_wide (n := 5)).1 ?_
  obtain ⟨i0, hi, hz0, hz1, hz2⟩ := info_parts info24i
  obtain ⟨L, hL⟩ : ∃ L, L = cuts 44 s.data.toList := ⟨_, rfl⟩
  have HLl := Aside0.mk (show L.length ≤ 100000001 by
    have := cuts_len 44 s.data.toList
    rw [hL]
    have e : s.data.toList.length = s.size := Array.length_toList
    omega)
  have HLs := Aside0.mk (show ∀ p ∈ L, p.length ≤ 100000000 by
    intro p hp
    have := cuts_size 44 s.data.toList p (hL ▸ hp)
    have e : s.data.toList.length = s.size := Array.length_toList
    omega)
  have HSq := Aside0.mk (show ∀ W0 : World, W0.heap[w.heap.size + 1 + 1 + 1]? = some (.cells #[.string s] 9 (0, 0)) → W0.heap[w.heap.size + 1 + 1 + 1 + 1]? = some (.cells #[.string ⟨#[44]⟩] 9 (0, 0)) → W0.heap[w.heap.size + 1 + 1 + 1 + 1 + 1]? = some (.cells #[.int .i64 0] 3 (0, 0)) →
      SeqL 4 Tryd.prog 92 #[.pointer (some ⟨w.heap.size + 1 + 1 + 1 + 1, 0, none⟩), .pointer (some ⟨w.heap.size + 1 + 1 + 1, 0, none⟩), .pointer (some ⟨w.heap.size + 1 + 1 + 1 + 1 + 1, 0, none⟩)] (AbS (w.heap.size + 1 + 1 + 1)) (KpS (w.heap.size + 1 + 1 + 1) (w.heap.size + 1 + 1 + 1 + 1) (w.heap.size + 1 + 1 + 1 + 1 + 1)) (L.map pieceV) W0 from fun W0 h1 h2 h3 => by
    rw [hL]
    exact split_seq 44 4 (by decide) _ _ _ (by omega) (by omega) s (by omega) W0 h1 h2 h3)
  obtain ⟨R, hR⟩ : ∃ R, R = unitF s := ⟨_, rfl⟩
  rw [← hR]
  have HR := Aside0.mk (show R = if L.all okU = true then (if 4 < L.length then ([], 3) else (L.map valU, 0)) else ([], 15) by rw [hR, hL]; rfl)
  clear hR hL hs
  refine callsIn_of_wp_marks Tryd.func35 rfl trivial ?_ rfl
  simp only [Tryd.ntmps35, List.size_toArray, List.length_cons, List.length_nil, Nat.reduceAdd, Nat.reduceSub, Array.replicate_succ, Array.replicate_zero, List.push_toArray, List.append_toArray, List.nil_append, List.cons_append]
  gi_wp2_with (refine ⟨trivial, ?_⟩; gi_at_call 53; refine (splitSeq_in _ _ _).mono ?_; rintro e w' ⟨rfl, rfl⟩)
  obtain ⟨W0, hW0⟩ : ∃ W0, W0 = (((((w.alloc (.cells #[.slice none 0 0] 36)).alloc (.cells #[.int .i64 0] 26)).alloc (.cells #[.slice none 0 0] 36)).alloc (.cells #[.string s] 9)).alloc (.cells #[.string ⟨#[44]⟩] 9)).alloc (.cells #[.int .i64 0] 3) := ⟨_, rfl⟩
  have b0 : Boxed W0 w.heap.size 36 (.slice none 0 0) := by rw [hW0]; exact (((((Boxed.new w 36 (.slice none 0 0)).alloc _).alloc _).alloc _).alloc _).alloc _
  have b1 : Boxed W0 (w.heap.size + 1) 26 (.int .i64 0) := by
    rw [hW0]
    have h := Boxed.new (w.alloc (.cells #[.slice none 0 0] 36)) 26 (.int .i64 0)
    rw [World.size_alloc] at h
    exact (((h.alloc _).alloc _).alloc _).alloc _
  have b2 : Boxed W0 (w.heap.size + 1 + 1) 36 (.slice none 0 0) := by
    rw [hW0]
    have h := Boxed.new ((w.alloc (.cells #[.slice none 0 0] 36)).alloc (.cells #[.int .i64 0] 26)) 36 (.slice none 0 0)
    rw [World.size_alloc, World.size_alloc] at h
    exact ((h.alloc _).alloc _).alloc _
  have b3 : Boxed W0 (w.heap.size + 1 + 1 + 1) 9 (.string s) := by
    rw [hW0]
    have h := Boxed.new (((w.alloc (.cells #[.slice none 0 0] 36)).alloc (.cells #[.int .i64 0] 26)).alloc (.cells #[.slice none 0 0] 36)) 9 (.string s)
    rw [World.size_alloc, World.size_alloc, World.size_alloc] at h
    exact (h.alloc _).alloc _
  have b4 : Boxed W0 (w.heap.size + 1 + 1 + 1 + 1) 9 (.string ⟨#[44]⟩) := by
    rw [hW0]
    have h := Boxed.new ((((w.alloc (.cells #[.slice none 0 0] 36)).alloc (.cells #[.int .i64 0] 26)).alloc (.cells #[.slice none 0 0] 36)).alloc (.cells #[.string s] 9)) 9 (.string ⟨#[44]⟩)
    rw [World.size_alloc, World.size_alloc, World.size_alloc, World.size_alloc] at h
    exact h.alloc _
  have b5 : Boxed W0 (w.heap.size + 1 + 1 + 1 + 1 + 1) 3 (.int .i64 0) := by
    rw [hW0]
    have h := Boxed.new (((((w.alloc (.cells #[.slice none 0 0] 36)).alloc (.cells #[.int .i64 0] 26)).alloc (.cells #[.slice none 0 0] 36)).alloc (.cells #[.string s] 9)).alloc (.cells #[.string ⟨#[44]⟩] 9)) 3 (.int .i64 0)
    rw [World.size_alloc, World.size_alloc, World.size_alloc, World.size_alloc, World.size_alloc] at h
    exact h
  have hB0 : Below w.heap.size w W0 := by rw [hW0]; exact below_alloc (below_alloc (below_alloc (below_alloc (below_alloc (below_alloc (Below.refl _ _) _) _) _) _) _) _
  have hs0 : W0.heap.size = w.heap.size + 6 := by rw [hW0]; simp
  rw [← hW0]
  clear hW0
  refine wp_rangeL (by omega) (gf := 92) (lb := #[.pointer (some ⟨w.heap.size + 1 + 1 + 1 + 1, 0, none⟩), .pointer (some ⟨w.heap.size + 1 + 1 + 1, 0, none⟩), .pointer (some ⟨w.heap.size + 1 + 1 + 1 + 1 + 1, 0, none⟩)]) rfl (enters_of Tryd.func92 (by kernel_rfl) rfl)
    (HSq.out W0 b3 b4 b5) ?hAb (fun h k => h.trans k) (fun W i o o' hi ho _ _ => ⟨by simp, fun j hj hlt => World.putObj_heap_other (by rcases hj with rfl | rfl | rfl <;> omega)⟩) ?hps
    (UnitI w L) (UnitX w L) (unitI_own w L _ (by omega)) (fun c => unitX_own w L c _ (by omega)) (unitI_abs w L) (unitX_abs w L)
    ⟨⟨⟨_, b2, World.ownsRow_nil _ _ _ _, by simp⟩, b0, b1⟩, ⟨⟨_, b3⟩, ⟨_, b4⟩, _, b5⟩, hB0⟩
    (fun k => { tmps := #[.string s, undef, .pointer (some ⟨w.heap.size, 0, none⟩), .pointer (some ⟨w.heap.size + 1, 0, none⟩), .pointer (some ⟨w.heap.size + 1 + 1, 0, none⟩), .string (pcAt L k), undef, undef, .string s, .func (.func 92) #[] #[.pointer (some ⟨w.heap.size + 1 + 1 + 1 + 1, 0, none⟩), .pointer (some ⟨w.heap.size + 1 + 1 + 1, 0, none⟩), .pointer (some ⟨w.heap.size + 1 + 1 + 1 + 1 + 1, 0, none⟩)], .string (pcAt L k), undef, undef, undef, undef, undef, undef, undef, undef, undef, undef, undef, undef, undef, undef, undef, undef, undef, undef, undef, undef, undef, undef, undef, undef, undef], defers := [] }) ?assign ?body ?done ?stop
  case hAb =>
    rintro A B i o ⟨u, rfl⟩ ho hoc
    obtain ⟨b, hb⟩ : ∃ b : World, b = A.setCell ⟨w.heap.size + 1 + 1 + 1, 0, none⟩ u := ⟨_, rfl⟩
    rw [← hb]
    have := (KeepsOthers.setCell A ⟨w.heap.size + 1 + 1 + 1, 0, none⟩ u).same i o ho hoc
    rw [← hb] at this
    exact this
  case hps =>
    intro x hx
    obtain ⟨p, _, rfl⟩ := List.mem_map.1 hx
    rfl
  case assign =>
    intro l' k hk W K hK
    have hk' : k < L.length := by simpa using hk
    have e : (L.map pieceV)[k] = #[.string (pcAt L k)] := by
      rw [List.getElem_map, pcAt, List.getD_eq_getElem?_getD, List.getElem?_eq_getElem hk']
      rfl
    rw [e]
    gi_wp2
    exact hK
  case body =>
    rintro l' k W hk0 ⟨⟨⟨v, hv, hrow, hok⟩, h1, h2⟩, ⟨⟨t3, h3⟩, ⟨t4, h4⟩, t5, h5⟩, hB⟩
    have hk : k < L.length := by simpa using hk0
    obtain ⟨q, hq⟩ : ∃ q, q = pcAt L k := ⟨_, rfl⟩
    rw [← hq]
    have hqs : q.size ≤ 100000000 := by
      rw [hq, pcAt, bOf_size, List.getD_eq_getElem?_getD, List.getElem?_eq_getElem hk]
      exact HLs.out _ (List.getElem_mem hk)
    have hqL : L[k] = L.getD k [] := by rw [List.getD_eq_getElem?_getD, List.getElem?_eq_getElem hk]; rfl
    have hqe : bOf L[k] = q := by rw [hq, pcAt, hqL]
    obtain ⟨x, hx⟩ : ∃ x, x = (parF q 16).1 := ⟨_, rfl⟩
    obtain ⟨e0, he0⟩ : ∃ e0, e0 = (parF q 16).2 := ⟨_, rfl⟩
    have HP := Aside0.mk (show ∀ X : World, Calls Tryd.prog 54 #[.string q, .int .u32 16] X (fun e w' => e = .returned (.tuple #[.int .u32 x, .int .i64 e0]) ∧ Drawn0 X w') from fun X =>
      digit_Parse.calls 100000050 q 16 x e0 X (by rw [parse_eq _ _ _ (by omega) (by omega), hx, he0]))
    have hne : ¬ okU L[k] = true → ¬ ∀ p ∈ L, okU p = true := fun h h2 => h (h2 _ (List.getElem_mem hk))
    have hokk : okU L[k] = (decide (e0 = 0) && !decide (bt q 0 = 45) && decide (q.size ≤ 8)) := by
      unfold okU
      rw [hqe, ← he0, ← hqe, bOf_size]
    by_cases hz : e0 = 0
    · have hpos : 0 < q.size := parF_pos (by rw [← he0, hz])
      have p1 : (0 < (q.size : Int)) = True := eq_true (by omega)
      have hbt := bt_idx q hpos
      subst hz
      by_cases h45 : bt q 0 = 45
      · have hX := hne (by rw [hokk, h45]; simp)
        have d2 : (((q[0]'hpos).toNat : Int) == 45) = true := by rw [hbt, h45]; rfl
        have HX := Aside0.mk hX
        clear hx he0 hokk hne hqe hqL hqs hq hk hs0 hok hX hbt
        have hc1 := h1.cell
        have hf1 := h1.frozen
        have hc2 := h2.cell
        have hf2 := h2.frozen
        gi_wp2_with (refine ⟨trivial, ?_⟩; gi_at_call 54; refine (CallsIn.inRound l' (callsIn_wide.2 (HP.out _))).mono ?_; rintro e w' ⟨rfl, hd⟩; obtain ⟨⟨nn, rfl⟩⟩ := hd)
        exact unit_out w L _ _ nn W _ h1 h2 hB HX.out
      · have d2 : (((q[0]'hpos).toNat : Int) == 45) = false := by rw [hbt]; exact beq_false_of_ne h45
        by_cases h8 : q.size ≤ 8
        · have d3 : decide ((8 : Int) < (q.size : Int)) = false := decide_eq_false (by omega)
          have hokt : okU L[k] = true := by rw [hokk]; simp [h45, h8]
          have HTk := Aside0.mk (show (L.map valU).take (k + 1) = (L.map valU).take k ++ [x] by
            rw [List.take_succ_eq_append_getElem (by rw [List.length_map]; exact hk), List.getElem_map]
            congr 2
            unfold valU
            rw [hqe, hx])
          have HOk := Aside0.mk (show ∀ p ∈ L.take (k + 1), okU p = true by
            intro p hp
            rw [List.take_succ_eq_append_getElem hk] at hp
            rcases List.mem_append.1 hp with hp | hp
            · exact hok p hp
            · rw [List.mem_singleton.1 hp]; exact hokt)
          have HK := Aside0.mk (show k ≤ 100000001 from Nat.le_trans (Nat.le_of_lt hk) HLl.out)
          have HTl := Aside0.mk (show (((L.map valU).take k).map (Value.int .u32)).length = k by rw [List.length_map, List.length_take, List.length_map]; omega)
          clear hx he0 hokk hne hqe hqL hqs hq hk hs0 hok hbt h45 h8 hokt
          gi_wp2_with (first
            | (refine ⟨trivial, ?_⟩; gi_at_call 54; refine (CallsIn.inRound l' (callsIn_wide.2 (HP.out _))).mono ?_; rintro e w' ⟨rfl, hd⟩; obtain ⟨⟨nn, rfl⟩⟩ := hd; have hvX : Boxed (W.drewN nn) (w.heap.size + 1 + 1) 36 v := hv; have hrowX : (W.drewN nn).ownsRow w.heap.size 24 1 v k (((L.map valU).take k).map (Value.int .u32)) := hrow; have hBX : Below w.heap.size w (W.drewN nn) := pw_below_drewN hB nn; obtain ⟨X, hX⟩ : ∃ X, X = W.drewN nn := ⟨_, rfl⟩; have HXW := Aside0.mk hX; rw [← hX] at hvX hrowX hBX ⊢; clear hX; have hcX := hvX.cell; clear hv hrow hB)
            | (gi_at_builtin; refine wpListIn_append_own _ rfl _ _ 36 rfl w.heap.size 24 i0 (.int .u32 0) 1 4 Tryd.underlying36 hi hz0 hz1 hz2 rfl (by decide) _ _ _ rfl (hrowX.alloc _) ⟨X.heap.size, 0, none⟩ 1 1 [.int .u32 x] rfl rfl (cell_one_new _ _ _) (by simp [Value.oneCell']) (by have := HK.out; unfold maxLen; omega) (by have := HK.out; omega) (by have := hBX.size; simp; omega) ?_; intro v' w1 hown' hgrow _; obtain ⟨g', cap', rfl⟩ := ownsRow_succ hown'; obtain ⟨hv1, hv2, hr2, hk2, hb2⟩ := hvX.appended (by decide) hrowX hBX.size (by omega) hown' hgrow; have hc1 := hv1.cell; have hf1 := hv1.frozen))
          have hXW := HXW.out
          subst hXW
          have k1 : KeepsOthers W (W.drewN nn) := ⟨Nat.le_refl _, fun _ _ h _ => h⟩
          have hkk := k1.trans hk2
          have hBk := hBX.trans hb2
          have box : ∀ {B : Nat} {t : TypeId} {u : Value}, Boxed W B t u → 24 ≠ t → w.heap.size + 1 + 1 ≠ B → Boxed (w1.setCell ⟨w.heap.size + 1 + 1, 0, none⟩ (.slice (some ⟨g', 0, none⟩) (k + 1) cap')) B t u := fun {B t u} h ht hB2 => by
            have h' : Boxed (W.drewN nn) B t u := h
            exact ((h'.alloc _).kept hgrow (h'.not_row (fun e => ht e.symm) hrowX)).other (fun e => hB2 e.symm) _
          have f3 := box h3 (by decide) (by omega)
          have f4 := box h4 (by decide) (by omega)
          have f5 := box h5 (by decide) (by omega)
          refine ⟨hkk, ⟨hkk.size, fun i hi hl => ?_⟩, ⟨⟨_, hv2, ?_, HOk.out⟩, box h1 (by decide) (by omega), box h2 (by decide) (by omega)⟩, ⟨⟨t3, f3⟩, ⟨t4, f4⟩, t5, f5⟩, hBk⟩
          · rcases hi with rfl | rfl | rfl
            · exact (show _ = _ from f3).trans (show _ = _ from h3).symm
            · exact (show _ = _ from f4).trans (show _ = _ from h4).symm
            · exact (show _ = _ from f5).trans (show _ = _ from h5).symm
          · rw [HTk.out, List.map_append]
            exact hr2
        · have hX := hne (by rw [hokk]; simp [h8])
          have d3 : decide ((8 : Int) < (q.size : Int)) = true := decide_eq_true (by omega)
          have HX := Aside0.mk hX
          clear hx he0 hokk hne hqe hqL hqs hq hk hs0 hok hX hbt h45 h8
          have hc1 := h1.cell
          have hf1 := h1.frozen
          have hc2 := h2.cell
          have hf2 := h2.frozen
          gi_wp2_with (refine ⟨trivial, ?_⟩; gi_at_call 54; refine (CallsIn.inRound l' (callsIn_wide.2 (HP.out _))).mono ?_; rintro e w' ⟨rfl, hd⟩; obtain ⟨⟨nn, rfl⟩⟩ := hd)
          exact unit_out w L _ _ nn W _ h1 h2 hB HX.out
    · have hX := hne (by rw [hokk]; simp [hz])
      have d1 : (e0 != 0) = true := by simp [hz]
      have HX := Aside0.mk hX
      clear hx he0 hokk hne hqe hqL hqs hq hk hs0 hok hX hz
      have hc1 := h1.cell
      have hf1 := h1.frozen
      have hc2 := h2.cell
      have hf2 := h2.frozen
      gi_wp2_with (refine ⟨trivial, ?_⟩; gi_at_call 54; refine (CallsIn.inRound l' (callsIn_wide.2 (HP.out _))).mono ?_; rintro e w' ⟨rfl, hd⟩; obtain ⟨⟨nn, rfl⟩⟩ := hd)
      exact unit_out w L _ _ nn W _ h1 h2 hB HX.out
  case done =>
    rintro D W hD ⟨⟨⟨v, hv, hrow, hok⟩, h1, h2⟩, _, hB⟩ hK
    have hLn : (L.map pieceV).length = L.length := List.length_map _
    rw [hLn] at hrow hok
    rw [List.take_of_length_le (by rw [List.length_map]; exact Nat.le_refl _)] at hrow
    rw [List.take_of_length_le (Nat.le_refl _)] at hok
    have hRx : Kd.R (Kd.int .u32) 24 W w.heap.size (fun _ => True) v (L.map valU) := Kd.R_of_own (xs := L.map valU) (by rw [List.length_map]; exact hrow) (fun _ _ => trivial)
    obtain ⟨A, c, rfl⟩ := Kd.R_slice hRx
    have hc := hv.cell
    have hc1 := h1.cell
    have hf1 := h1.frozen
    have hc2 := h2.cell
    have hf2 := h2.frozen
    have hall : L.all okU = true := List.all_eq_true.2 hok
    have hLm : (L.map valU).length = L.length := List.length_map _
    rw [hLm] at hv hc hRx
    have hR := HR.out
    rw [if_pos hall] at hR
    clear hok hall
    by_cases h4 : 4 < L.length
    · rw [if_pos h4] at hR
      subst hR
      have d4 : decide ((4 : Int) < (L.length : Int)) = true := decide_eq_true (by omega)
      gi_wp2
      exact unit_end w _ D (by omega) _ (.slice none 0 0) 3 [] rfl rfl (((KeepsOthers.setCell _ _ _).trans (KeepsOthers.setCell _ _ _)).same D _ hK rfl) ((h1.set _).other (by omega) _) ((h2.other (by omega) _).set _) (World.ownsRow_nil _ _ _ _) (below_set (below_set hB (Nat.le_refl _)) (by omega))
    · rw [if_neg h4] at hR
      subst hR
      have d4 : decide ((4 : Int) < (L.length : Int)) = false := decide_eq_false (by omega)
      have hne1 := h1.not_row (by decide) hrow
      have hne2 := h2.not_row (by decide) hrow
      rw [hLm] at hne1 hne2
      gi_wp2
      have e : (L.map valU).length = L.length := hLm
      refine unit_end w _ D (by omega) _ (.slice A L.length c) 0 (L.map valU) rfl rfl (((KeepsOthers.setCell _ _ _).trans (KeepsOthers.setCell _ _ _)).same D _ hK rfl) ((h1.set _).other (by omega) _) ((h2.other (by omega) _).set _) ?_ (below_set (below_set hB (Nat.le_refl _)) (by omega))
      rw [hLm] at hrow ⊢
      exact (hrow.kept (grownBy_setCell' _ _ _) (.inr hne1.symm)).kept (grownBy_setCell' _ _ _) (.inr hne2.symm)
  case stop =>
    rintro D c k W hD hkk ⟨⟨rfl, hX⟩, h1, h2, hB⟩ hK
    have hR := HR.out
    rw [if_neg (fun h => hX (List.all_eq_true.1 h))] at hR
    subst hR
    have hc1 := h1.cell
    have hc2 := h2.cell
    gi_wp2
    exact unit_end w _ D (by omega) _ (.slice none 0 0) 15 [] rfl rfl hK h1 h2 (World.ownsRow_nil _ _ _ _) hB
def prop_ParseUnit.f (s : ByteArray) : Option (List Int × Int) := if s.size ≤ 100000000 then some (unitF s) else none
theorem prop_ParseUnit.calls (a0 : ByteArray) (r1 : List Int) (r2 : Int) (w : World) (h : prop_ParseUnit.f a0 = some (r1, r2)) :
    Calls Tryd.prog 35 #[.string a0] w fun e w' => ∃ v0_ : Value, e = .returned (.tuple #[v0_, .int .i64 r2]) ∧ Kd.R (Kd.int .u32) 24 w' w.heap.size (fun _ => True) v0_ r1 ∧ Below w.heap.size w w' := by
  unfold prop_ParseUnit.f at h
  split at h
  · rename_i hs
    have e := Option.some.inj h
    have h2 := unit_calls a0 w hs
    rw [e] at h2
    exact h2
  · cases h
end Go.Proofs.YtlhnaplmphdhlaaDoor.Q
end
section
namespace Go.Proofs.YtlhnaplmphdhlaaDoor.Q
open Go.RowKit Go.Proofs.YtlhnaplmphdhlaaDoorW.PrintWords Go.Proofs.YtlhnaplmphdhlaaDoorW.PrintLast
def strings_IndexByte.f (a0 : ByteArray) (a1 : Int) : Option Int := some (Lib.indexByte a0.data.toList a1.toNat.toUInt8)
theorem strings_IndexByte.calls (a0 : ByteArray) (a1 : Int) (r : Int) (w : World) (h : strings_IndexByte.f a0 a1 = some r) : Calls Tryd.prog 45 #[.string a0, .int .u8 a1] w fun e w' => e = .returned (.int .i64 r) ∧ Below w.heap.size w w' := by
  obtain rfl := Option.some.inj h
  refine (Tryd.strings_IndexByte a0 a1 w).mono ?_
  rintro e w' ⟨rfl, rfl⟩
  exact ⟨rfl, Below.refl _ _⟩
end Go.Proofs.YtlhnaplmphdhlaaDoor.Q
end
section
set_option linter.unusedSimpArgs false
set_option linter.unusedVariables false
namespace Go.Proofs.YtlhnaplmphdhlaaDoor.Q
open Go.RowKit Go.Proofs.YtlhnaplmphdhlaaDoorW.PrintWords Go.Proofs.YtlhnaplmphdhlaaDoorW.PrintLast
def encF (s : ByteArray) : List Int × Int := if 0 ≤ Lib.indexByte s.data.toList 0 then ([], 15) else if 256 ≤ s.size then ([], 3) else (bytesOf s ++ [0], 0)
theorem info5i : (Tryd.prog.info? 5).map (fun i => (i.zero, i.size, i.bytes)) = some (some (.int .u8 0), 1, 1) := by kernel_rfl
theorem bw_size (W : World) (s : ByteArray) : (Lib.bytesCells W 5 s).size = grownCap W s.size 0 5 := by
  have h := grownCap_ge W s.size 0 5
  unfold Lib.bytesCells
  rw [Array.size_append, Array.size_map, Array.size_replicate]
  show s.data.size + _ = _
  have : s.data.size = s.size := rfl
  omega
theorem bw_room (W : World) (s : ByteArray) (h : s.size + 1 ≤ grownCap W s.size 0 5) : ((Lib.bytesWorld W 5 s).cell? ⟨W.heap.size, s.size, none⟩).isSome = true ∧ (Lib.bytesWorld W 5 s).frozen? ⟨W.heap.size, s.size, none⟩ = false := by
  have hb := Lib.bytesWorld_at_new W 5 s
  have hs := bw_size W s
  constructor
  · rw [cell_of_row _ _ _ _ _ _ hb, Array.getElem?_eq_getElem (by omega)]
    rfl
  · unfold World.frozen?
    simp only [hb]
    rw [hs]
    simp
    omega
theorem bw_C (W : World) (s : ByteArray) (hs : s.size < 256) (h : s.size + 1 ≤ grownCap W s.size 0 5) :
    Kd.C (Kd.int .u8) (((Lib.bytesWorld W 5 s).alloc (.cells #[.int .u8 0] 5)).setCell ⟨W.heap.size, s.size, none⟩ (.int .u8 0)) (some ⟨W.heap.size, 0, none⟩) (s.size + 1) (bytesOf s ++ [0]) := by
  have hr := bw_room W s h
  have hbs := Lib.bytesWorld_size W 5 s
  have hlen : (bytesOf s ++ [0]).length = s.size + 1 := by rw [List.length_append, bytesOf_length]; rfl
  refine Kd.C_of_reads (d := (0 : Int)) ⟨hlen, by omega, fun _ => ⟨_, rfl, fun j hj => ?_⟩⟩
  rw [add_plain]
  have hal : ∀ i, ((Lib.bytesWorld W 5 s).alloc (.cells #[.int .u8 0] 5)).cell? ⟨W.heap.size, i, none⟩ = (Lib.bytesWorld W 5 s).cell? ⟨W.heap.size, i, none⟩ := fun i => (below_alloc (Below.refl (Lib.bytesWorld W 5 s).heap.size (Lib.bytesWorld W 5 s)) _).cell (p := ⟨W.heap.size, i, none⟩) (by show W.heap.size < _; omega)
  by_cases hj2 : j = s.size
  · subst hj2
    rw [World.cell?_setCell_same' _ _ _ (by rw [hal]; exact hr.1)]
    rw [List.getD_eq_getElem?_getD, List.getElem?_append_right (by rw [bytesOf_length]; exact Nat.le_refl _), bytesOf_length, Nat.sub_self]
    rfl
  · rw [World.cell?_setCell_other (h := by intro e; injection e with _ e2 _; exact hj2 e2.symm), hal, Lib.bytesWorld_cell W 5 s j (by omega)]
    have h' : j < s.data.toList.length := by rw [data_length]; omega
    rw [show List.getD (bytesOf s ++ [0] : List Int) j 0 = (bytesOf s).getD j 0 from by rw [List.getD_eq_getElem?_getD, List.getElem?_append_left (by rw [bytesOf_length]; omega), ← List.getD_eq_getElem?_getD]]
    simp [bytesOf, List.getD_eq_getElem?_getD, List.getElem?_eq_getElem h']
set_option maxRecDepth 100000 in
set_option maxHeartbeats 2000000 in
theorem enc_calls (s : ByteArray) (w : World) : Calls Tryd.prog 17 #[.string s] w fun e w' => ∃ A c, e = .returned (.tuple #[.slice A (encF s).1.length c, .int .i64 (encF s).2]) ∧ (encF s).1.length ≤ c ∧ Kd.C (Kd.int .u8) w' A (encF s).1.length (encF s).1 ∧ Below w.heap.size w w' := by
  obtain ⟨x, hx⟩ : ∃ x, x = Lib.indexByte s.data.toList 0 := ⟨_, rfl⟩
  have HI := Aside0.mk (show ∀ W : World, Calls Tryd.prog 45 #[.string s, .int .u8 0] W (fun e w' => e = .returned (.int .i64 x) ∧ Below W.heap.size W w') from fun W => strings_IndexByte.calls s 0 x W (by rw [hx]; rfl))
  obtain ⟨R, hR⟩ : ∃ R, R = encF s := ⟨_, rfl⟩
  rw [← hR]
  unfold encF at hR
  rw [← hx] at hR
  clear hx
  by_cases h0 : 0 ≤ x
  · rw [if_pos h0] at hR
    subst hR
    have d0 : decide (0 ≤ x) = true := decide_eq_true h0
    clear h0
    go_enter Tryd.func17, Tryd.ntmps17
    go_wp2_with (go_at_call 45; (with_reducible refine (HI.out _).mono ?_); rintro e w7 ⟨rfl, hb⟩; have HB := Aside0.mk hb; clear hb)
    go_ret2
    exact ⟨none, 0, rfl, Nat.le_refl _, Kd.C_nil _ _, HB.out⟩
  · rw [if_neg h0] at hR
    have d0 : decide (0 ≤ x) = false := decide_eq_false h0
    clear h0
    by_cases h1 : 256 ≤ s.size
    · rw [if_pos h1] at hR
      subst hR
      have d1 : decide ((256 : Int) ≤ (s.size : Int)) = true := decide_eq_true (by omega)
      clear h1
      go_enter Tryd.func17, Tryd.ntmps17
      go_wp2_with (go_at_call 45; (with_reducible refine (HI.out _).mono ?_); rintro e w7 ⟨rfl, hb⟩; have HB := Aside0.mk hb; clear hb)
      go_ret2
      exact ⟨none, 0, rfl, Nat.le_refl _, Kd.C_nil _ _, HB.out⟩
    · rw [if_neg h1] at hR
      subst hR
      have d1 : decide ((256 : Int) ≤ (s.size : Int)) = false := decide_eq_false (by omega)
      have kb := fun W => print_bytes (P := Tryd.prog) 9 25 5 Tryd.underlying9 Tryd.underlying25 Tryd.underlying5 s W
      have H1 := Aside0.mk h1
      clear h1
      go_enter Tryd.func17, Tryd.ntmps17
      obtain ⟨i0, hi, hz0, hz1, hz2⟩ := info_parts info5i
      have HSz := Aside0.mk (show s.size < 256 by have := H1.out; omega)
      have HLn := Aside0.mk (show (bytesOf s ++ [0]).length = s.size + 1 by rw [List.length_append, bytesOf_length]; rfl)
      go_wp2_with (first
        | (go_at_call 45; (with_reducible refine (HI.out _).mono ?_); rintro e w7 ⟨rfl, hb⟩; have HB := Aside0.mk hb; clear hb)
        | (at_builtin; refine wpList_append_arg ((Lib.bytesWorld w7 5 s).alloc (.cells #[.int .u8 0] 5)) rfl (.tmp 13) (.tmp 14) 25 rfl 5 i0 (.int .u8 0) 1 1 Tryd.underlying25 hi hz0 hz1 hz2 rfl (by decide) w7.heap.size 0 s.size (grownCap w7 s.size 0 5) ((bytesOf s).map (Value.int .u8)) rfl ?a1 ?a2 ⟨(Lib.bytesWorld w7 5 s).heap.size, 0, none⟩ 1 1 [.int .u8 0] rfl rfl ?a3 (by simp [Value.oneCell']) ?a4 ?a5 ?a6 ?a7 ?a8))
      case a1 => rw [List.length_map, bytesOf_length, Nat.mul_one]
      case a2 =>
        intro j u hj
        rw [Nat.zero_add]
        obtain ⟨hl, hu⟩ := List.getElem?_eq_some_iff.1 hj
        rw [List.length_map, bytesOf_length] at hl
        rw [show ((Lib.bytesWorld w7 5 s).alloc (.cells #[.int .u8 0] 5)).cell? ⟨w7.heap.size, j, none⟩ = (Lib.bytesWorld w7 5 s).cell? ⟨w7.heap.size, j, none⟩ from (below_alloc (Below.refl (Lib.bytesWorld w7 5 s).heap.size (Lib.bytesWorld w7 5 s)) _).cell (by show w7.heap.size < _; rw [Lib.bytesWorld_size]; omega), Lib.bytesWorld_cell w7 5 s j hl, ← hu]
        have h' : j < s.data.toList.length := by rw [data_length]; exact hl
        simp [bytesOf, List.getD_eq_getElem?_getD, List.getElem?_eq_getElem h']
      case a3 => exact cell_one_new _ _ _
      case a4 =>
        intro hr j hj
        obtain rfl : j = 0 := by simpa using hj
        have h2 := bw_room w7 s hr
        rw [show 0 + s.size * 1 + 0 = s.size by omega, show ((Lib.bytesWorld w7 5 s).alloc (.cells #[.int .u8 0] 5)).cell? ⟨w7.heap.size, s.size, none⟩ = (Lib.bytesWorld w7 5 s).cell? ⟨w7.heap.size, s.size, none⟩ from (below_alloc (Below.refl (Lib.bytesWorld w7 5 s).heap.size (Lib.bytesWorld w7 5 s)) _).cell (by show w7.heap.size < _; rw [Lib.bytesWorld_size]; omega)]
        refine ⟨h2.1, ?_⟩
        rw [← h2.2]
        exact (below_alloc (Below.refl (Lib.bytesWorld w7 5 s).heap.size (Lib.bytesWorld w7 5 s)) _).frozen (p := ⟨w7.heap.size, s.size, none⟩) (by show w7.heap.size < _; rw [Lib.bytesWorld_size]; omega)
      case a5 => have := HSz.out; unfold maxLen; omega
      case a6 => have := HSz.out; omega
      case a7 =>
        intro hr
        have hC := bw_C w7 s HSz.out hr
        have hW : ((Lib.bytesWorld w7 5 s).alloc (.cells #[.int .u8 0] 5)).setCells w7.heap.size s.size [.int .u8 0] = ((Lib.bytesWorld w7 5 s).alloc (.cells #[.int .u8 0] 5)).setCell ⟨w7.heap.size, s.size, none⟩ (.int .u8 0) := rfl
        rw [hW]
        have HC := Aside0.mk hC
        have HBE := Aside0.mk (show Below w.heap.size w (((Lib.bytesWorld w7 5 s).alloc (.cells #[.int .u8 0] 5)).setCell ⟨w7.heap.size, s.size, none⟩ (.int .u8 0)) from (below_alloc (bytes_below HB.out HB.out.size 5 s) _).setCell (p := ⟨w7.heap.size, s.size, none⟩) HB.out.size _)
        clear hC hW
        go_wp2
        go_ret2
        exact ⟨some ⟨w7.heap.size, 0, none⟩, grownCap w7 s.size 0 5, by rw [HLn.out]; rfl, by rw [HLn.out]; exact hr, by rw [HLn.out]; exact HC.out, HBE.out⟩
      case a8 =>
        intro hr v' w' hown hg
        have hBW : Below w.heap.size w ((Lib.bytesWorld w7 5 s).alloc (.cells #[.int .u8 0] 5)) := below_alloc (bytes_below HB.out HB.out.size 5 s) _
        have hR : Kd.R (Kd.int .u8) 5 w' ((Lib.bytesWorld w7 5 s).heap.size + 1) (fun _ => True) v' (bytesOf s ++ [0]) := Kd.R_of_own (xs := bytesOf s ++ [0]) (by rw [HLn.out, encs, List.map_append]; exact hown) (fun _ _ => trivial)
        have hBE : Below w.heap.size w w' := pw_below_grown hBW _ hBW.size hg (fun k e => by cases e)
        obtain ⟨A, c, rfl, hc, hC⟩ := Kd.R_reads hR
        have HC := Aside0.mk hC
        have HCC := Aside0.mk hc
        have HBE := Aside0.mk hBE
        clear hR hBE hBW hown hg hC hc
        go_wp2
        go_ret2
        exact ⟨A, c, rfl, HCC.out, HC.out, HBE.out⟩
end Go.Proofs.YtlhnaplmphdhlaaDoor.Q
end
section
set_option linter.unusedSimpArgs false
set_option linter.unusedVariables false
namespace Go.Proofs.YtlhnaplmphdhlaaDoor.Q
open Go.RowKit Go.Proofs.YtlhnaplmphdhlaaDoorW.PrintWords Go.Proofs.YtlhnaplmphdhlaaDoorW.PrintLast
theorem enc_zero {s : ByteArray} {i : Nat} (h : i < s.size) (h0 : (s[i]'h).toNat = 0) : 0 ≤ Lib.indexByte s.data.toList 0 := by
  have hge := Lib.indexByte_ge s.data.toList 0
  by_cases hx : Lib.indexByte s.data.toList 0 = -1
  · exfalso
    have h2 := Lib.indexByte_none hx i
    refine h2 ?_
    have hl : i < s.data.toList.length := by rw [data_length]; exact h
    rw [List.getElem?_eq_getElem hl]
    congr 1
    apply UInt8.toNat_inj.1
    exact h0
  · omega
end Go.Proofs.YtlhnaplmphdhlaaDoor.Q
end
section
namespace Go.Proofs.YtlhnaplmphdhlaaDoor.Q
open Go.RowKit Go.Proofs.YtlhnaplmphdhlaaDoorW.PrintWords Go.Proofs.YtlhnaplmphdhlaaDoorW.PrintLast Go.Proofs.YtlhnaplmphdhlaaDoorW.PrintMore
set_option linter.unusedVariables false
set_option linter.unusedSimpArgs false

attribute [local go_sem] max2_int min2_int max_two min_two max_three min_three max_four min_four
/-! ### prop_Named: function 15 -/
mutual
def prop_Named.j0 : Nat → ByteArray → Bool → Option (Bool)
  | 0, _, _ => none
  | k + 1, x0, x11 => if x11 = true then (some false) else (prop_Named.l0 k x0 (x0.size : Int) 0)
def prop_Named.l0 : Nat → ByteArray → Int → Int → Option (Bool)
  | 0, _, _, _ => none
  | k + 1, x0, x13, x14 => if x14 < x13 then (if 0 ≤ x14 then (if x14 < (x0.size : Int) then (if (bt x0 x14) ≤ 32 then (prop_Named.j2 k x0 (bt x0 x14) x13 x14 true) else (if (bt x0 x14) > 126 then (prop_Named.j2 k x0 (bt x0 x14) x13 x14 true) else (if (bt x0 x14) ≥ 65 then (prop_Named.j2 k x0 (bt x0 x14) x13 x14 (decide ((bt x0 x14) ≤ 90))) else (prop_Named.j2 k x0 (bt x0 x14) x13 x14 false)))) else (none)) else (none)) else (some true)
def prop_Named.j2 : Nat → ByteArray → Int → Int → Int → Bool → Option (Bool)
  | 0, _, _, _, _, _ => none
  | k + 1, x0, x4, x13, x14, x20 => if x20 = true then (some false) else ((strings_IndexByte.f (⟨#[47, 92, 58, 91, 93, 64]⟩ : ByteArray) x4).bind fun t16001 => (if t16001 ≥ 0 then (some false) else (prop_Named.l0 k x0 x13 (wrap64 (x14 + 1)))))
end
def prop_Named.f (k : Nat) (a0 : ByteArray) : Option (Bool) := if a0.toList = ([] : List UInt8) then (prop_Named.j0 k a0 true) else (prop_Named.j0 k a0 (decide ((a0.size : Int) > 31)))
set_option maxHeartbeats 8000000 in
set_option maxRecDepth 100000 in
theorem prop_Named.calls (k : Nat) (a0 : ByteArray) (r : Bool) (w : World) (h : prop_Named.f k a0 = some r) :
    Calls Tryd.prog 15 #[.string a0] w fun e w' => e = .returned (.bool r) ∧ Below w.heap.size w w' := by
  have HB := Aside0.mk (Below.refl w.heap.size w)
  have H : (if a0.toList = ([] : List UInt8) then (prop_Named.j0 k a0 true) else (prop_Named.j0 k a0 (decide ((a0.size : Int) > 31)))) = some r := h
  clear h
  have HC2 := Aside0.mk H
  clear H
  go_enter Tryd.func15, Tryd.ntmps15
  go_upto_region 1 with (fail)
  go_cut [11] (fun v11 wc => ∃ (kq : Nat) (x11_1 : Bool), v11 = .bool x11_1 ∧ Aside0 (prop_Named.j0 kq a0 x11_1 = some r) ∧ Aside0 (kq ≤ k) ∧ Aside0 (Below w.heap.size w wc))
  case first =>
    have H := HC2.out
    clear HC2
    by_cases c3 : a0.toList = ([] : List UInt8)
    · rw [if_pos c3] at H
      have c3b0 : (a0.toList == ([] : List UInt8)) = true := beq_iff_eq.mpr c3
      have c3b1 : (a0.toList != ([] : List UInt8)) = false := bne_eq_false_iff_eq.mpr c3
      clear c3
      (first | rw [c3b0] | (simp only [i64_w, i32_w]; rw [c3b0]) | skip)
      have H' := Aside0.mk H
      clear H
      go_wp2
      go_meet
      case rel => exact ⟨_, (true), (by first | rfl | (simp; done) | (simp [*]; done)), H', ⟨by first | omega | exact Nat.le_refl _⟩, ⟨by repeat (first | (with_reducible first | exact HB.out | apply below_alloc | apply pw_below_drewN | apply below_drew1) | exact HB.out)⟩⟩
    · rw [if_neg c3] at H
      have c3b0 : (a0.toList == ([] : List UInt8)) = false := beq_eq_false_iff_ne.mpr c3
      have c3b1 : (a0.toList != ([] : List UInt8)) = true := bne_iff_ne.mpr c3
      (first | rw [c3b0] | (simp only [i64_w, i32_w]; rw [c3b0]) | skip)
      have H' := Aside0.mk H
      clear H
      go_wp2
      go_meet
      case rel => exact ⟨_, (decide ((a0.size : Int) > 31)), (by first | rfl | (simp; done) | (simp [*]; done)), H', ⟨by first | omega | exact Nat.le_refl _⟩, ⟨by repeat (first | (with_reducible first | exact HB.out | apply below_alloc | apply pw_below_drewN | apply below_drew1) | exact HB.out)⟩⟩
  case rest =>
    clear HC2
    try clear c1
    try clear p2
    try clear c3
    try clear c3b0
    try clear c3b1
    obtain ⟨kq, x11_1, rfl, HA, HJ1, HB⟩ := hcut
    cases kq with
    | zero => exact absurd HA.out (by simp [prop_Named.j0])
    | succ kj1 =>
      have H := HA.out
      clear HA
      simp only [prop_Named.j0] at H
      by_cases c4 : x11_1 = true
      · subst c4
        have H1 : (some false) = some r := by rw [if_pos rfl] at H; exact H
        clear H
        have H := H1
        clear H1
        obtain rfl := Option.some.inj H
        go_wp2
        go_ret
        exact ⟨by first | rfl | (simp [errW_none, errW_some] <;> rfl) | (simp [*, errW_none, errW_some] <;> rfl), by repeat (first | (with_reducible first | exact HB.out | apply below_alloc | apply pw_below_drewN | apply below_drew1) | exact HB.out)⟩
      · replace c4 := Bool.eq_false_iff.mpr c4
        subst c4
        have H1 : (prop_Named.l0 kj1 a0 (a0.size : Int) 0) = some r := by rw [if_neg (show ¬ (false = true) by decide)] at H; exact H
        clear H
        have H := H1
        clear H1
        have H' := Aside0.mk H
        clear H
        go_wp2
        go_loopg [14] kj1 (fun kq v14 w' => ∃ (x14_2 : Int), v14 = .int .i64 x14_2 ∧ Aside0 (prop_Named.l0 kq a0 (a0.size : Int) x14_2 = some r) ∧ Aside0 (kq ≤ kj1) ∧ Aside0 (Below w.heap.size w w'))
        case atStart => exact ⟨(0), (by first | rfl | (simp; done) | (simp [*]; done)), H', ⟨Nat.le_refl _⟩, ⟨by repeat (first | (with_reducible first | exact HB.out | apply below_alloc | apply pw_below_drewN | apply below_drew1) | exact HB.out)⟩⟩
        case round =>
          clear H'
          try clear c1
          try clear p2
          try clear c3
          try clear c3b0
          try clear c3b1
          try clear c4
          try clear p2
          obtain ⟨x14_2, rfl, HA, HK2, HB⟩ := hrel
          cases gk with
          | zero => exact absurd HA.out (by simp [prop_Named.l0])
          | succ k2 =>
            have H := HA.out
            clear HA
            simp only [prop_Named.l0] at H
            by_cases c5 : x14_2 < (a0.size : Int)
            · rw [if_pos c5] at H
              have c5b0 : decide (x14_2 < (a0.size : Int)) = true := decide_eq_true c5
              clear c5
              by_cases c6 : 0 ≤ x14_2
              · rw [if_pos c6] at H
                have c6b0 : decide (0 ≤ x14_2) = true := decide_eq_true c6
                clear c6
                by_cases c7 : x14_2 < (a0.size : Int)
                · rw [if_pos c7] at H
                  have c7b0 : decide (x14_2 < (a0.size : Int)) = true := decide_eq_true c7
                  clear c7
                  have HC9 := Aside0.mk H
                  clear H
                  have p8 : 0 ≤ (x14_2 : Int) := of_decide_eq_true (by first | (with_reducible assumption) | assumption)
                  have q8 : x14_2 < (a0.size : Int) := of_decide_eq_true (by first | (with_reducible assumption) | assumption)
                  have hx8 := bt_at a0 x14_2
                  replace p8 := eq_true p8
                  replace q8 := eq_true q8
                  go_upto_region 7 with (fail)
                  go_cut [20] (fun v20 wc => ∃ (kq : Nat) (x20_8 : Bool), v20 = .bool x20_8 ∧ Aside0 (prop_Named.j2 kq a0 (bt a0 x14_2) (a0.size : Int) x14_2 x20_8 = some r) ∧ Aside0 (kq ≤ k2) ∧ Aside0 (Below w.heap.size w wc))
                  case first =>
                    have H := HC9.out
                    clear HC9
                    by_cases c10 : (bt a0 x14_2) ≤ 32
                    · rw [if_pos c10] at H
                      have c10b0 : decide ((bt a0 x14_2) ≤ 32) = true := decide_eq_true c10
                      clear c10
                      (first | rw [c10b0] | (simp only [i64_w, i32_w]; rw [c10b0]) | skip)
                      have H' := Aside0.mk H
                      clear H
                      go_wp2
                      go_meet
                      case rel => exact ⟨_, (true), (by first | rfl | (simp; done) | (simp [*]; done)), H', ⟨by have := HJ1.out; have := HK2.out; first | omega | exact Nat.le_refl _⟩, ⟨by repeat (first | (with_reducible first | exact HB.out | apply below_alloc | apply pw_below_drewN | apply below_drew1) | exact HB.out)⟩⟩
                    · rw [if_neg c10] at H
                      have c10b0 : decide ((bt a0 x14_2) ≤ 32) = false := decide_eq_false c10
                      clear c10
                      (first | rw [c10b0] | (simp only [i64_w, i32_w]; rw [c10b0]) | skip)
                      by_cases c11 : (bt a0 x14_2) > 126
                      · rw [if_pos c11] at H
                        have c11b0 : decide (126 < (bt a0 x14_2)) = true := decide_eq_true c11
                        clear c11
                        have H' := Aside0.mk H
                        clear H
                        go_wp2
                        go_meet
                        case rel => exact ⟨_, (true), (by first | rfl | (simp; done) | (simp [*]; done)), H', ⟨by have := HJ1.out; have := HK2.out; first | omega | exact Nat.le_refl _⟩, ⟨by repeat (first | (with_reducible first | exact HB.out | apply below_alloc | apply pw_below_drewN | apply below_drew1) | exact HB.out)⟩⟩
                      · rw [if_neg c11] at H
                        have c11b0 : decide (126 < (bt a0 x14_2)) = false := decide_eq_false c11
                        clear c11
                        by_cases c12 : (bt a0 x14_2) ≥ 65
                        · rw [if_pos c12] at H
                          have c12b0 : decide (65 ≤ (bt a0 x14_2)) = true := decide_eq_true c12
                          clear c12
                          have H' := Aside0.mk H
                          clear H
                          go_wp2
                          go_meet
                          case rel => exact ⟨_, (decide ((bt a0 x14_2) ≤ 90)), (by first | rfl | (simp; done) | (simp [*]; done)), H', ⟨by have := HJ1.out; have := HK2.out; first | omega | exact Nat.le_refl _⟩, ⟨by repeat (first | (with_reducible first | exact HB.out | apply below_alloc | apply pw_below_drewN | apply below_drew1) | exact HB.out)⟩⟩
                        · rw [if_neg c12] at H
                          have c12b0 : decide (65 ≤ (bt a0 x14_2)) = false := decide_eq_false c12
                          clear c12
                          have H' := Aside0.mk H
                          clear H
                          go_wp2
                          go_meet
                          case rel => exact ⟨_, (false), (by first | rfl | (simp; done) | (simp [*]; done)), H', ⟨by have := HJ1.out; have := HK2.out; first | omega | exact Nat.le_refl _⟩, ⟨by repeat (first | (with_reducible first | exact HB.out | apply below_alloc | apply pw_below_drewN | apply below_drew1) | exact HB.out)⟩⟩
                  case rest =>
                    clear HC9
                    try clear c1
                    try clear p2
                    try clear c3
                    try clear c3b0
                    try clear c3b1
                    try clear c4
                    try clear c5
                    try clear c5b0
                    try clear c6
                    try clear c6b0
                    try clear c7
                    try clear c7b0
                    try clear p8
                    try clear q8
                    try clear hx8
                    try clear c10
                    try clear c10b0
                    try clear c11
                    try clear c11b0
                    try clear c12
                    try clear c12b0
                    try clear p2
                    try clear p8
                    try clear q8
                    obtain ⟨kq, x20_8, rfl, HA, HJ8, HB⟩ := hcut
                    cases kq with
                    | zero => exact absurd HA.out (by simp [prop_Named.j2])
                    | succ kj8 =>
                      have H := HA.out
                      clear HA
                      simp only [prop_Named.j2] at H
                      by_cases c13 : x20_8 = true
                      · subst c13
                        have H1 : (some false) = some r := by rw [if_pos rfl] at H; exact H
                        clear H
                        have H := H1
                        clear H1
                        obtain rfl := Option.some.inj H
                        go_wp2
                        go_ret
                        exact ⟨by first | rfl | (simp [errW_none, errW_some] <;> rfl) | (simp [*, errW_none, errW_some] <;> rfl), by repeat (first | (with_reducible first | exact HB.out | apply below_alloc | apply pw_below_drewN | apply below_drew1) | exact HB.out)⟩
                      · replace c13 := Bool.eq_false_iff.mpr c13
                        subst c13
                        have H1 : ((strings_IndexByte.f (⟨#[47, 92, 58, 91, 93, 64]⟩ : ByteArray) (bt a0 x14_2)).bind fun t16001 => (if t16001 ≥ 0 then (some false) else (prop_Named.l0 kj8 a0 (a0.size : Int) (wrap64 (x14_2 + 1))))) = some r := by rw [if_neg (show ¬ (false = true) by decide)] at H; exact H
                        clear H
                        have H := H1
                        clear H1
                        replace H := Option.bind_eq_some_iff.mp H
                        obtain ⟨t16001, A140, H⟩ := H
                        replace H : (if t16001 ≥ 0 then (some false) else (prop_Named.l0 kj8 a0 (a0.size : Int) (wrap64 (x14_2 + 1)))) = some r := H
                        have A14 := Aside0.mk A140
                        clear A140
                        by_cases c15 : t16001 ≥ 0
                        · rw [if_pos c15] at H
                          have c15b0 : decide (0 ≤ t16001) = true := decide_eq_true c15
                          clear c15
                          obtain rfl := Option.some.inj H
                          go_wp2_with (first | ((with_reducible refine gate_callee (f := 45) rfl ?_); refine goesL_ (some 37) rfl rfl Tryd.func45 (by kernel_rfl) rfl #[.string (⟨#[47, 92, 58, 91, 93, 64]⟩ : ByteArray), .int .u8 (bt a0 x14_2)] rfl (by (try simp only [List.map_toArray, List.map_cons, List.map_nil]); first | done | rfl | (simp only [List.length_drop, List.length_take]; rfl)) ?_; (with_reducible refine (strings_IndexByte.calls (⟨#[47, 92, 58, 91, 93, 64]⟩ : ByteArray) (bt a0 x14_2) t16001 _ A14.out).mono ?_); rintro e w16 ⟨rfl, hb⟩; refine ⟨_, rfl, ?_⟩; have n0_ := Aside0.mk (below_step (by repeat (first | (with_reducible first | exact HB.out | apply below_alloc | apply pw_below_drewN | apply below_drew1) | exact HB.out)) hb); clear HB; have HB := n0_; clear n0_; (try clear hb); (try clear hb2); (try clear hk); (try clear hi)))
                          go_ret
                          exact ⟨by first | rfl | (simp [errW_none, errW_some] <;> rfl) | (simp [*, errW_none, errW_some] <;> rfl), by repeat (first | (with_reducible first | exact HB.out | apply below_alloc | apply pw_below_drewN | apply below_drew1) | exact HB.out)⟩
                        · rw [if_neg c15] at H
                          have c15b0 : decide (0 ≤ t16001) = false := decide_eq_false c15
                          clear c15
                          have H' := Aside0.mk H
                          clear H
                          go_wp2_with (first | ((with_reducible refine gate_callee (f := 45) rfl ?_); refine goesL_ (some 37) rfl rfl Tryd.func45 (by kernel_rfl) rfl #[.string (⟨#[47, 92, 58, 91, 93, 64]⟩ : ByteArray), .int .u8 (bt a0 x14_2)] rfl (by (try simp only [List.map_toArray, List.map_cons, List.map_nil]); first | done | rfl | (simp only [List.length_drop, List.length_take]; rfl)) ?_; (with_reducible refine (strings_IndexByte.calls (⟨#[47, 92, 58, 91, 93, 64]⟩ : ByteArray) (bt a0 x14_2) t16001 _ A14.out).mono ?_); rintro e w17 ⟨rfl, hb⟩; refine ⟨_, rfl, ?_⟩; have n0_ := Aside0.mk (below_step (by repeat (first | (with_reducible first | exact HB.out | apply below_alloc | apply pw_below_drewN | apply below_drew1) | exact HB.out)) hb); clear HB; have HB := n0_; clear n0_; (try clear hb); (try clear hb2); (try clear hk); (try clear hi)))
                          go_roundg kj8
                          case measure => have := HJ1.out; have := HK2.out; have := HJ8.out; omega
                          case rel => exact ⟨(wrap64 (x14_2 + 1)), (by first | rfl | (simp; done) | (simp [*]; done)), H', ⟨by have := HJ1.out; have := HK2.out; have := HJ8.out; omega⟩, ⟨by repeat (first | (with_reducible first | exact HB.out | apply below_alloc | apply pw_below_drewN | apply below_drew1) | exact HB.out)⟩⟩
                · rw [if_neg c7] at H
                  exact absurd H (by simp)
              · rw [if_neg c6] at H
                exact absurd H (by simp)
            · rw [if_neg c5] at H
              have c5b0 : decide (x14_2 < (a0.size : Int)) = false := decide_eq_false c5
              clear c5
              obtain rfl := Option.some.inj H
              go_wp2
              go_ret
              exact ⟨by first | rfl | (simp [errW_none, errW_some] <;> rfl) | (simp [*, errW_none, errW_some] <;> rfl), by repeat (first | (with_reducible first | exact HB.out | apply below_alloc | apply pw_below_drewN | apply below_drew1) | exact HB.out)⟩

end Go.Proofs.YtlhnaplmphdhlaaDoor.Q
end
section
namespace Go.Proofs.YtlhnaplmphdhlaaDoor.Q
open Go.RowKit Go.Proofs.YtlhnaplmphdhlaaDoorW.PrintWords Go.Proofs.YtlhnaplmphdhlaaDoorW.PrintLast Go.Proofs.YtlhnaplmphdhlaaDoorW.PrintMore
set_option linter.unusedVariables false
set_option linter.unusedSimpArgs false

attribute [local go_sem] max2_int min2_int max_two min_two max_three min_three max_four min_four
/-! ### tinderref05_Named: function 16 -/
mutual
def tinderref05_Named.j0 : Nat → ByteArray → Bool → Option (Bool)
  | 0, _, _ => none
  | k + 1, x0, x13 => if x13 = true then (some false) else (tinderref05_Named.l0 k x0 0)
def tinderref05_Named.l0 : Nat → ByteArray → Int → Option (Bool)
  | 0, _, _ => none
  | k + 1, x0, x3 => if x3 < (x0.size : Int) then (if 0 ≤ x3 then (if (bt x0 x3) < 33 then (tinderref05_Named.j2 k x0 x3 (bt x0 x3) true) else (if (bt x0 x3) > 126 then (tinderref05_Named.j2 k x0 x3 (bt x0 x3) true) else (if (bt x0 x3) ≥ 65 then (tinderref05_Named.j2 k x0 x3 (bt x0 x3) (decide ((bt x0 x3) ≤ 90))) else (tinderref05_Named.j2 k x0 x3 (bt x0 x3) false)))) else (none)) else (some true)
def tinderref05_Named.j2 : Nat → ByteArray → Int → Int → Bool → Option (Bool)
  | 0, _, _, _, _ => none
  | k + 1, x0, x3, x4, x36 => if x36 = true then (some false) else (tinderref05_Named.l1 k x0 x3 x4 0)
def tinderref05_Named.l1 : Nat → ByteArray → Int → Int → Int → Option (Bool)
  | 0, _, _, _, _ => none
  | k + 1, x0, x3, x4, x5 => if x5 < 6 then (if 0 ≤ x5 then (if x4 = (bt (⟨#[47, 92, 58, 91, 93, 64]⟩ : ByteArray) x5) then (some false) else (tinderref05_Named.l1 k x0 x3 x4 (wrap64 (x5 + 1)))) else (none)) else (tinderref05_Named.l0 k x0 (wrap64 (x3 + 1)))
end
def tinderref05_Named.f (k : Nat) (a0 : ByteArray) : Option (Bool) := if (a0.size : Int) < 1 then (tinderref05_Named.j0 k a0 true) else (tinderref05_Named.j0 k a0 (decide ((a0.size : Int) > 31)))

end Go.Proofs.YtlhnaplmphdhlaaDoor.Q
end
section
set_option linter.unusedSimpArgs false
set_option linter.unusedVariables false
namespace Go.Proofs.YtlhnaplmphdhlaaDoor.Q
open Go.RowKit Go.Proofs.YtlhnaplmphdhlaaDoorW.PrintWords Go.Proofs.YtlhnaplmphdhlaaDoorW.PrintLast
def badB (c : Int) : Bool := decide (c = 47) || decide (c = 92) || decide (c = 58) || decide (c = 91) || decide (c = 93) || decide (c = 64)
def okC (c : Int) : Bool := decide (33 ≤ c) && decide (c ≤ 126) && !(decide (65 ≤ c) && decide (c ≤ 90)) && !badB c
def namedF (s : ByteArray) : Bool := decide (1 ≤ s.size) && decide (s.size ≤ 31) && (bytesOf s).all okC
theorem bad_all : ((List.range 256).all fun (c : Nat) => decide (0 ≤ Lib.indexByte (⟨#[47, 92, 58, 91, 93, 64]⟩ : ByteArray).data.toList ((c : Int).toNat.toUInt8)) == badB (c : Int)) = true := by kernel_rfl
theorem bad_idx (c : Int) (h : 0 ≤ c ∧ c ≤ 255) : decide (0 ≤ Lib.indexByte (⟨#[47, 92, 58, 91, 93, 64]⟩ : ByteArray).data.toList c.toNat.toUInt8) = badB c := by
  have h1 := List.all_eq_true.1 bad_all c.toNat (List.mem_range.2 (by omega))
  rw [beq_iff_eq, show ((c.toNat : Nat) : Int) = c by omega] at h1
  exact h1
theorem named_go (s : ByteArray) (hs : s.size ≤ 31) : ∀ (d k : Nat) (i : Int), 0 ≤ i → i + d = s.size → 2 * d + 2 ≤ k → prop_Named.l0 k s s.size i = some (((bytesOf s).drop i.toNat).all okC)
  | 0, k, i, h0, h1, hk => by
    obtain ⟨k, rfl⟩ : ∃ m, k = m + 1 := ⟨k - 1, by omega⟩
    rw [prop_Named.l0, if_neg (by omega), List.drop_eq_nil_of_le (by rw [bytesOf_length]; omega)]
    rfl
  | d + 1, k, i, h0, h1, hk => by
    obtain ⟨k, rfl⟩ : ∃ m, k = m + 1 + 1 := ⟨k - 2, by omega⟩
    have hb := bt_range s i
    have ih := named_go s hs d k (i + 1) (by omega) (by omega) (by omega)
    have hw : wrap64 (i + 1) = i + 1 := by unfold wrap64; omega
    rw [prop_Named.l0, if_pos (by omega), if_pos h0, if_pos (by omega), bytes_at s i h0 (by omega), List.all_cons]
    have ht : prop_Named.j2 (k + 1) s (bt s i) s.size i true = some false := by rw [prop_Named.j2, if_pos rfl]
    have hf : prop_Named.j2 (k + 1) s (bt s i) s.size i false = some (!badB (bt s i) && ((bytesOf s).drop (i + 1).toNat).all okC) := by
      rw [prop_Named.j2, if_neg (by decide), strings_IndexByte.f, Option.bind_some, hw, ih, ← bad_idx (bt s i) hb]
      by_cases hx : 0 ≤ Lib.indexByte (⟨#[47, 92, 58, 91, 93, 64]⟩ : ByteArray).data.toList (bt s i).toNat.toUInt8
      · rw [if_pos hx]; simp [hx]
      · rw [if_neg hx]; simp [hx]
    rw [show okC (bt s i) = (decide (33 ≤ bt s i) && decide (bt s i ≤ 126) && !(decide (65 ≤ bt s i) && decide (bt s i ≤ 90)) && !badB (bt s i)) from rfl]
    by_cases h2 : bt s i ≤ 32
    · rw [if_pos h2, ht]
      simp [show ¬ 33 ≤ bt s i by omega]
    · rw [if_neg h2]
      by_cases h3 : bt s i > 126
      · rw [if_pos h3, ht]
        simp [show ¬ bt s i ≤ 126 by omega]
      · rw [if_neg h3]
        by_cases h4 : bt s i ≥ 65
        · rw [if_pos h4]
          by_cases h5 : bt s i ≤ 90
          · rw [decide_eq_true h5, ht]
            simp [h5, show 65 ≤ bt s i by omega]
          · rw [decide_eq_false h5, hf]
            simp [h5, show 33 ≤ bt s i by omega, show bt s i ≤ 126 by omega]
        · rw [if_neg h4, hf]
          simp [show ¬ 65 ≤ bt s i by omega, show 33 ≤ bt s i by omega, show bt s i ≤ 126 by omega]
theorem named_eq (k : Nat) (hk : 100 ≤ k) (s : ByteArray) : prop_Named.f k s = some (namedF s) := by
  obtain ⟨k, rfl⟩ : ∃ m, k = m + 1 := ⟨k - 1, by omega⟩
  unfold prop_Named.f namedF
  by_cases h0 : s.size = 0
  · rw [if_pos ((empty_iff s).2 h0), prop_Named.j0, if_pos rfl]
    simp [h0]
  · rw [if_neg (fun h => h0 ((empty_iff s).1 h)), prop_Named.j0]
    by_cases h1 : (s.size : Int) > 31
    · rw [decide_eq_true h1, if_pos rfl]
      simp [show ¬ s.size ≤ 31 by omega]
    · rw [decide_eq_false h1, if_neg (by decide), named_go s (by omega) s.size k 0 (Int.le_refl 0) (by omega) (by omega)]
      simp [show 1 ≤ s.size by omega, show s.size ≤ 31 by omega]
end Go.Proofs.YtlhnaplmphdhlaaDoor.Q
end
section
set_option linter.unusedSimpArgs false
set_option linter.unusedVariables false
namespace Go.Proofs.YtlhnaplmphdhlaaDoor.Q
open Go.RowKit Go.Proofs.YtlhnaplmphdhlaaDoorW.PrintWords Go.Proofs.YtlhnaplmphdhlaaDoorW.PrintLast
theorem unit_1f0 : unitF (⟨#[49, 102, 44, 48]⟩ : ByteArray) = ([31, 0], 0) := by kernel_rfl
theorem enc_ab : encF (⟨#[97, 98]⟩ : ByteArray) = ([97, 98, 0], 0) := by kernel_rfl
theorem named_ab : namedF (⟨#[97, 98]⟩ : ByteArray) = true := by kernel_rfl
theorem exec_string {w : World} {A : Option Addr} {n c : Nat} {l : List Int} {a : Act} {o : Oper} {x : Operand} (ho : o.op = .convert 25 9 x) (hx : a.eval x = .slice A n c) (hC : Kd.C (Kd.int .u8) w A n l) : (execOp a.eval o).run Tryd.prog w = .ok (.value (.string (strOfNums l))) w := by
  have hr : (convert 25 9 (.slice A n c)).run Tryd.prog w = .ok (.string (strOfNums l)) w := Kd.C_string Tryd.underlying25 Tryd.underlying5 Tryd.underlying9 hC
  simp only [execOp, ho, hx]
  rw [Sem.run_bind, hr]
  rfl
theorem cell_first {W : World} {A : Addr} {n : Nat} {x : Int} {l : List Int} (h : Kd.C (Kd.int .u32) W (some A) n (x :: l)) : W.cell? A = some (.int .u32 x) := by
  obtain ⟨ad, cs, hA, _, hK, hcell⟩ := ReadsRow.get_ h 0 0 (by decide) (by have := h.1; simp at this; omega)
  injection hA with hA
  subst hA
  obtain rfl : cs = [.int .u32 x] := hK
  have h2 := hcell 0 _ rfl
  rw [show (0 : Int).toNat * (Kd.int .u32).sz + 0 = 0 by rfl, Addr_add_zero] at h2
  exact h2
set_option maxRecDepth 100000 in
set_option maxHeartbeats 4000000 in
theorem alive_calls (w : World) : Calls Tryd.prog 14 #[] w fun e w' => e = .returned (.bool true) ∧ Below w.heap.size w w' := by
  have HU := Aside0.mk (show ∀ W : World, Calls Tryd.prog 35 #[.string ⟨#[49, 102, 44, 48]⟩] W (fun e w' => ∃ A c, e = .returned (.tuple #[.slice (some A) 2 c, .int .i64 0]) ∧ 2 ≤ c ∧ Kd.C (Kd.int .u32) w' (some A) 2 [31, 0] ∧ Below W.heap.size W w') from fun W => by
    have h := unit_calls ⟨#[49, 102, 44, 48]⟩ W (by decide)
    rw [unit_1f0] at h
    refine h.mono ?_
    rintro e w' ⟨v, rfl, hR, hb⟩
    obtain ⟨A, c, rfl, hc, hC⟩ := Kd.R_reads hR
    obtain ⟨ad, rfl, _⟩ := hC.2.2 (by decide)
    exact ⟨ad, c, rfl, hc, hC, hb⟩)
  have HE := Aside0.mk (show ∀ W : World, Calls Tryd.prog 17 #[.string ⟨#[97, 98]⟩] W (fun e w' => ∃ A c, e = .returned (.tuple #[.slice A 3 c, .int .i64 0]) ∧ 3 ≤ c ∧ Kd.C (Kd.int .u8) w' A 3 [97, 98, 0] ∧ Below W.heap.size W w') from fun W => by
    have h := enc_calls ⟨#[97, 98]⟩ W
    rw [enc_ab] at h
    exact h)
  have HN := Aside0.mk (show ∀ W : World, Calls Tryd.prog 15 #[.string ⟨#[97, 98]⟩] W (fun e w' => e = .returned (.bool true) ∧ Below W.heap.size W w') from fun W => by
    refine (prop_Named.calls 100 ⟨#[97, 98]⟩ true W (by rw [named_eq 100 (by decide), named_ab])).mono ?_
    rintro e w' ⟨rfl, hb⟩
    exact ⟨rfl, hb⟩)
  have d1 : ((strOfNums [97, 98, 0]).toList == ([97, 98, 0] : List UInt8)) = true := by kernel_rfl
  go_enter Tryd.func14, Tryd.ntmps14
  go_wp2_with (first
    | (go_at_call 35; (with_reducible refine (HU.out _).mono ?_); rintro e w1 ⟨A, c, rfl, hc, hC, hb⟩; have HC1 := Aside0.mk hC; have HB1 := Aside0.mk hb; clear hC hb hc)
    | (go_at_call 17; (with_reducible refine (HE.out _).mono ?_); rintro e w2 ⟨A2, c2, rfl, hc2, hC2, hb⟩; have HC2 := Aside0.mk hC2; have HB2 := Aside0.mk (below_step HB1.out hb); have hcell := cell_first (Kd.C_below HC1.out hb); clear hC2 hb hc2)
    | ((with_reducible refine gate_dst (N := 32) rfl ?_); refine gate_guard (by rfl) ?_; refine Kd.event_run rfl (exec_string rfl rfl HC2.out) ?_)
    | (go_at_call 15; (with_reducible refine (HN.out _).mono ?_); rintro e w3 ⟨rfl, hb⟩; have HB3 := Aside0.mk (below_step HB2.out hb); clear hb))
  go_ret
  exact ⟨rfl, HB3.out⟩
def tinderlaw05_alive.f : Option Bool := some true
end Go.Proofs.YtlhnaplmphdhlaaDoor.Q
end
section
set_option linter.unusedVariables false
namespace Go.Proofs.YtlhnaplmphdhlaaDoor.Q
open Go.ChangeShapes Go.WideShapes Go.ChangeAt Go.RowKit
def laidL : List (String × DataW Unit) := Rows.propNamesRow.laid
structure Tabs (w : World) : Prop where
theorem tabs_of_laid {W : World} (h : laidMetH Tryd.prog laidL W) : Tabs W := by
  rw [MakeChecks.laidMetH_plain _ _ _ (by kernel_rfl)] at h
  refine ⟨⟩
theorem var_below {P : Program} {g : Nat} {W W' : World} {n : String} {cs : Array Value} (h : Below W.heap.size W W') (hg : P.globalNamed n = some g) (hv : W.var? P n = some cs) : W'.var? P n = some cs := by
  unfold World.var? at hv ⊢
  simp only [hg, Option.bind_some] at hv ⊢
  rw [h.block g (by
    rcases Nat.lt_or_ge g W.heap.size with h1 | h1
    · exact h1
    · rw [Array.getElem?_eq_none h1] at hv
      simp at hv)]
  exact hv
theorem Tabs.below {w w1 : World} (h : Tabs w) (hb : Below w.heap.size w w1) : Tabs w1 :=
  ⟨⟩
end Go.Proofs.YtlhnaplmphdhlaaDoor.Q
end
section
namespace Go.Proofs.YtlhnaplmphdhlaaDoor.Q
open Go.RowKit Go.Proofs.YtlhnaplmphdhlaaDoorW.PrintWords Go.Proofs.YtlhnaplmphdhlaaDoorW.PrintLast Go.Proofs.YtlhnaplmphdhlaaDoorW.PrintMore
set_option linter.unusedVariables false
set_option linter.unusedSimpArgs false

attribute [local go_sem] max2_int min2_int max_two min_two max_three min_three max_four min_four
/-! ### tinderlaw05_PropNames: function 3 -/
def tinderlaw05_PropNames.f (k : Nat) (a0 : ByteArray) : Option (Bool) := (tinderlaw05_alive.f).bind fun t4001 => (if t4001 = true then ((prop_Named.f k a0).bind fun t4002 => ((tinderref05_Named.f k a0).bind fun t4003 => (some (t4002 == t4003)))) else (some false))

/-- THE ONE PURE STATEMENT of tinderlaw05_PropNames: yours. -/
def tinderlaw05_PropNames.Pure : Prop := ∀ (a0 : ByteArray), a0.size ≤ 140737488351232 → ∃ k, tinderlaw05_PropNames.f k a0 = some true

end Go.Proofs.YtlhnaplmphdhlaaDoor.Q
end
section
namespace Go.Proofs.YtlhnaplmphdhlaaDoor.Q
open Go.RowKit Go.Proofs.YtlhnaplmphdhlaaDoorW.PrintWords Go.Proofs.YtlhnaplmphdhlaaDoorW.PrintLast Go.Proofs.YtlhnaplmphdhlaaDoorW.PrintMore
set_option linter.unusedVariables false
set_option linter.unusedSimpArgs false

attribute [local go_sem] max2_int min2_int max_two min_two max_three min_three max_four min_four
/-! ### tinderref05_EncodeInt: function 21 -/
def tinderref05_EncodeInt.l0 : Nat → Int → List Int → Int → Option (List Int)
  | 0, _, _, _ => none
  | k + 1, x0, x3, x4 => if x4 ≥ 0 then (if 0 ≤ (IntKind.u64.wrap (wrap64 (8 * x4))) then (if x3.length < 140737488355328 then (tinderref05_EncodeInt.l0 k x0 (x3 ++ [(Int.tmod (shr .u32 x0 (IntKind.u64.wrap (wrap64 (8 * x4)))) 256) % 256]) (wrap64 (x4 - 1))) else (none)) else (none)) else (some x3)
def tinderref05_EncodeInt.f (k : Nat) (a0 : Int) : Option (List Int) := tinderref05_EncodeInt.l0 k a0 ([] : List Int) 3

end Go.Proofs.YtlhnaplmphdhlaaDoor.Q
end
section
namespace Go.Proofs.YtlhnaplmphdhlaaDoor.Q
open Go.RowKit Go.Proofs.YtlhnaplmphdhlaaDoorW.PrintWords Go.Proofs.YtlhnaplmphdhlaaDoorW.PrintLast Go.Proofs.YtlhnaplmphdhlaaDoorW.PrintMore
set_option linter.unusedVariables false
set_option linter.unusedSimpArgs false

attribute [local go_sem] max2_int min2_int max_two min_two max_three min_three max_four min_four
/-! ### prop_EncodeInt: function 20 -/
def prop_EncodeInt.f (a0 : Int) : Option (List Int) := some (([(a0 / 16777216) % 256, (a0 / 65536) % 256, (a0 / 256) % 256, (a0) % 256] : List Int))
set_option maxHeartbeats 8000000 in
set_option maxRecDepth 100000 in
theorem prop_EncodeInt.calls (a0 : Int) (r : List Int) (w : World) (h : prop_EncodeInt.f a0 = some r) :
    Calls Tryd.prog 20 #[.int .u32 a0] w fun e w' => ∃ v0_ : Value, e = .returned (v0_) ∧ Kd.R (Kd.int .u8) 5 w' w.heap.size (fun _ => True) v0_ r ∧ Below w.heap.size w w' := by
  have HB := Aside0.mk (Below.refl w.heap.size w)
  have H : (some (([(a0 / 16777216) % 256, (a0 / 65536) % 256, (a0 / 256) % 256, (a0) % 256] : List Int))) = some r := h
  clear h
  obtain ⟨y21001, hy21001⟩ : ∃ y_ : List Int, y_ = (([(a0 / 16777216) % 256, (a0 / 65536) % 256, (a0 / 256) % 256, (a0) % 256] : List Int)) := ⟨_, rfl⟩
  replace H : (some y21001) = some r := by first | (rw [hy21001]; with_reducible exact H) | (have H2_ := (Option.bind_some _ _).symm.trans H; rw [hy21001]; with_reducible exact H2_) | (have H2_ := (Option.bind_some _ _).symm.trans H; with_reducible exact H2_) | with_reducible exact H | (rw [hy21001]; exact H) | exact H
  have Ny21001 := Aside0.mk hy21001
  clear hy21001
  obtain rfl := Option.some.inj H
  go_enter Tryd.func20, Tryd.ntmps20
  go_wp2_with (first | ((with_reducible refine gate_dst (N := 14) rfl ?_); refine Kd.R_lit (Kd.int .u8) _ 5 ?hg (N := 14) ?hd (xs := ([(a0 / 16777216) % 256, (a0 / 65536) % 256, (a0 / 256) % 256, (a0) % 256] : List Int)) (inner := [.int .u8 ((a0 / 16777216) % 256), .int .u8 ((a0 / 65536) % 256), .int .u8 ((a0 / 256) % 256), .int .u8 ((a0) % 256)]) (ok := fun _ => True) (okp := fun _ => True) ?hr ?hp (fun _ hk => hk) trivial (Below.refl _ _) (Nat.le_refl _) (by simp) ?_; (case hd => rfl); (case hg => rfl); (case hr => first | (go_simp; done) | (go_simp; rfl)); (case hp => exact (Reps.one (show Kd.M (Kd.int .u8) _ _ _ ((a0 / 16777216) % 256) [.int .u8 ((a0 / 16777216) % 256)] from rfl) (Reps.one (show Kd.M (Kd.int .u8) _ _ _ ((a0 / 65536) % 256) [.int .u8 ((a0 / 65536) % 256)] from rfl) (Reps.one (show Kd.M (Kd.int .u8) _ _ _ ((a0 / 256) % 256) [.int .u8 ((a0 / 256) % 256)] from rfl) (Reps.one (show Kd.M (Kd.int .u8) _ _ _ ((a0) % 256) [.int .u8 ((a0) % 256)] from rfl) (Reps.none _ _)))))); intro v21002 w2 ho3 hb hg_ hnew_; clear hg_ hnew_; (first | rw [← Ny21001.out] at ho3 | (simp only [Int.reduceToNat] at ho3; rw [← Ny21001.out] at ho3)); have n0_ := Aside0.mk (Kd.R_lower ho3 (below_size (by repeat (first | (with_reducible first | exact HB.out | apply below_alloc | apply pw_below_drewN | apply below_drew1) | exact HB.out)))); have n1_ := Aside0.mk (below_step (by repeat (first | (with_reducible first | exact HB.out | apply below_alloc | apply pw_below_drewN | apply below_drew1) | exact HB.out)) hb); clear HB; have HO21003 := n0_; have HB := n1_; clear n0_ n1_; clear hb ho3))
  go_ret
  exact ⟨_, by first | rfl | (simp [errW_none, errW_some] <;> rfl) | (simp [*, errW_none, errW_some] <;> rfl), by (with_reducible repeat (first | apply Kd.R_alloc | apply Kd.R_drewN | apply Kd.R_drew)); exact HO21003.out, by repeat (first | (with_reducible first | exact HB.out | apply below_alloc | apply pw_below_drewN | apply below_drew1) | exact HB.out)⟩

end Go.Proofs.YtlhnaplmphdhlaaDoor.Q
end
section
namespace Go.Proofs.YtlhnaplmphdhlaaDoor.Q
open Go.RowKit Go.Proofs.YtlhnaplmphdhlaaDoorW.PrintWords Go.Proofs.YtlhnaplmphdhlaaDoorW.PrintLast Go.Proofs.YtlhnaplmphdhlaaDoorW.PrintMore
set_option linter.unusedVariables false
set_option linter.unusedSimpArgs false

attribute [local go_sem] max2_int min2_int max_two min_two max_three min_three max_four min_four
/-! ### tinderref04_Same: function 19 -/
def tinderref04_Same.f (l0 : List Int) (l1 : List Int) : Option (Bool) := some ((strOfNums l0).toList == (strOfNums l1).toList)

end Go.Proofs.YtlhnaplmphdhlaaDoor.Q
end
section
set_option linter.unusedSimpArgs false
set_option linter.unusedVariables false
namespace Go.Proofs.YtlhnaplmphdhlaaDoor.Q
open Go.RowKit Go.Proofs.YtlhnaplmphdhlaaDoorW.PrintWords Go.Proofs.YtlhnaplmphdhlaaDoorW.PrintLast
def fourF (a : Int) : List Int := [(a / 16777216) % 256, (a / 65536) % 256, (a / 256) % 256, a % 256]
end Go.Proofs.YtlhnaplmphdhlaaDoor.Q
end
section
namespace Go.Proofs.YtlhnaplmphdhlaaDoor.Q
open Go.RowKit Go.Proofs.YtlhnaplmphdhlaaDoorW.PrintWords Go.Proofs.YtlhnaplmphdhlaaDoorW.PrintLast Go.Proofs.YtlhnaplmphdhlaaDoorW.PrintMore
set_option linter.unusedVariables false
set_option linter.unusedSimpArgs false

attribute [local go_sem] max2_int min2_int max_two min_two max_three min_three max_four min_four
/-! ### prop_DecodeInt: function 31 -/
def prop_DecodeInt.f (l0 : List Int) : Option (Int × List Int × Int) := if (l0.length : Int) < 4 then (some (0, ([] : List Int), 2)) else ((prop_number.f l0).bind fun t32001 => (if 4 ≤ (l0.length : Int) then ((slices_Clone_byte_byte.f (l0.drop 4)).bind fun t32003 => (some (t32001, t32003, 0))) else (none)))
def prop_DecodeInt.T3 : Bool × List (List Nat × List Nat) := (true, [([], []), ([0], [0]), ([], []), ([2], [2]), ([3, 1], [3]), ([1, 4, 0, 1], [1]), ([4, 5, 0, 1, 2, 3, 4, 5], [4]), ([6, 0, 1, 2, 3, 4, 5, 6], [])])
def prop_DecodeInt.B3 : List Nat := [0, 1, 0, 4, 15, 31, 63, 127]

end Go.Proofs.YtlhnaplmphdhlaaDoor.Q
end
section
namespace Go.Proofs.YtlhnaplmphdhlaaDoor.Q
open Go.RowKit Go.Proofs.YtlhnaplmphdhlaaDoorW.PrintWords Go.Proofs.YtlhnaplmphdhlaaDoorW.PrintLast Go.Proofs.YtlhnaplmphdhlaaDoorW.PrintMore
set_option linter.unusedVariables false
set_option linter.unusedSimpArgs false

attribute [local go_sem] max2_int min2_int max_two min_two max_three min_three max_four min_four
/-! ### tinderref04_Copy: function 30 -/
def tinderref04_Copy.f (l0 : List Int) : Option (List Int) := if ([] : List Int).length + l0.length < 140737488355328 then (some (([] : List Int) ++ l0)) else (none)

end Go.Proofs.YtlhnaplmphdhlaaDoor.Q
end
section
set_option linter.unusedSimpArgs false
set_option linter.unusedVariables false
namespace Go.Proofs.YtlhnaplmphdhlaaDoor.Q
open Go.RowKit Go.Proofs.YtlhnaplmphdhlaaDoorW.PrintWords Go.Proofs.YtlhnaplmphdhlaaDoorW.PrintLast Go.Proofs.YtlhnaplmphdhlaaDoorW.PrintMore
attribute [local go_sem] max2_int min2_int max_two min_two max_three min_three max_four min_four
theorem rd_B {L : List Int} (h : BytesL L) (i : Int) : 0 ≤ rd L i ∧ rd L i < 256 := by
  unfold rd
  rw [List.getD_eq_getElem?_getD]
  cases hx : L[i.toNat]? with
  | none => exact ⟨by decide, by decide⟩
  | some x => exact h x (List.mem_of_getElem? hx)
def dec (L : List Int) : Nat → Int
  | 0 => 0
  | k + 1 => dec L k * 256 + rd L (k : Int)
def intF (L : List Int) : Int × List Int × Int := if L.length < 4 then (0, [], 2) else (dec L 4, L.drop 4, 0)
theorem wrapu32 (n : Int) : IntKind.u32.wrap n = n % 4294967296 := by simp [IntKind.wrap, IntKind.bits, IntKind.signed]
theorem or_u32 (a b : Nat) (ha : a < 4294967296) (hb : b < 4294967296) : bits BinOp.or IntKind.u32 (a : Int) (b : Int) = ((a ||| b : Nat) : Int) := by
  have hx : a ||| b < 2 ^ 32 := Nat.or_lt_two_pow (by omega) (by omega)
  have h1 : (BitVec.ofInt 32 (a : Int)).toNat = a := by
    rw [BitVec.ofInt_natCast, BitVec.toNat_ofNat]; exact Nat.mod_eq_of_lt (by omega)
  have h2 : (BitVec.ofInt 32 (b : Int)).toNat = b := by
    rw [BitVec.ofInt_natCast, BitVec.toNat_ofNat]; exact Nat.mod_eq_of_lt (by omega)
  show IntKind.u32.wrap ((BitVec.ofInt 32 (a : Int) ||| BitVec.ofInt 32 (b : Int)).toNat : Int) = _
  rw [BitVec.toNat_or, h1, h2, wrapu32]
  omega
theorem or_four (a b c d : Int) (ha : 0 ≤ a ∧ a < 256) (hb : 0 ≤ b ∧ b < 256) (hc : 0 ≤ c ∧ c < 256) (hd : 0 ≤ d ∧ d < 256) : bits .or .u32 (bits .or .u32 (bits .or .u32 (((a % 4294967296) * 16777216) % 4294967296) (((b % 4294967296) * 65536) % 4294967296)) (((c % 4294967296) * 256) % 4294967296)) (d % 4294967296) = ((a * 256 + b) * 256 + c) * 256 + d := by
  obtain ⟨x, rfl⟩ := Int.eq_ofNat_of_zero_le ha.1
  obtain ⟨y, rfl⟩ := Int.eq_ofNat_of_zero_le hb.1
  obtain ⟨z, rfl⟩ := Int.eq_ofNat_of_zero_le hc.1
  obtain ⟨t, rfl⟩ := Int.eq_ofNat_of_zero_le hd.1
  have e1 : (((x : Int) % 4294967296) * 16777216) % 4294967296 = ((16777216 * x : Nat) : Int) := by omega
  have e2 : (((y : Int) % 4294967296) * 65536) % 4294967296 = ((65536 * y : Nat) : Int) := by omega
  have e3 : (((z : Int) % 4294967296) * 256) % 4294967296 = ((256 * z : Nat) : Int) := by omega
  have e4 : (t : Int) % 4294967296 = ((t : Nat) : Int) := by omega
  rw [e1, e2, e3, e4, or_u32 _ _ (by omega) (by omega)]
  have f1 : 16777216 * x ||| 65536 * y = 65536 * (256 * x + y) := by
    rw [show 16777216 * x = 2 ^ 24 * x by rfl, ← Nat.two_pow_add_eq_or_of_lt (show 65536 * y < 2 ^ 24 by omega)]
    omega
  rw [f1, or_u32 _ _ (by omega) (by omega)]
  have f2 : 65536 * (256 * x + y) ||| 256 * z = 256 * (65536 * x + 256 * y + z) := by
    rw [show 65536 * (256 * x + y) = 2 ^ 16 * (256 * x + y) by rfl, ← Nat.two_pow_add_eq_or_of_lt (show 256 * z < 2 ^ 16 by omega)]
    omega
  rw [f2, or_u32 _ _ (by omega) (by omega), show 256 * (65536 * x + 256 * y + z) = 2 ^ 8 * (65536 * x + 256 * y + z) by rfl, ← Nat.two_pow_add_eq_or_of_lt (show t < 2 ^ 8 by omega)]
  omega
theorem dec_four (L : List Int) : dec L 4 = ((rd L 0 * 256 + rd L 1) * 256 + rd L 2) * 256 + rd L 3 := by
  show (((0 * 256 + rd L 0) * 256 + rd L 1) * 256 + rd L 2) * 256 + rd L 3 = _
  omega
end Go.Proofs.YtlhnaplmphdhlaaDoor.Q
end
section
set_option linter.unusedSimpArgs false
set_option linter.unusedVariables false
namespace Go.Proofs.YtlhnaplmphdhlaaDoor.Q
open Go.RowKit Go.Proofs.YtlhnaplmphdhlaaDoorW.PrintWords Go.Proofs.YtlhnaplmphdhlaaDoorW.PrintLast Go.Proofs.YtlhnaplmphdhlaaDoorW.PrintMore
attribute [local go_sem] max2_int min2_int max_two min_two max_three min_three max_four min_four
def numsR : Nat → List Int → List Int
  | 0, _ => []
  | k + 1, M => dec M 4 :: numsR k (M.drop 4)
theorem drop_BL {L : List Int} (h : BytesL L) (n : Nat) : BytesL (L.drop n) := fun a ha => h a (List.mem_of_mem_drop ha)
/-- What the reference's DecodeText hands back: the rest is the argument's own cut. -/
def resV (A : Option Addr) (c : Nat) (L : List Int) : Value := if 0 ≤ zeroAt L then .tuple #[.string (strOfNums (L.take (zeroAt L).toNat)), .slice (cutAt A c (zeroAt L + 1).toNat 1) (L.drop (zeroAt L + 1).toNat).length (c - (zeroAt L + 1).toNat), .int .i64 0] else .tuple #[.string ⟨#[]⟩, .slice none 0 0, .int .i64 2]
def textsA : Nat → List Int → List ByteArray → Option (List ByteArray)
  | 0, M, acc => if M.length = 0 then some acc else none
  | k + 1, M, acc => if M.length = 0 then some acc else if 0 ≤ zeroAt M then textsA k (M.drop (zeroAt M + 1).toNat) (acc ++ [strOfNums (M.take (zeroAt M).toNat)]) else none
def resT : Option (List ByteArray) → List ByteArray × Int
  | some l => (l, 0)
  | none => ([], 15)
end Go.Proofs.YtlhnaplmphdhlaaDoor.Q
end
section
set_option linter.unusedSimpArgs false
set_option linter.unusedVariables false
namespace Go.Proofs.YtlhnaplmphdhlaaDoor.Q
open Go.RowKit Go.Proofs.YtlhnaplmphdhlaaDoorW.PrintWords Go.Proofs.YtlhnaplmphdhlaaDoorW.PrintLast
def piecesB (M : List Int) : List ByteArray := (cuts 0 (Lib.bytesOf M)).map fun l => ⟨l.toArray⟩
theorem bytesOf_take (M : List Int) (i : Nat) : Lib.bytesOf (M.take i) = (Lib.bytesOf M).take i := by unfold Lib.bytesOf; rw [List.map_take]
theorem str_mk (M : List Int) : strOfNums M = ⟨(Lib.bytesOf M).toArray⟩ := rfl
theorem app_BL {M N : List Int} (hM : BytesL M) (hN : BytesL N) : BytesL (M ++ N) := fun a ha => by
  rcases List.mem_append.1 ha with h | h
  · exact hM a h
  · exact hN a h
theorem split_cuts : ∀ (n : Nat) (S : ByteArray), S.size < n → Lib.splitB ⟨#[0]⟩ 0 (Lib.countB S ⟨#[0]⟩) S = (cuts 0 S.data.toList).map fun l => (⟨l.toArray⟩ : ByteArray)
  | 0, _, h => absurd h (by omega)
  | n + 1, S, h => by
    have hx : Lib.indexB S ⟨#[0]⟩ = Lib.indexByte S.data.toList 0 := Lib.index_one S.data.toList 0
    by_cases hz : Lib.indexByte S.data.toList 0 = -1
    · rw [Lib.countB_miss S ⟨#[0]⟩ (hx.trans hz), Lib.splitB_zero, cuts_none 0 hz]
      rw [List.map_cons, List.map_nil, mk_list]
    · have hg := Lib.indexByte_ge S.data.toList 0
      obtain ⟨o, ho⟩ := Int.eq_ofNat_of_zero_le (show 0 ≤ Lib.indexByte S.data.toList 0 by omega)
      have hlt : o < S.size := by
        have h1 := (Lib.indexByte_some ho).1
        have h2 := (List.getElem?_eq_some_iff.1 h1).1
        rw [data_length] at h2
        exact h2
      rw [Lib.countB_hit S ⟨#[0]⟩ o (by decide) (hx.trans ho), Nat.add_comm, Lib.splitB, hx, ho, if_neg (by simp), cuts_some 0 ho, List.map_cons]
      have e1 : ((o : Int).toNat + 0) = o := by omega
      have e2 : (o : Int).toNat + (⟨#[0]⟩ : ByteArray).size = o + 1 := by show (o : Int).toNat + 1 = _; omega
      have e3 : o + (⟨#[0]⟩ : ByteArray).size = o + 1 := rfl
      rw [e1, e2, e3, split_cuts n (S.extract (o + 1) S.size) (by rw [ByteArray.size_extract]; omega), extract_take, extract_drop]
end Go.Proofs.YtlhnaplmphdhlaaDoor.Q
end
section
set_option linter.unusedSimpArgs false
set_option linter.unusedVariables false
namespace Go.Proofs.YtlhnaplmphdhlaaDoor.Q
open Go.RowKit Go.Proofs.YtlhnaplmphdhlaaDoorW.PrintWords Go.Proofs.YtlhnaplmphdhlaaDoorW.PrintLast
theorem numsR_map : ∀ (m : Nat) (L : List Int), numsR m L = (List.range m).map fun k => dec (L.drop (4 * k)) 4
  | 0, _ => rfl
  | m + 1, L => by
    rw [numsR, numsR_map m (L.drop 4), List.range_succ_eq_map, List.map_cons, List.map_map]
    congr 1
    apply List.map_congr_left
    intro k _
    show dec ((L.drop 4).drop (4 * k)) 4 = dec (L.drop (4 * (k + 1))) 4
    rw [List.drop_drop]
    congr 2
    omega
theorem rd_take (L : List Int) (n : Nat) (i : Int) (h : i.toNat < n) : rd (L.take n) i = rd L i := by
  unfold rd
  rw [List.getD_eq_getElem?_getD, List.getD_eq_getElem?_getD, List.getElem?_take_of_lt h]
theorem num_dec (L : List Int) (hB : BytesL L) (k : Nat) : nv_numF (fourAt L k) = dec (L.drop (4 * k)) 4 := by
  have hB2 := drop_BL hB (4 * k)
  rw [dec_four]
  unfold nv_numF fourAt
  rw [rd_take _ 4 0 (by decide), rd_take _ 4 1 (by decide), rd_take _ 4 2 (by decide), rd_take _ 4 3 (by decide)]
  exact or_four _ _ _ _ (rd_B hB2 0) (rd_B hB2 1) (rd_B hB2 2) (rd_B hB2 3)
theorem nums_eq (L : List Int) (hB : BytesL L) : allNums L = numsR (L.length / 4) L := by
  rw [numsR_map]
  unfold allNums
  apply List.map_congr_left
  intro k _
  exact num_dec L hB k
/-- What Texts answers. -/
def textsG (L : List Int) : List ByteArray × Int := if L.length = 0 then ([], 0) else if rd L ((L.length - 1 : Nat) : Int) = 0 then (piecesB (L.take (L.length - 1)), 0) else ([], 15)
theorem suffix_last (L : List Int) (hB : BytesL L) : Lib.hasSuffix (strOfNums L).data.toList [0] = decide (L.length ≠ 0 ∧ rd L ((L.length - 1 : Nat) : Int) = 0) := by
  have e : (strOfNums L).data.toList = Lib.bytesOf L := rfl
  have e0 : ([0] : List UInt8) = Lib.bytesOf [0] := rfl
  rw [e, e0, ← Lib.bytes_hasSuffix]
  by_cases h0 : L.length = 0
  · simp [h0]
  · rw [decide_eq_true (show ([0] : List Int).length ≤ L.length by simp; omega), Bool.true_and]
    have hlen : ([0] : List Int).length = 1 := rfl
    rw [hlen]
    have hd : L.drop (L.length - 1) = [rd L ((L.length - 1 : Nat) : Int)] := by
      unfold rd
      rw [Int.toNat_natCast, List.getD_eq_getElem?_getD, List.getElem?_eq_getElem (by omega), Option.getD_some]
      rw [List.drop_eq_getElem_cons (by omega)]
      rw [List.drop_eq_nil_of_le (by omega)]
    rw [hd]
    have hb := rd_B hB ((L.length - 1 : Nat) : Int)
    generalize rd L ((L.length - 1 : Nat) : Int) = x at hb ⊢
    by_cases hx : x = 0
    · subst hx; simp [h0]
    · have : (Lib.bytesOf [x] == Lib.bytesOf [0]) = false := by
        apply beq_eq_false_iff_ne.2
        intro h
        unfold Lib.bytesOf at h
        simp only [List.map_cons, List.map_nil, List.cons.injEq, and_true] at h
        apply hx
        have h2 := congrArg UInt8.toNat h
        rw [UInt8.toNat_ofNat'] at h2
        simp at h2
        omega
      rw [this]
      simp [hx]
end Go.Proofs.YtlhnaplmphdhlaaDoor.Q
end
section
set_option linter.unusedSimpArgs false
set_option linter.unusedVariables false
namespace Go.Proofs.YtlhnaplmphdhlaaDoor.Q
open Go.RowKit Go.Proofs.YtlhnaplmphdhlaaDoorW.PrintWords Go.Proofs.YtlhnaplmphdhlaaDoorW.PrintLast Go.Proofs.YtlhnaplmphdhlaaDoorW.PrintMore
attribute [local go_sem] max2_int min2_int max_two min_two max_three min_three max_four min_four
theorem split_calls (T : ByteArray) (m : Int) (w : World) (hs : T.size < 4294967281) (hm : w.cell? ⟨0, 0, none⟩ = some (.int .i64 m)) :
    Calls Tryd.prog 50 #[.string T, .string ⟨#[0]⟩] w fun e w' => ∃ A c, e = .returned (.slice A (cuts 0 T.data.toList).length c) ∧ Kd.R Kd.string 9 w' w.heap.size (fun _ => True) (.slice A (cuts 0 T.data.toList).length c) ((cuts 0 T.data.toList).map fun l => (⟨l.toArray⟩ : ByteArray)) ∧ Below w.heap.size w w' := by
  have hx := split_cuts (T.size + 1) T (Nat.lt_succ_self _)
  have hl : Lib.countB T ⟨#[0]⟩ + 1 = (cuts 0 T.data.toList).length := by
    have h := congrArg List.length hx
    rw [List.length_map] at h
    rw [← h, Lib.splitB_all _ (by decide) _ _ _ rfl]
  have hc := cuts_len 0 T.data.toList
  have he : T.data.toList.length = T.size := Array.length_toList
  refine (Tryd.strings_Split T ⟨#[0]⟩ m w hs hm (by decide)).mono ?_
  rintro e w' ⟨rfl, rfl⟩
  rw [hl, hx]
  refine ⟨_, _, rfl, ?_, below_alloc (Below.refl _ _) _⟩
  have h := World.ownsRow_lit (base := w.heap.size) (e := 9) (size := 1) w (((cuts 0 T.data.toList).map fun l => (⟨l.toArray⟩ : ByteArray)).map Value.string).toArray (cuts 0 T.data.toList).length (Nat.le_refl _) (by unfold maxLen; omega) (by simp)
  refine Kd.R_of_own (xs := (cuts 0 T.data.toList).map fun l => (⟨l.toArray⟩ : ByteArray)) ?_ (fun _ _ => trivial)
  rw [List.length_map]
  exact h
set_option maxHeartbeats 4000000 in
set_option maxRecDepth 100000 in
theorem texts_calls (A : Option Addr) (c : Nat) (L : List Int) (m : Int) (w : World) (hC : Kd.C (Kd.int .u8) w A L.length L) (hc : L.length ≤ c) (hl : L.length ≤ 4000000) (hB : BytesL L) (hm : w.cell? ⟨0, 0, none⟩ = some (.int .i64 m)) :
    Calls Tryd.prog 26 #[.slice A L.length c] w fun e w' => ∃ v, e = .returned (.tuple #[v, .int .i64 (textsG L).2]) ∧ Kd.R Kd.string 9 w' w.heap.size (fun _ => True) v (textsG L).1 ∧ Below w.heap.size w w' := by
  have hsz : (strOfNums L).size = L.length := strOfNums_size L
  have HCS := Aside0.mk (fun W : World => Tryd.strings_CutSuffix (strOfNums L) ⟨#[0]⟩ W (by omega))
  have hsf := suffix_last L hB
  have HCV := Aside0.mk (fun (W : World) (hb : Below w.heap.size w W) => Kd.C_string (P := Tryd.prog) (A := A) (c := c) Tryd.underlying25 Tryd.underlying5 Tryd.underlying9 (Kd.C_below hC hb))
  have HB := Aside0.mk (Below.refl w.heap.size w)
  obtain ⟨S, hS⟩ : ∃ S, S = strOfNums L := ⟨_, rfl⟩
  obtain ⟨q, hq⟩ : ∃ q, q = (⟨(Lib.trimSuffix S.data.toList (⟨#[0]⟩ : ByteArray).data.toList).toArray⟩ : ByteArray) := ⟨_, rfl⟩
  obtain ⟨b, hb⟩ : ∃ b, b = Lib.hasSuffix S.data.toList (⟨#[0]⟩ : ByteArray).data.toList := ⟨_, rfl⟩
  rw [← hS] at HCS HCV hsf
  rw [← hq, ← hb] at HCS
  have hsf2 : b = decide (L.length ≠ 0 ∧ rd L ((L.length - 1 : Nat) : Int) = 0) := hb.trans hsf
  obtain ⟨n, hn⟩ : ∃ n, n = L.length := ⟨_, rfl⟩
  obtain ⟨G, hG⟩ : ∃ G, G = textsG L := ⟨_, rfl⟩
  rw [← hG]
  by_cases h0 : L.length = 0
  · have d1 : ((n : Int) == 0) = true := by rw [hn, h0]; rfl
    have HG := Aside0.mk (show G = ([], 0) by rw [hG]; unfold textsG; rw [if_pos h0])
    rw [← hn] at HCV ⊢
    clear hC hc hl hB hm hsf hsf2 hS hq hb hn hG h0 hsz
    have hcv := HCV.out w HB.out
    go_enter Tryd.func26, Tryd.ntmps26
    go_wp2_with (first | (go_at_call 49; (with_reducible refine (HCS.out _).mono ?_); rintro e w2 ⟨rfl, rfl⟩))
    go_ret2
    exact ⟨_, by rw [HG.out]; rfl, by rw [HG.out]; exact Kd.R_nil _ _ _ _ _, HB.out⟩
  · have d1 : ((n : Int) == 0) = false := by rw [hn]; exact beq_eq_false_iff_ne.2 (by omega)
    by_cases hz : rd L ((L.length - 1 : Nat) : Int) = 0
    · have hb1 : b = true := by rw [hsf2]; exact decide_eq_true ⟨h0, hz⟩
      have hq2 : q = strOfNums (L.take (L.length - 1)) := by
        rw [hq]
        unfold Lib.trimSuffix
        rw [← hb, hb1, if_pos rfl, str_mk, bytesOf_take, hS]
        have e1 : (strOfNums L).data.toList = Lib.bytesOf L := rfl
        have e2 : (Lib.bytesOf L).length = L.length := by unfold Lib.bytesOf; rw [List.length_map]
        rw [e1, e2]
        rfl
      have hqs : q.size < 4294967281 := by rw [hq2, strOfNums_size, List.length_take]; omega
      have HSP := Aside0.mk (split_calls q m w hqs hm)
      have hpi : ((cuts 0 q.data.toList).map fun l => (⟨l.toArray⟩ : ByteArray)) = piecesB (L.take (L.length - 1)) := by rw [hq2]; rfl
      have hlen : (cuts 0 q.data.toList).length = (piecesB (L.take (L.length - 1))).length := by rw [← hpi, List.length_map]
      rw [hpi, hlen] at HSP
      have HG := Aside0.mk (show G = (piecesB (L.take (L.length - 1)), 0) by rw [hG]; unfold textsG; rw [if_neg h0, if_pos hz])
      generalize piecesB (L.take (L.length - 1)) = P at HSP HG
      subst hb1
      rw [← hn] at HCV ⊢
      clear hC hc hl hB hm hsf hsf2 hS hq hb hn hG h0 hsz hz hq2 hqs hpi hlen
      have hcv := HCV.out w HB.out
      go_enter Tryd.func26, Tryd.ntmps26
      go_wp2_with (first
        | (go_at_call 49; (with_reducible refine (HCS.out _).mono ?_); rintro e w2 ⟨rfl, rfl⟩)
        | (go_at_call 50; (with_reducible refine HSP.out.mono ?_); rintro e w2 ⟨A2, c2, rfl, hR, hb⟩; have HR := Aside0.mk hR; have HB2 := Aside0.mk hb; clear hR hb))
      go_ret2
      exact ⟨_, by rw [HG.out]; rfl, by rw [HG.out]; exact HR.out, HB2.out⟩
    · have hb1 : b = false := by rw [hsf2]; exact decide_eq_false (fun h => hz h.2)
      have HG := Aside0.mk (show G = ([], 15) by rw [hG]; unfold textsG; rw [if_neg h0, if_neg hz])
      subst hb1
      rw [← hn] at HCV ⊢
      clear hC hc hl hB hm hsf hsf2 hS hq hb hn hG h0 hsz hz
      have hcv := HCV.out w HB.out
      go_enter Tryd.func26, Tryd.ntmps26
      go_wp2_with (first | (go_at_call 49; (with_reducible refine (HCS.out _).mono ?_); rintro e w2 ⟨rfl, rfl⟩))
      go_ret2
      exact ⟨_, by rw [HG.out]; rfl, by rw [HG.out]; exact Kd.R_nil _ _ _ _ _, HB.out⟩
end Go.Proofs.YtlhnaplmphdhlaaDoor.Q
end
