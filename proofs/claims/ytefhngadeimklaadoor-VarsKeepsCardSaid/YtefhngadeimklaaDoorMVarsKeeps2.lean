/- Contracts of Go functions and plain facts, of several texts, one behind the other; no condition. -/
import Derived.Test.YtefhngadeimklaaDoorProg
import Derived.Below
import Derived.Deep.Draws
import Derived.Deep.AppendLies
import Derived.Maps.AppendAt
import Derived.OwnWalk
import Derived.Laws.BytesArg
import Derived.Laws.MakeOwn
import Derived.Laws.OwnMore
import Derived.Deep.OwnRows
import Derived.Tactics
import Derived.Lib.ConvBytes
import Derived.Laws.Slices
import Derived.WalkKit
import Derived.KernelRfl
import Derived.RowKit3
import Derived.Deep.LoopGhost
import Derived.Deep.QuietTactic
import Derived.BigQuiet
import Derived.WideLaws
import Derived.Deep.DeepCutAuto
import Derived.Deep.CutBlock
import Derived.Deep.RegionHeld3
import Derived.Laws.Rows
import Derived.Lib.AppendStr
import Derived.ArgAppend
import Derived.Laws.IdiomCopy
import Derived.OrdersHeld
import Derived.Laws.BitsLemmas
import Derived.RowKit
import Derived.Test.YtefhngadeimklaaDoorMVarsKeeps1
import Derived.Test.YtefhngadeimklaaDoorRows
import Derived.Lib.LaidTab
import Derived.LaidMore
import Derived.ProofKit
import Derived.OpenShut
import Derived.MakeChecks
import Derived.Stop.LaidErr
import Derived.WalkSpells
import Derived.Laws.CopyOwn
import Derived.Lib.Overlaps
import Derived.Laws.Externs
import Derived.Shelf.RegionOpenPlain
import Derived.Lib.AppendZerosOnto
import Derived.Lib.Strings
import Derived.Shelf.Small.Wraps
import Derived.Shelf.Strconv.Itoa0
import Derived.Shelf.Strconv.Itoa1
import Derived.Shelf.LaysM
import Derived.Shelf.Strconv.Itoa2
import Derived.Shelf.Strings.Search1
import Derived.Shelf.Strings.Search2
import Derived.Shelf.Strings.Cut
import Derived.Shelf.Strings.Shaped
import Derived.Shelf.Strings.Prefix
import Derived.Lib.AppendIntMem
section
namespace Go.Proofs.YtefhngadeimklaaDoor.Q
open Go.RowKit Go.Proofs.YtefhngadeimklaaDoorW.PrintWords Go.Proofs.YtefhngadeimklaaDoorW.PrintLast Go.Proofs.YtefhngadeimklaaDoorW.PrintMore
set_option linter.unusedVariables false
set_option linter.unusedSimpArgs false

def errW : Option Int → Value
  | none => .nilIface
  | some c => .iface 0 (.int .i64 c)
theorem errW_none : errW none = .nilIface := rfl
theorem errW_some (c : Int) : errW (some c) = .iface 0 (.int .i64 c) := rfl

theorem info40 : (Tryd.prog.info? 40).map (fun i => (i.zero, i.size, i.bytes)) = some (some (.agg #[(.string ⟨#[]⟩), (.string ⟨#[]⟩)]), 2, 32) := by kernel_rfl
-- the values' own types
/-! #### struct type 7 -/
structure S7 where
  f0 : Int
  f1 : Int
  f2 : Bool
  f3 : Int
def z7 : S7 := ⟨(0 : Int), (0 : Int), false, (0 : Int)⟩
def k7 : Kd S7 := Kd.iso (Kd.pair (Kd.int .i64) (Kd.pair (Kd.int .i64) (Kd.pair Kd.bool (Kd.int .u8)))) (fun x : S7 => (x.f0, x.f1, x.f2, x.f3))
def rd_T7 (xs : List S7) (i : Int) : S7 := xs.getD i.toNat z7

/-! #### struct type 8 -/
structure S8 where
  f0 : Int
  f1 : Int
  f2 : Bool
  f3 : Int
def z8 : S8 := ⟨(0 : Int), (0 : Int), false, (0 : Int)⟩
def k8 : Kd S8 := Kd.iso (Kd.pair (Kd.int .i64) (Kd.pair (Kd.int .i64) (Kd.pair Kd.bool (Kd.int .u8)))) (fun x : S8 => (x.f0, x.f1, x.f2, x.f3))
def rd_T8 (xs : List S8) (i : Int) : S8 := xs.getD i.toNat z8

/-! #### struct type 13 -/
structure S13 where
  f0 : ByteArray
  f1 : Int
def z13 : S13 := ⟨(⟨#[]⟩ : ByteArray), (0 : Int)⟩
def k13 : Kd S13 := Kd.iso (Kd.pair Kd.string (Kd.int .u64)) (fun x : S13 => (x.f0, x.f1))
def rd_T13 (xs : List S13) (i : Int) : S13 := xs.getD i.toNat z13

/-! #### struct type 14 -/
structure S14 where
  f0 : ByteArray
  f1 : Int
def z14 : S14 := ⟨(⟨#[]⟩ : ByteArray), (0 : Int)⟩
def k14 : Kd S14 := Kd.iso (Kd.pair Kd.string (Kd.int .u64)) (fun x : S14 => (x.f0, x.f1))
def rd_T14 (xs : List S14) (i : Int) : S14 := xs.getD i.toNat z14

/-! #### struct type 40 -/
structure S40 where
  f0 : ByteArray
  f1 : ByteArray
def z40 : S40 := ⟨(⟨#[]⟩ : ByteArray), (⟨#[]⟩ : ByteArray)⟩
def k40 : Kd S40 := Kd.iso (Kd.pair Kd.string Kd.string) (fun x : S40 => (x.f0, x.f1))
theorem k40_open {w : World} {x : S40} {cs : List Value} (h : k40.K w x cs) : cs = [.string x.f0, .string x.f1] := by
  obtain ⟨_, _, rfl, rfl, rfl⟩ := h
  exact rfl
theorem k40_openM {w : World} {base : Nat} {ok : Nat → Prop} {x : S40} {cs : List Value} (h : k40.M w base ok x cs) : cs = [.string x.f0, .string x.f1] := by
  obtain ⟨_, _, rfl, rfl, rfl⟩ := h
  exact rfl
theorem k40_mk (w : World) (x : S40)  : k40.K w x [.string x.f0, .string x.f1] := ⟨[.string x.f0], [.string x.f1], rfl, rfl, rfl⟩
theorem k40_mkM (w : World) (base : Nat) (ok : Nat → Prop) (x : S40)  : k40.M w base ok x [.string x.f0, .string x.f1] := ⟨[.string x.f0], [.string x.f1], rfl, rfl, rfl⟩
def rd_T40 (xs : List S40) (i : Int) : S40 := xs.getD i.toNat z40
theorem at_T40 {w : World} {A : Option Addr} {n : Nat} {xs : List S40} (h : Kd.C k40 w A n xs) (i : Int) (h0 : 0 ≤ i) (h1 : i < n) : ∃ ad , A = some ad ∧ w.cell? (ad.add (i.toNat * 2)) = some (.string (rd_T40 xs i).f0) ∧ w.cell? ⟨(ad.add (i.toNat * 2)).block, (ad.add (i.toNat * 2)).off + 1, none⟩ = some (.string (rd_T40 xs i).f1) := by
  obtain ⟨ad, c, e, _, hK, hc0⟩ := Kd.C_get h z40 i h0 h1
  have hc : ∀ j u, c[j]? = some u → w.cell? (ad.add (i.toNat * 2 + j)) = some u := hc0
  obtain rfl := k40_open hK
  exact ⟨ad, e, hc 0 _ rfl, by rw [← add_field _ _ 1 (by omega)]; exact hc 1 _ rfl⟩

def rd_L11 (xs : List (List S40)) (i : Int) : (List S40) := xs.getD i.toNat ([] : List S40)

def rd_L12 (xs : List (List ByteArray)) (i : Int) : (List ByteArray) := xs.getD i.toNat ([] : List ByteArray)

/-! #### struct type 39 -/
structure S39 where
  f0 : ByteArray
  f1 : ByteArray
def z39 : S39 := ⟨(⟨#[]⟩ : ByteArray), (⟨#[]⟩ : ByteArray)⟩
def k39 : Kd S39 := Kd.iso (Kd.pair Kd.string Kd.string) (fun x : S39 => (x.f0, x.f1))
def rd_T39 (xs : List S39) (i : Int) : S39 := xs.getD i.toNat z39

def rd_L14 (xs : List (List Int)) (i : Int) : (List Int) := xs.getD i.toNat ([] : List Int)

/-! #### struct type 84 -/
structure S84 where
  f0 : Int
  f1 : Int
def z84 : S84 := ⟨(0 : Int), (0 : Int)⟩
def k84 : Kd S84 := Kd.iso (Kd.pair (Kd.int .i64) (Kd.int .u8)) (fun x : S84 => (x.f0, x.f1))
def rd_T84 (xs : List S84) (i : Int) : S84 := xs.getD i.toNat z84

def rd_L16 (xs : List (List S84)) (i : Int) : (List S84) := xs.getD i.toNat ([] : List S84)

/-! #### struct type 56 -/
structure S56 where
  f0 : ByteArray
  f1 : Int
  f2 : ByteArray
def z56 : S56 := ⟨(⟨#[]⟩ : ByteArray), (0 : Int), (⟨#[]⟩ : ByteArray)⟩
def k56 : Kd S56 := Kd.iso (Kd.pair Kd.string (Kd.pair (Kd.int .i64) Kd.string)) (fun x : S56 => (x.f0, x.f1, x.f2))
def rd_T56 (xs : List S56) (i : Int) : S56 := xs.getD i.toNat z56

/-! #### struct type 57 -/
structure S57 where
  f0 : ByteArray
  f1 : Int
  f2 : ByteArray
def z57 : S57 := ⟨(⟨#[]⟩ : ByteArray), (0 : Int), (⟨#[]⟩ : ByteArray)⟩
def k57 : Kd S57 := Kd.iso (Kd.pair Kd.string (Kd.pair (Kd.int .i64) Kd.string)) (fun x : S57 => (x.f0, x.f1, x.f2))
theorem k57_open {w : World} {x : S57} {cs : List Value} (h : k57.K w x cs) : cs = [.string x.f0, .int .i64 x.f1, .string x.f2] := by
  obtain ⟨_, _, rfl, rfl, ⟨_, _, rfl, rfl, rfl⟩⟩ := h
  exact rfl
theorem k57_mkM (w : World) (base : Nat) (ok : Nat → Prop) (x : S57)  : k57.M w base ok x [.string x.f0, .int .i64 x.f1, .string x.f2] := ⟨[.string x.f0], [.int .i64 x.f1, .string x.f2], rfl, rfl, ⟨[.int .i64 x.f1], [.string x.f2], rfl, rfl, rfl⟩⟩
def rd_T57 (xs : List S57) (i : Int) : S57 := xs.getD i.toNat z57
theorem at_T57 {w : World} {A : Option Addr} {n : Nat} {xs : List S57} (h : Kd.C k57 w A n xs) (i : Int) (h0 : 0 ≤ i) (h1 : i < n) : ∃ ad , A = some ad ∧ w.cell? (ad.add (i.toNat * 3)) = some (.string (rd_T57 xs i).f0) ∧ w.cell? ⟨(ad.add (i.toNat * 3)).block, (ad.add (i.toNat * 3)).off + 1, none⟩ = some (.int .i64 (rd_T57 xs i).f1) ∧ w.cell? ⟨(ad.add (i.toNat * 3)).block, (ad.add (i.toNat * 3)).off + 2, none⟩ = some (.string (rd_T57 xs i).f2) := by
  obtain ⟨ad, c, e, _, hK, hc0⟩ := Kd.C_get h z57 i h0 h1
  have hc : ∀ j u, c[j]? = some u → w.cell? (ad.add (i.toNat * 3 + j)) = some u := hc0
  obtain rfl := k57_open hK
  exact ⟨ad, e, hc 0 _ rfl, by rw [← add_field _ _ 1 (by omega)]; exact hc 1 _ rfl, by rw [← add_field _ _ 2 (by omega)]; exact hc 2 _ rfl⟩

def rd_L20 (xs : List (List S57)) (i : Int) : (List S57) := xs.getD i.toNat ([] : List S57)

/-! #### struct type 83 -/
structure S83 where
  f0 : Int
  f1 : Int
def z83 : S83 := ⟨(0 : Int), (0 : Int)⟩
def k83 : Kd S83 := Kd.iso (Kd.pair (Kd.int .i64) (Kd.int .u8)) (fun x : S83 => (x.f0, x.f1))
def rd_T83 (xs : List S83) (i : Int) : S83 := xs.getD i.toNat z83

end Go.Proofs.YtefhngadeimklaaDoor.Q
end
section
set_option linter.unusedVariables false
namespace Go.Proofs.YtefhngadeimklaaDoor.Q
open Go.ChangeShapes Go.WideShapes Go.ChangeAt Go.RowKit
def laidL : List (String × DataW Unit) := Rows.varsSetsRow.laid
theorem door_met (os : Os) (args : Array Value) : laidMetH Tryd.prog laidL ((World.doorLaid Tryd.prog 24 os).forCall (fun _ _ => 0) ⟨#[], args, []⟩).memory :=
  laidMetH_of_parts3 (fuel := 8) (laidMet_of_run' 8 (by kernel_rfl) (by kernel_rfl)) (by kernel_rfl) (by kernel_rfl)
def tab_bits_deBruijn32tab : List Int := [0, 1, 28, 2, 29, 14, 24, 3, 30, 22, 20, 15, 25, 17, 4, 8, 31, 27, 13, 23, 21, 19, 16, 7, 26, 12, 18, 6, 11, 5, 10, 9]
def tab_bits_deBruijn64tab : List Int := [0, 1, 56, 2, 57, 49, 28, 3, 61, 58, 42, 50, 38, 29, 17, 4, 62, 47, 59, 36, 45, 43, 51, 22, 53, 39, 33, 30, 24, 18, 12, 5, 63, 55, 48, 27, 60, 41, 37, 16, 46, 35, 44, 21, 52, 32, 23, 11, 54, 26, 40, 15, 34, 20, 31, 10, 25, 14, 19, 9, 13, 8, 7, 6]
def tab_strconv_uint64pow10 : List Int := [1, 10, 100, 1000, 10000, 100000, 1000000, 10000000, 100000000, 1000000000, 10000000000, 100000000000, 1000000000000, 10000000000000, 100000000000000, 1000000000000000, 10000000000000000, 100000000000000000, 1000000000000000000, 10000000000000000000]
structure Tabs (w : World) : Prop where
  bits_deBruijn32tab : Lib.TabIs Tryd.prog w "math/bits.deBruijn32tab" .u8 tab_bits_deBruijn32tab
  bits_deBruijn64tab : Lib.TabIs Tryd.prog w "math/bits.deBruijn64tab" .u8 tab_bits_deBruijn64tab
  strconv_uint64pow10 : Lib.TabIs Tryd.prog w "internal/strconv.uint64pow10" .u64 tab_strconv_uint64pow10
theorem tabs_of_laid {W : World} (h : laidMetH Tryd.prog laidL W) : Tabs W := by
  rw [MakeChecks.laidMetH_plain _ _ _ (by kernel_rfl)] at h
  refine ⟨?_, ?_, ?_⟩
  · exact Lib.tabIs_of_head (g := 2) (t := 133) (e := 5) (n := 32) (by kernel_rfl) (by kernel_rfl) Tryd.underlying133 Tryd.underlying5 (by kernel_rfl) (by kernel_rfl) (show laidMet Tryd.prog ((_, Lib.tabData _ _) :: _) W from h)
  · exact Lib.tabIs_of_head (g := 3) (t := 134) (e := 5) (n := 64) (by kernel_rfl) (by kernel_rfl) Tryd.underlying134 Tryd.underlying5 (by kernel_rfl) (by kernel_rfl) (show laidMet Tryd.prog ((_, Lib.tabData _ _) :: _) W from h.tail)
  · exact Lib.tabIs_of_head (g := 1) (t := 128) (e := 87) (n := 20) (by kernel_rfl) (by kernel_rfl) Tryd.underlying128 Tryd.underlying87 (by kernel_rfl) (by kernel_rfl) (show laidMet Tryd.prog ((_, Lib.tabData _ _) :: _) W from h.tail.tail)
theorem var_below {P : Program} {g : Nat} {W W' : World} {n : String} {cs : Array Value} (h : Below W.heap.size W W') (hg : P.globalNamed n = some g) (hv : W.var? P n = some cs) : W'.var? P n = some cs := by
  unfold World.var? at hv ⊢
  simp only [hg, Option.bind_some] at hv ⊢
  rw [h.block g (by
    rcases Nat.lt_or_ge g W.heap.size with h1 | h1
    · exact h1
    · rw [Array.getElem?_eq_none h1] at hv
      simp at hv)]
  exact hv
theorem Tabs.below {w w1 : World} (h : Tabs w) (hb : Below w.heap.size w w1) : Tabs w1 :=
  ⟨var_below hb (g := 2) (by kernel_rfl) h.bits_deBruijn32tab, var_below hb (g := 3) (by kernel_rfl) h.bits_deBruijn64tab, var_below hb (g := 1) (by kernel_rfl) h.strconv_uint64pow10⟩
end Go.Proofs.YtefhngadeimklaaDoor.Q
end
section
namespace Go.Proofs.YtefhngadeimklaaDoor.Q
open Go.RowKit Go.Proofs.YtefhngadeimklaaDoorW.PrintWords Go.Proofs.YtefhngadeimklaaDoorW.PrintLast Go.Proofs.YtefhngadeimklaaDoorW.PrintMore
/-- A literal without elements is a row of the call's own. -/
theorem R_empty {α : Type} (d : Kd α) (e : Nat) (W : World) (base : Nat) (hb : base ≤ W.heap.size) : d.R e (W.alloc (.cells #[] e)) base (fun _ => True) (.slice (some ⟨W.heap.size, 0, none⟩) 0 0) [] :=
  ⟨fun _ _ => trivial, [], by have h := World.ownsRow_lit (base := base) (e := e) (size := d.sz) W #[] 0 hb (Nat.zero_le _) (by simp); simpa using h, Reps.none _ _⟩
theorem C_nil_eq {α : Type} {d : Kd α} {w : World} {n : Nat} {xs : List α} (h : d.C w none n xs) : xs = [] := by
  rcases Nat.eq_zero_or_pos n with h0 | h0
  · exact List.eq_nil_of_length_eq_zero (h.1.trans h0)
  · obtain ⟨ad, he, _⟩ := h.2.2 h0
    cases he
theorem Addr_add_zero (a : Addr) : a.add 0 = a := by
  cases a with | mk b o s => unfold Addr.add; split <;> simp_all
/-- Where a cut from 'lo' on begins. -/
def cutAt (A : Option Addr) (cap lo sz : Nat) : Option Addr := if cap = lo then A else A.map (·.add (lo * sz))
theorem cutAt_own {g cap lo sz : Nat} (h : lo < cap) : cutAt (some ⟨g, 0, none⟩) cap lo sz = some ⟨g, lo * sz, none⟩ := by
  unfold cutAt
  rw [if_neg (by omega)]
  simp [add_plain]
theorem sliced_eq (A : Option Addr) (lo hi cap s : Nat) : sliced A lo hi cap s = .slice (cutAt A cap lo s) (hi - lo) (cap - lo) := by
  simp [sliced, cutAt]
section
variable {P : Program} {t e : TypeId} {sz : Nat}
theorem run_size (hi : (P.info? e).map (·.size) = some sz) (W : World) : (sizeOf e).run P W = .ok sz W := by
  obtain ⟨i, h1, h2⟩ := Option.map_eq_some_iff.1 hi
  subst h2
  rw [run_sizeOf W h1]; simp [Program.cellsOf, h1]
theorem run_cut_lo (ht : P.underlying t = some (.slice e)) (hi : (P.info? e).map (·.size) = some sz) (A : Option Addr) (n c : Nat) (j : Int) (h0 : 0 ≤ j) (hm : j ≤ n) (W : World) :
    (Instr.slice t (.slice A n c) (some (.int .i64 j)) none none).run P W = .ok (.slice (cutAt A c j.toNat sz) (n - j.toNat) (c - j.toNat)) W := by
  have hel : P.elem t = e := by simp [Program.elem, ht]
  rw [run_slice_l W t A n c (by rw [hel]; exact ht) .i64 j h0 hm, hel, run_size hi]
  simp [Result.andThen, sliced_eq]
theorem run_cut_hi (ht : P.underlying t = some (.slice e)) (hi : (P.info? e).map (·.size) = some sz) (A : Option Addr) (n c : Nat) (j : Int) (h0 : 0 ≤ j) (hm : j ≤ c) (W : World) :
    (Instr.slice t (.slice A n c) none (some (.int .i64 j)) none).run P W = .ok (.slice A j.toNat c) W := by
  have hel : P.elem t = e := by simp [Program.elem, ht]
  rw [run_slice_h W t A n c (by rw [hel]; exact ht) .i64 j h0 hm, hel, run_size hi]
  simp [Result.andThen, sliced_eq, cutAt]
  intro _
  cases A <;> simp [Addr_add_zero]
end
/-! copy -/
section
variable {P : Program} {ops : Array Oper} {rest : List Oper} {o : Oper} {a : Act} {Q : Exit → Act → World → Prop}
end
/-! rows whose elements lead nowhere -/
section
variable {α : Type} {d : Kd α} {e base : Nat} {ok : Nat → Prop} {W w1 : World} {v : Value} {xs : List α}
end
end Go.Proofs.YtefhngadeimklaaDoor.Q
end
section
namespace Go.Proofs.YtefhngadeimklaaDoor.Q
open Go.RowKit Go.Proofs.YtefhngadeimklaaDoorW.PrintWords Go.Proofs.YtefhngadeimklaaDoorW.PrintLast Go.Proofs.YtefhngadeimklaaDoorW.PrintMore
set_option linter.unusedVariables false
attribute [local go_sem] max2_int min2_int max_two min_two max_three min_three max_four min_four
set_option maxHeartbeats 1000000 in
theorem named_calls (s : ByteArray) (w : World) :
    Calls Tryd.prog 40 #[.string s] w fun e w' => ∃ gb, e = .returned (.func (.func 58) #[] #[.pointer (some ⟨gb, 0, none⟩)]) ∧ w.heap.size ≤ gb ∧ w'.heap[gb]? = some (.cells #[.string s] 9 (0, 0)) ∧ Below w.heap.size w w' := by
  have HB := Aside0.mk (Below.refl w.heap.size w)
  go_enter Tryd.func40, Tryd.ntmps40
  go_wp2_with (first
    | ((with_reducible refine gate_dst (N := 1) rfl ?_); refine box_event ?hg (N := 1) ?hd (cs := #[.string s]) (t := 9) ?hr ?_; (case hd => rfl); (case hg => rfl); (case hr => first | (go_simp; done) | (go_simp; rfl)); intro gb hg w1 hbox hb; have BK := Aside0.mk hbox; have HB := Aside0.mk hb; have GB := Aside0.mk (show w.heap.size ≤ gb from hg ▸ Nat.le_refl _); clear hbox hb hg))
  go_ret
  exact ⟨gb, rfl, GB.out, BK.out, HB.out⟩
set_option maxHeartbeats 1000000 in
theorem namedC_calls (x : S40) (s : ByteArray) (gb : Nat) (w : World) (hh : w.heap[gb]? = some (.cells #[.string s] 9 (0, 0))) :
    Calls Tryd.prog 58 #[.agg #[.string x.f0, .string x.f1], .pointer (some ⟨gb, 0, none⟩)] w fun e w' => e = .returned (.bool (x.f0.toList == s.toList)) ∧ Below w.heap.size w w' := by
  have hu40 := Tryd.underlying40
  have hlt : gb < w.heap.size := by
    rw [Array.getElem?_eq_some_iff] at hh
    exact hh.1
  have HB := Aside0.mk (Below.refl w.heap.size w)
  have HH := Aside0.mk hh
  have HLT := Aside0.mk hlt
  clear hh hlt
  go_enter Tryd.func58, Tryd.ntmps58
  go_wp2_with (first
    | ((with_reducible refine gate_dst (N := 2) rfl ?_); refine box_event ?hg (N := 2) ?hd (cs := #[.string x.f0, .string x.f1]) (t := 40) ?hr ?_; (case hd => rfl); (case hg => rfl); (case hr => first | (go_simp; done) | (go_simp; rfl)); intro ga hg w1 hbox hb; have BK := Aside0.mk hbox; have hz0 := (blk_cell BK.out 0).trans rfl; have hz1 := (blk_cell BK.out 1).trans rfl; have hf0 := blk_frozen BK.out 0; have hf1 := blk_frozen BK.out 1; have hz2 : w1.cell? ⟨gb, 0, none⟩ = some (.string s) := (hb.cell (p := ⟨gb, 0, none⟩) HLT.out).trans ((blk_cell HH.out 0).trans rfl); have HB := Aside0.mk hb; clear hbox hb hg))
  go_ret
  exact ⟨rfl, HB.out⟩
/-- The first place of a name; -1: none. -/
def idxN (s : ByteArray) : List S40 → Int
  | [] => -1
  | x :: r => if x.f0.toList = s.toList then 0 else if idxN s r < 0 then -1 else idxN s r + 1
theorem idxN_range (s : ByteArray) : ∀ l : List S40, -1 ≤ idxN s l ∧ idxN s l < l.length
  | [] => ⟨Int.le_refl _, by simp [idxN]⟩
  | x :: r => by
    have ih := idxN_range s r
    unfold idxN
    rw [List.length_cons]
    split
    · omega
    · split <;> omega
theorem idxN_drop (s : ByteArray) : ∀ (l : List S40) (i : Nat), (∀ j, j < i → (rd_T40 l j).f0.toList ≠ s.toList) → idxN s l = if idxN s (l.drop i) < 0 then -1 else idxN s (l.drop i) + i
  | l, 0, _ => by
    have := idxN_range s l
    rw [List.drop_zero]
    split <;> omega
  | [], i + 1, _ => by simp [idxN]
  | x :: r, i + 1, h => by
    have ih := idxN_drop s r i (fun j hj => by
      have := h (j + 1) (by omega)
      rw [show ((j + 1 : Nat) : Int) = ((j + 1 : Nat) : Int) from rfl] at this
      simpa [rd_T40] using this)
    have h0 : x.f0.toList ≠ s.toList := by simpa [rd_T40] using h 0 (by omega)
    have hr := idxN_range s (r.drop i)
    rw [List.drop_succ_cons, idxN, if_neg h0, ih]
    by_cases hq : idxN s (List.drop i r) < 0
    · simp [hq]
    · simp only [hq, if_false]
      rw [if_neg (by omega)]
      omega
set_option maxHeartbeats 2000000 in
set_option maxRecDepth 100000 in
theorem indexNamed_calls (s : ByteArray) (gb : Nat) (A : Option Addr) (c : Nat) (l : List S40) (w : World) (hC : Kd.C k40 w A l.length l) (hh : w.heap[gb]? = some (.cells #[.string s] 9 (0, 0))) :
    Calls Tryd.prog 41 #[.slice A l.length c, .func (.func 58) #[] #[.pointer (some ⟨gb, 0, none⟩)]] w fun e w' => e = .returned (.int .i64 (idxN s l)) ∧ Below w.heap.size w w' := by
  have hu40 := Tryd.underlying40
  have hlt : gb < w.heap.size := by
    rw [Array.getElem?_eq_some_iff] at hh
    exact hh.1
  have HC := Aside0.mk hC
  have HH := Aside0.mk hh
  have HLT := Aside0.mk hlt
  have HF := Aside0.mk (fun (x : S40) (W : World) (hb : Below w.heap.size w W) => namedC_calls x s gb W (by rw [hb.block gb hlt]; exact hh))
  clear hC hh hlt
  go_enter Tryd.func41, Tryd.ntmps41
  go_wp2
  go_loopg [8] l.length (fun kq v8 w' => ∃ i : Int, v8 = .int .i64 i ∧ Aside0 (0 ≤ i ∧ i + kq = l.length) ∧ Aside0 (∀ j : Nat, j < i.toNat → (rd_T40 l j).f0.toList ≠ s.toList) ∧ Aside0 (Below w.heap.size w w'))
  case atStart => exact ⟨0, rfl, ⟨by omega, by omega⟩, ⟨fun j hj => absurd hj (by simp)⟩, ⟨Below.refl _ _⟩⟩
  case round =>
    obtain ⟨i, rfl, HI, HZ, HB⟩ := hrel
    cases gk with
    | zero =>
      have hlt : decide (i < (l.length : Int)) = false := decide_eq_false (by have := HI.out; omega)
      go_wp2
      go_ret
      have hz := HZ.out
      have hi := HI.out
      refine ⟨?_, HB.out⟩
      rw [idxN_drop s l i.toNat hz, List.drop_eq_nil_of_le (by omega)]
      rfl
    | succ k1 =>
      have hi := HI.out
      have hm := Kd.C_max HC.out
      have hlt : decide (i < (l.length : Int)) = true := decide_eq_true (by omega)
      have p1 : (0 ≤ i) = True := eq_true (by omega)
      have p2 : (i < (l.length : Int)) = True := eq_true (by omega)
      obtain ⟨ad, eA, hx0, hx1⟩ := at_T40 (Kd.C_below HC.out HB.out) i (by omega) (by omega)
      cases eA
      have HIN := Aside0.mk (show (rd_T40 l i).f0.toList = s.toList → idxN s l = i from fun h => by
        rw [idxN_drop s l i.toNat HZ.out, List.drop_eq_getElem_cons (show i.toNat < l.length by omega)]
        have hg : l[i.toNat]'(by omega) = rd_T40 l i := by simp [rd_T40, List.getD_eq_getElem?_getD, List.getElem?_eq_getElem (show i.toNat < l.length by omega)]
        rw [hg, idxN, if_pos h, if_neg (by omega)]
        omega)
      have hwr : IntKind.i64.wrap (i + 1) = i + 1 := (i64_w _).trans (by unfold wrap64; omega)
      have hwr2 : wrap64 (i + 1) = i + 1 := by unfold wrap64; omega
      clear hi hm
      by_cases hz : (rd_T40 l i).f0.toList = s.toList
      · have hzb : ((rd_T40 l i).f0.toList == s.toList) = true := beq_iff_eq.2 hz
        go_wp2_with (first
          | (go_at_call 58; (with_reducible refine (HF.out (rd_T40 l i) _ HB.out).mono ?_); rintro e w2 ⟨rfl, hb⟩; have HB2 := Aside0.mk (below_step HB.out hb); clear hb))
        go_ret
        exact ⟨by rw [HIN.out hz]; rfl, HB2.out⟩
      · have hzb : ((rd_T40 l i).f0.toList == s.toList) = false := beq_eq_false_iff_ne.2 hz
        have HZN := Aside0.mk hz
        clear hz
        go_wp2_with (first
          | (go_at_call 58; (with_reducible refine (HF.out (rd_T40 l i) _ HB.out).mono ?_); rintro e w2 ⟨rfl, hb⟩; have HB2 := Aside0.mk (below_step HB.out hb); clear hb))
        go_roundg k1
        case measure => omega
        case rel =>
          have hi := HI.out
          refine ⟨i + 1, rfl, ⟨by omega, by omega⟩, ⟨fun j hj => ?_⟩, HB2⟩
          by_cases hji : j = i.toNat
          · subst hji
            rw [show ((i.toNat : Nat) : Int) = i by omega]
            exact HZN.out
          · exact HZ.out j (by omega)
set_option maxHeartbeats 1000000 in
theorem indexNil_calls (fn : Value) (w : World) :
    Calls Tryd.prog 41 #[.slice none 0 0, fn] w fun e w' => e = .returned (.int .i64 (-1)) ∧ Below w.heap.size w w' := by
  have HB := Aside0.mk (Below.refl w.heap.size w)
  go_enter Tryd.func41, Tryd.ntmps41
  go_wp2
  go_loopg [8] 0 (fun kq v8 w' => v8 = .int .i64 0 ∧ w' = w)
  case atStart => exact ⟨rfl, rfl⟩
  case round =>
    obtain ⟨rfl, rfl⟩ := hrel
    cases gk with
    | zero =>
      go_wp2
      go_ret
      exact ⟨rfl, HB.out⟩
    | succ k1 =>
      go_wp2
      go_ret
      exact ⟨rfl, HB.out⟩
set_option maxHeartbeats 1000000 in
theorem deleteNil_calls (fn : Value) (w : World) :
    Calls Tryd.prog 38 #[.slice none 0 0, fn] w fun e w' => e = .returned (.slice none 0 0) ∧ Below w.heap.size w w' := by
  have HI := Aside0.mk (fun W => indexNil_calls fn W)
  go_enter Tryd.func38, Tryd.ntmps38
  go_wp2_with (first
    | (go_at_call 41; (with_reducible refine (HI.out _).mono ?_); rintro e w2 ⟨rfl, hb⟩; have HB := Aside0.mk hb; clear hb))
  go_ret
  exact ⟨rfl, HB.out⟩
set_option maxHeartbeats 4000000 in
set_option maxRecDepth 100000 in
theorem cloneNil_calls (w : World) :
    Calls Tryd.prog 39 #[.slice none 0 0] w fun e w' => e = .returned (.slice none 0 0) ∧ Below w.heap.size w w' := by
  have HB := Aside0.mk (Below.refl w.heap.size w)
  have q : ∀ (w : World) (a : Option Addr) (n c n' c' : Nat), (binOp .eql 22 (.slice a n c) (.slice none n' c')).run Tryd.prog w = .ok (.bool a.isNone) w := fun w a n c n' c' => Lib.run_eql_slice_nil w _ _ a n c n' c' Tryd.underlying22
  go_enter Tryd.func39, Tryd.ntmps39
  go_wp2
  go_ret
  exact ⟨rfl, HB.out⟩
set_option maxHeartbeats 4000000 in
set_option maxRecDepth 100000 in
theorem insertNil_calls (A : Addr) (x : S40) (w : World) (hC : Kd.C k40 w (some A) 1 [x]) :
    Calls Tryd.prog 43 #[.slice none 0 0, .int .i64 0, .slice (some A) 1 1] w fun e w' => ∃ v, e = .returned v ∧ Kd.R k40 40 w' w.heap.size (fun _ => True) v [x] ∧ Below w.heap.size w w' := by
  have HR0 := Aside0.mk hC
  have HB := Aside0.mk (Below.refl w.heap.size w)
  clear hC
  go_enter Tryd.func43, Tryd.ntmps43
  go_wp2_with (first
    | ((with_reducible refine gate_builtin (b := .append) (xs := #[.tmp 23, .tmp 24]) rfl ?_); at_builtin; refine Kd.R_append_rows k40 (w0 := w) w.heap.size rfl (.tmp 23) (.tmp 24) 22 40 (.agg #[(.string ⟨#[]⟩), (.string ⟨#[]⟩)]) 32 rfl Tryd.underlying22 info40 rfl (by decide) (by omega) (.slice none 0 0) ([] : List (S40)) [x] _ _ _ (fun _ => True) (fun _ => False) rfl rfl ?aO ?aR (fun _ _ h => h) (fun _ h => h.elim) ?aF ?aB ?aS ?aL ?_; (case aR => exact HR0.out); (case aB => exact HB.out); (case aF => exact (fun _ _ => trivial)); (case aO => exact ((Kd.R_nil _ _ _ _ (fun _ => True)))); (case aS => exact Nat.le_refl _); (case aL => decide); intro v13002 w3 ho hb hg hat; have n0_ := Aside0.mk (hb); have n1_ := Aside0.mk (ho); clear HB; have HB := n0_; have HO13003 := n1_; clear n0_ n1_; clear ho hb hg hat))
  go_ret
  exact ⟨_, rfl, HO13003.out, HB.out⟩
end Go.Proofs.YtefhngadeimklaaDoor.Q
end
section
set_option linter.unusedSimpArgs false
set_option linter.unusedVariables false
namespace Go.Proofs.YtefhngadeimklaaDoor.Q
open Go.RowKit Go.Proofs.YtefhngadeimklaaDoorW.PrintWords Go.Proofs.YtefhngadeimklaaDoorW.PrintLast Go.Proofs.YtefhngadeimklaaDoorW.PrintMore
attribute [local go_sem] max2_int min2_int max_two min_two max_three min_three max_four min_four
set_option maxHeartbeats 1000000 in
theorem clone40_calls (A0 : Option Addr) (c0 : Nat) (l0 : List S40) (w : World) (hr0 : Kd.C k40 w A0 l0.length l0) (hl : l0.length * 32 < 140737488355328) :
    Calls Tryd.prog 39 #[.slice A0 l0.length c0] w fun e w' => ∃ v0_ : Value, e = .returned (v0_) ∧ Kd.R k40 40 w' w.heap.size (fun _ => True) v0_ l0 ∧ Below w.heap.size w w' := by
  have q : ∀ (w : World) (a : Option Addr) (n c n' c' : Nat), (binOp .eql 22 (.slice a n c) (.slice none n' c')).run Tryd.prog w = .ok (.bool a.isNone) w := fun w a n c n' c' => Lib.run_eql_slice_nil w _ _ a n c n' c' Tryd.underlying22
  cases A0 with
  | none =>
    obtain rfl := C_nil_eq hr0
    go_enter Tryd.func39, Tryd.ntmps39
    go_wp2
    go_ret
    exact ⟨_, rfl, Kd.R_nil _ _ _ _ _, Below.refl _ _⟩
  | some ad =>
    have HR := Aside0.mk hr0
    have HL := Aside0.mk hl
    clear hr0 hl
    go_enter Tryd.func39, Tryd.ntmps39
    go_wp2_with (at_builtin; refine Kd.R_append_rows k40 (w0 := w) w.heap.size rfl (.tmp 5) (.tmp 6) 22 40 (.agg #[(.string ⟨#[]⟩), (.string ⟨#[]⟩)]) 32 rfl Tryd.underlying22 info40 rfl (by decide) (by omega) (.slice (some ⟨w.heap.size, 0, none⟩) 0 0) ([] : List S40) l0 _ _ _ (fun _ => True) (fun _ => False) rfl rfl ?aO ?aR (fun _ _ h => h) (fun _ h => h.elim) ?aF ?aB ?aS ?aL ?_; (case aR => exact Kd.C_alloc HR.out _); (case aB => exact (below_alloc (Below.refl _ _) _)); (case aF => exact (fun _ _ => trivial)); (case aO => exact R_empty _ _ _ _ (Nat.le_refl _)); (case aS => simp); (case aL => have := HL.out; simp only [List.length_nil]; omega); intro v1 w1 ho hb hg hat; have HO := Aside0.mk ho; have HB := Aside0.mk hb; clear ho hb hg hat)
    go_ret
    exact ⟨_, rfl, HO.out, HB.out⟩
/-- What is left when a name is struck out. -/
def delN (s : ByteArray) (l : List S40) : List S40 := l.filter fun x => !decide (x.f0.toList = s.toList)
theorem delN_cons (s : ByteArray) (x : S40) (r : List S40) : delN s (x :: r) = if x.f0.toList = s.toList then delN s r else x :: delN s r := by
  unfold delN
  rw [List.filter_cons]
  by_cases h : x.f0.toList = s.toList
  · rw [if_pos h, decide_eq_true h]; rfl
  · rw [if_neg h, decide_eq_false h]; rfl
theorem delN_none (s : ByteArray) : ∀ l : List S40, idxN s l < 0 → delN s l = l
  | [], _ => rfl
  | x :: r, h => by
    have hr := idxN_range s r
    rw [delN_cons]
    unfold idxN at h
    by_cases hx : x.f0.toList = s.toList
    · rw [if_pos hx] at h; omega
    · rw [if_neg hx] at h ⊢
      split at h
      · rename_i h1; rw [delN_none s r h1]
      · omega
theorem delN_first (s : ByteArray) : ∀ (l : List S40) (i : Nat), idxN s l = i → l.take i = delN s (l.take (i + 1))
  | [], i, h => by
    have h1 : (-1 : Int) = (i : Int) := h
    omega
  | x :: r, i, h => by
    have hr := idxN_range s r
    rw [List.take_succ_cons, delN_cons]
    unfold idxN at h
    by_cases hx : x.f0.toList = s.toList
    · rw [if_pos hx] at h ⊢
      obtain rfl : i = 0 := by omega
      rfl
    · rw [if_neg hx] at h ⊢
      split at h
      · omega
      · obtain ⟨k, rfl⟩ : ∃ k, i = k + 1 := ⟨i - 1, by omega⟩
        rw [List.take_succ_cons, delN_first s r k (by omega)]
theorem delN_snoc (s : ByteArray) (l : List S40) (x : S40) : delN s (l ++ [x]) = if x.f0.toList = s.toList then delN s l else delN s l ++ [x] := by
  unfold delN
  rw [List.filter_append]
  by_cases h : x.f0.toList = s.toList
  · rw [if_pos h]; simp [h]
  · rw [if_neg h]; simp [h]
/-- A variable of one's own is written whole. -/
theorem store_box {P : Program} {ops : Array Oper} {rest : List Oper} {o : Oper} {a : Act} {Q : Exit → Act → World → Prop} {W : World} (hN : o.dst = none) (hgd : o.guard = none) (t : TypeId) (p x : Operand) (ho : o.op = .store t p x)
    {g : Nat} {cs : Array Value} {e : TypeId} (u : Value) (seg : List Value) (haddr : a.eval p = .pointer (some ⟨g, 0, none⟩)) (hx : a.eval x = u) (hu : u.cells.toList = seg) (ht : (P.info? t).map (·.size) = some seg.length) (h1 : ∀ q ∈ seg, q.oneCell' = true)
    (hh : W.heap[g]? = some (.cells cs e (0, 0))) (hsz : cs.size = seg.length)
    (h : ∀ w1, w1.heap[g]? = some (.cells seg.toArray e (0, 0)) → W.grownBy w1 (some g) → wpList P ops Q rest a w1) : wpList P ops Q (o :: rest) a W := by
  have hrun := run_store_run (P := P) t u seg hh hu ht (show 0 + seg.length ≤ cs.size by omega) h1
  refine wpList_plain hgd fun K hK => ?_
  unfold Oper.wp execOp
  simp only [ho, haddr, hx, Sem.run_bind, Sem.run_pure, Result.andThen_ok, hrun]
  show K (a.put o.dst undef) _
  rw [hN]
  refine hK a _ (h _ ?_ ?_)
  · obtain ⟨cur', h1, h2, h3⟩ := setCells_row seg 0 W cs hh (by omega)
    rw [h1]
    have : cur' = seg.toArray := by
      apply Array.toList_inj.1
      rw [h3, List.take_zero, List.nil_append, Nat.zero_add, List.drop_eq_nil_of_le (by rw [Array.length_toList]; omega), List.append_nil]
    rw [this]
  · obtain ⟨h2, h3, h4, h5⟩ := setCells_same g seg 0 W
    exact ⟨h2, h3, h4, by omega, fun k _ hk => setCells_far seg 0 k (fun e => hk (by rw [e]))⟩
/-- clear of a row's end. -/
theorem clear_row {W : World} {base g n cap i : Nat} {M : List S40} (hR : Kd.R k40 40 W base (fun _ => True) (.slice (some ⟨g, 0, none⟩) n cap) M) (hi : i < n) (ty : TypeId) :
    ∃ w1, (Builtin.clear_ #[22] ty #[.slice (some ⟨g, i * 2, none⟩) (n - i) (cap - i)]).run Tryd.prog W = .ok (.tuple #[]) w1 ∧ Kd.R k40 40 w1 base (fun _ => True) (.slice (some ⟨g, 0, none⟩) i cap) (M.take i) ∧ W.grownBy w1 (some g) := by
  obtain ⟨hn, hnc, _⟩ := Kd.R_reads' hR
  have hT := Kd.R_take hR (m := i) (by omega)
  obtain ⟨hok, inner, ho, hr⟩ := hT
  obtain ⟨hlen, ho⟩ := ho
  rcases ho with ⟨hv, _⟩ | ⟨g', cap', cur, hv, hb, hh, hic, hcm, hcs, htk⟩
  · cases hv
  injection hv with ha _ hc
  injection ha with ha
  injection ha with hg'
  subst hg'; subst hc
  obtain ⟨zs, hzs⟩ : ∃ zs : List Value, zs = (Builtin.zeroCells (Value.agg #[.string ⟨#[]⟩, .string ⟨#[]⟩]).cells (n - i)).toList := ⟨_, rfl⟩
  have hzl : zs.length = (n - i) * 2 := by
    rw [hzs, Array.length_toList, size_zeroCells]
    rfl
  have hz1 : ∀ q ∈ zs, q.oneCell' = true := by
    intro q hq
    rw [hzs] at hq
    unfold Builtin.zeroCells at hq
    rw [Array.toList_map] at hq
    obtain ⟨j, _, rfl⟩ := List.mem_map.1 hq
    have e : (Value.agg #[.string ⟨#[]⟩, .string ⟨#[]⟩]).cells = #[.string ⟨#[]⟩, .string ⟨#[]⟩] := rfl
    rw [e]
    have h2 : j % (#[Value.string ⟨#[]⟩, Value.string ⟨#[]⟩] : Array Value).size = 0 ∨ j % (#[Value.string ⟨#[]⟩, Value.string ⟨#[]⟩] : Array Value).size = 1 := by
      show j % 2 = 0 ∨ j % 2 = 1
      omega
    rcases h2 with h2 | h2 <;> rw [h2] <;> rfl
  have hcs : cur.size = cap * 2 := hcs
  have hml : (M.take i).length = i := by rw [List.length_take]; omega
  rw [hml] at hlen htk hic
  have hst := run_storeCells_cells (P := Tryd.prog) g (i * 2) zs 0 W (fun j hj => by rw [cell_of_row W g _ cur 40 (0, 0) hh]; simp; omega) (fun j _ => blk_frozen hh _) hz1
  obtain ⟨cur', h1, h2, h3⟩ := setCells_row zs (i * 2) W cur hh (by omega)
  obtain ⟨s2, s3, s4, s5⟩ := setCells_same g zs (i * 2) W
  have hfin : cur'.toList.take (i * 2) = inner := by
    rw [h3, ← htk, List.append_assoc, List.take_append_of_le_length (by rw [List.length_take, Array.length_toList, hcs]; omega)]
    show (cur.toList.take (i * 2)).take (i * 2) = cur.toList.take (i * 2)
    rw [List.take_take, Nat.min_self]
  have hrow : (W.setCells g (i * 2) zs).ownsRow base 40 k40.sz (.slice (some ⟨g, 0, none⟩) i cap) (M.take i).length inner := by
    rw [hml]
    exact ⟨hlen, .inr ⟨g, cap, cur', rfl, hb, h1, hic, hcm, h2.trans hcs, hfin⟩⟩
  refine ⟨W.setCells g (i * 2) zs, ?_, ⟨hok, inner, hrow, hr.imp_ (fun x cs h => by rw [k40_openM h]; exact k40_mkM _ _ _ x)⟩, ⟨s2, s3, s4, by omega, fun k _ hk => setCells_far zs (i * 2) k (fun e => hk (by rw [e]))⟩⟩
  have hz0 : ∀ W : World, (zeroValue 40).run Tryd.prog W = .ok (.agg #[.string ⟨#[]⟩, .string ⟨#[]⟩]) W := fun W => Tryd.zeroValue40 W
  rw [Nat.add_zero] at hst
  obtain ⟨m, hm⟩ : ∃ m, n - i = m + 1 := ⟨n - i - 1, by omega⟩
  rw [hm] at hzs ⊢
  unfold Builtin.clear_
  simp [Sem.run_bind, underlying, Tryd.underlying22, hz0, ← hzs, hst]
end Go.Proofs.YtefhngadeimklaaDoor.Q
end
section
set_option linter.unusedSimpArgs false
set_option linter.unusedVariables false
namespace Go.Proofs.YtefhngadeimklaaDoor.Q
open Go.RowKit Go.Proofs.YtefhngadeimklaaDoorW.PrintWords Go.Proofs.YtefhngadeimklaaDoorW.PrintLast Go.Proofs.YtefhngadeimklaaDoorW.PrintMore
attribute [local go_sem] max2_int min2_int max_two min_two max_three min_three max_four min_four
theorem info40s : (Tryd.prog.info? 40).map (·.size) = some 2 := by kernel_rfl
theorem cells40 {W : World} {base g n cap : Nat} {ok : Nat → Prop} {M : List S40} (h : Kd.R k40 40 W base ok (.slice (some ⟨g, 0, none⟩) n cap) M) (i : Int) (h0 : 0 ≤ i) (h1 : i < n) :
    ∀ q u, [Value.string (rd_T40 M i).f0, .string (rd_T40 M i).f1][q]? = some u → W.cell? ⟨g, i.toNat * k40.sz + q, none⟩ = some u := by
  obtain ⟨c, hcl, hM, hcc, _⟩ := Kd.R_elem h z40 i h0 h1
  have e := k40_openM hM
  rw [e] at hcc
  exact hcc
theorem set_take {α : Type} (x : α) : ∀ (M : List α) (i : Nat), i < M.length → (M.set i x).take (i + 1) = M.take i ++ [x]
  | [], i, h => by simp at h
  | m :: M, 0, _ => by simp
  | m :: M, i + 1, h => by
    rw [List.set_cons_succ, List.take_succ_cons, set_take x M i (by simpa using h)]
    rfl
theorem drop_next {α : Type} {M l : List α} {j : Nat} (h : M.drop j = l.drop j) : M.drop (j + 1) = l.drop (j + 1) := by
  rw [← List.drop_drop, ← List.drop_drop, h]
theorem take_next {M l : List S40} {j : Nat} (h : M.drop j = l.drop j) (hj : j < M.length) (hl : M.length = l.length) : l.take (j + 1) = l.take j ++ [rd_T40 M (j : Int)] := by
  have h1 : M[j]? = l[j]? := by
    have := congrArg (fun q => q[0]?) h
    simpa [List.getElem?_drop] using this
  have hj2 : j < l.length := by omega
  rw [List.take_add_one, ← h1]
  simp [rd_T40, List.getD_eq_getElem?_getD, List.getElem?_eq_getElem hj]
theorem clear_event {P : Program} {ops : Array Oper} {o : Oper} {a : Act} {Q : Exit → Act → World → Prop} {rest : List Oper} {W w1 : World} (hgd : o.guard = none) (x : Operand) (t : TypeId)
    (ho : o.op = .call { callee := .builtin .clear, args := #[x], argTypes := #[t] }) (v : Value) (hs : a.eval x = v) (hrun : (Builtin.clear_ #[t] o.type #[v]).run P W = .ok (.tuple #[]) w1) (h : wpList P ops Q rest (a.put o.dst (.tuple #[])) w1) : wpList P ops Q (o :: rest) a W := by
  refine wpList_plain hgd fun K hK => ?_
  unfold Oper.wp execOp
  simp only [ho, resolve, invoke, builtin, Sem.run_bind, Sem.run_pure, Result.andThen_ok, List.map_toArray, List.map_cons, List.map_nil, hs, hrun]
  exact hK _ _ h
set_option maxHeartbeats 4000000 in
set_option maxRecDepth 100000 in
theorem delete40_calls (s : ByteArray) (gb : Nat) (v : Value) (l : List S40) (w : World) (base : Nat) (hR : Kd.R k40 40 w base (fun _ => True) v l) (hb : base ≤ w.heap.size) (hln : l.length ≤ 1000000000000000) (hh : w.heap[gb]? = some (.cells #[.string s] 9 (0, 0))) :
    Calls Tryd.prog 38 #[v, .func (.func 58) #[] #[.pointer (some ⟨gb, 0, none⟩)]] w fun e w' => ∃ v', e = .returned v' ∧ Kd.R k40 40 w' base (fun _ => True) v' (delN s l) ∧ Below base w w' := by
  have hu40 := Tryd.underlying40
  have hrg := idxN_range s l
  by_cases hneg : idxN s l < 0
  · obtain ⟨A, c, rfl, hc, hC⟩ := Kd.R_reads hR
    have HI := Aside0.mk (indexNamed_calls s gb A c l w hC hh)
    have e1 : idxN s l = -1 := by omega
    rw [e1] at HI
    have HR := Aside0.mk hR
    have HDN := Aside0.mk (delN_none s l hneg)
    have HBS := Aside0.mk hb
    clear hR hb hh hc hC hneg hrg e1
    go_enter Tryd.func38, Tryd.ntmps38
    go_wp2_with (go_at_call 41; (with_reducible refine HI.out.mono ?_); rintro e w1 ⟨rfl, hb1⟩; have HB1 := Aside0.mk hb1; clear hb1)
    go_ret
    exact ⟨_, rfl, by rw [HDN.out]; exact Kd.R_below HR.out HB1.out, HB1.out.mono HBS.out⟩
  · obtain ⟨i0, hi0⟩ := Int.eq_ofNat_of_zero_le (show 0 ≤ idxN s l by omega)
    obtain ⟨g, cap, rfl, hbg, hgl, cells, hcells⟩ := Kd.R_form hR (by omega)
    obtain ⟨-, hcap, hC⟩ := Kd.R_reads' hR
    have HI := Aside0.mk (indexNamed_calls s gb (some ⟨g, 0, none⟩) cap l w hC hh)
    rw [hi0] at HI
    have HF := Aside0.mk (delN_first s l i0 hi0)
    have hgne : gb ≠ g := fun e => by
      subst e
      rw [hh] at hcells
      injection hcells with h1
      injection h1 with h2 h3
      cases h3
    have HG := Aside0.mk hgne
    have HR := Aside0.mk hR
    have HH := Aside0.mk hh
    have HBS := Aside0.mk hb
    have HBG := Aside0.mk hbg
    have HIL := Aside0.mk (show i0 < l.length by omega)
    have HCP := Aside0.mk (show l.length ≤ cap ∧ l.length ≤ 1000000000000000 from ⟨hcap, hln⟩)
    clear hln
    clear hR hb hh hgne hcells hcap hC hbg hgl hneg hrg hi0
    obtain ⟨n, hn⟩ : ∃ n, n = l.length := ⟨_, rfl⟩
    rw [← hn] at HI HR HIL HCP ⊢
    have HLN := Aside0.mk hn
    have hw1 : wrap64 ((i0 : Int) + 1) = ((i0 + 1 : Nat) : Int) := by have := HIL.out; have := HCP.out; unfold wrap64; omega
    have hw1' : IntKind.i64.wrap ((i0 : Int) + 1) = ((i0 + 1 : Nat) : Int) := (i64_w _).trans hw1
    have e1 : ((i0 : Int) == -1) = false := beq_false_of_ne (by omega)
    clear hn
    go_enter Tryd.func38, Tryd.ntmps38
    go_wp2_with (go_at_call 41; (with_reducible refine HI.out.mono ?_); rintro e w1 ⟨rfl, hb1⟩; have HB1 := Aside0.mk hb1; clear hb1)
    go_loopw [5, 6] (fun v5 v6 W => ∃ (i j : Nat) (M : List S40), v5 = .int .i64 i ∧ v6 = .int .i64 j ∧ Aside0 (i < j ∧ j ≤ n ∧ M.length = n ∧ M.take i = delN s (l.take j) ∧ M.drop j = l.drop j) ∧ Aside0 (Kd.R k40 40 W base (fun _ => True) (.slice (some ⟨g, 0, none⟩) n cap) M) ∧ Aside0 (W.heap[gb]? = some (.cells #[.string s] 9 (0, 0))) ∧ Aside0 (Below base w W)) (fun _ v6 _ => n - (intOf v6).toNat)
    case atStart => exact ⟨i0, i0 + 1, l, rfl, by (first | rw [hw1] | rfl | simp), ⟨by omega, HIL.out, HLN.out.symm, HF.out, rfl⟩, ⟨Kd.R_below HR.out HB1.out⟩, ⟨by rw [HB1.out.block gb (blk_lt HH.out)]; exact HH.out⟩, ⟨HB1.out.mono HBS.out⟩⟩
    case round =>
      clear HR HB1 HI HF hw1 hw1' e1
      obtain ⟨i, j, M, rfl, rfl, HM, HR1, HH1, HB0⟩ := hrel
      by_cases hlt : j < n
      · have hm := HM.out
        have hcp := HCP.out
        have hwj : wrap64 ((j : Int) + 1) = ((j + 1 : Nat) : Int) := by unfold wrap64; omega
        have hwj' : IntKind.i64.wrap ((j : Int) + 1) = ((j + 1 : Nat) : Int) := (i64_w _).trans hwj
        have hwi : wrap64 ((i : Int) + 1) = ((i + 1 : Nat) : Int) := by unfold wrap64; omega
        have hwi' : IntKind.i64.wrap ((i : Int) + 1) = ((i + 1 : Nat) : Int) := (i64_w _).trans hwi
        have hC1 := (Kd.R_reads' HR1.out).2.2
        obtain ⟨ad, eA, hx0, hx1⟩ := at_T40 hC1 (j : Int) (by omega) (by omega)
        injection eA with eA
        subst eA
        rw [Int.toNat_natCast, add_plain] at hx0 hx1
        obtain ⟨x, hx⟩ : ∃ x, x = rd_T40 M (j : Int) := ⟨_, rfl⟩
        rw [← hx] at hx0 hx1
        have HXJ := Aside0.mk (show l.take (j + 1) = l.take j ++ [x] by rw [hx]; exact take_next hm.2.2.2.2 (by omega) (hm.2.2.1.trans HLN.out))
        have p1 : (0 ≤ (j : Int)) = True := eq_true (by omega)
        have p3 : ((j : Int) < (n : Int)) = True := eq_true (by omega)
        have p2 : ((i : Int) < (n : Int)) = True := eq_true (by omega)
        clear hm hcp hC1 hx
        by_cases hz : x.f0.toList = s.toList
        · have hzb : (x.f0.toList == s.toList) = true := beq_iff_eq.2 hz
          have HZ := Aside0.mk hz
          clear hz
          go_wp2_with (first
            | ((with_reducible refine gate_dst (N := 7) rfl ?_); refine box_event ?hg (N := 7) ?hd (cs := #[.string ⟨#[]⟩, .string ⟨#[]⟩]) (t := 40) ?hr ?_; (case hd => rfl); (case hg => rfl); (case hr => first | (go_simp; done) | (go_simp; rfl)); intro g7 hg7 w1 hbox hb; have BK := Aside0.mk hbox; have HB1 := Aside0.mk hb; have HG7 := Aside0.mk hg7; clear hbox hb hg7)
            | (refine store_box rfl rfl 40 (.tmp 7) (.tmp 25) rfl (.agg #[.string x.f0, .string x.f1]) [.string x.f0, .string x.f1] rfl rfl rfl info40s (by simp [Value.oneCell']) BK.out rfl ?_; intro w2 hbox hg; have BK2 := Aside0.mk hbox; have HB2 := Aside0.mk (show Below wr.heap.size wr w2 from HB1.out.grown hg HB1.out.size (fun k hk => by injection hk with hk; have := HG7.out; omega)); have hz0 : w2.cell? ⟨g7, 0, none⟩ = some (.string x.f0) := (blk_cell hbox 0).trans rfl; have hz1 : w2.cell? ⟨g7, 1, none⟩ = some (.string x.f1) := (blk_cell hbox 1).trans rfl; clear hbox hg)
            | (go_at_call 58; (with_reducible refine (namedC_calls x s gb _ (by rw [HB2.out.block gb (blk_lt HH1.out)]; exact HH1.out)).mono ?_); rintro e w3 ⟨rfl, hb⟩; have HB3 := Aside0.mk (below_step HB2.out hb); replace hz0 := (hb.cell (World.block_lt_of_cell? _ _ hz0)).trans hz0; replace hz1 := (hb.cell (World.block_lt_of_cell? _ _ hz1)).trans hz1; clear hb))
          go_roundw
          case rel =>
            have hm := HM.out
            exact ⟨i, j + 1, M, rfl, by (first | rw [hwj] | rfl | simp), ⟨by omega, hlt, hm.2.2.1, by rw [HXJ.out, delN_snoc, if_pos HZ.out]; exact hm.2.2.2.1, drop_next hm.2.2.2.2⟩, ⟨Kd.R_below HR1.out HB3.out⟩, ⟨by rw [HB3.out.block gb (blk_lt HH1.out)]; exact HH1.out⟩, ⟨HB0.out.trans (HB3.out.mono (Nat.le_trans HBS.out HB0.out.size))⟩⟩
          case measure => (first | rw [hwj] | skip); simp only [intOf]; omega
        · have hzb : (x.f0.toList == s.toList) = false := beq_eq_false_iff_ne.2 hz
          have HZ := Aside0.mk hz
          clear hz
          go_wp2_with (first
            | ((with_reducible refine gate_dst (N := 7) rfl ?_); refine box_event ?hg (N := 7) ?hd (cs := #[.string ⟨#[]⟩, .string ⟨#[]⟩]) (t := 40) ?hr ?_; (case hd => rfl); (case hg => rfl); (case hr => first | (go_simp; done) | (go_simp; rfl)); intro g7 hg7 w1 hbox hb; have BK := Aside0.mk hbox; have HB1 := Aside0.mk hb; have HG7 := Aside0.mk hg7; clear hbox hb hg7)
            | (refine store_box rfl rfl 40 (.tmp 7) (.tmp 25) rfl (.agg #[.string x.f0, .string x.f1]) [.string x.f0, .string x.f1] rfl rfl rfl info40s (by simp [Value.oneCell']) BK.out rfl ?_; intro w2 hbox hg; have BK2 := Aside0.mk hbox; have HB2 := Aside0.mk (show Below wr.heap.size wr w2 from HB1.out.grown hg HB1.out.size (fun k hk => by injection hk with hk; have := HG7.out; omega)); have hz0 : w2.cell? ⟨g7, 0, none⟩ = some (.string x.f0) := (blk_cell hbox 0).trans rfl; have hz1 : w2.cell? ⟨g7, 1, none⟩ = some (.string x.f1) := (blk_cell hbox 1).trans rfl; clear hbox hg)
            | (go_at_call 58; (with_reducible refine (namedC_calls x s gb _ (by rw [HB2.out.block gb (blk_lt HH1.out)]; exact HH1.out)).mono ?_); rintro e w3 ⟨rfl, hb⟩; have HB3 := Aside0.mk (below_step HB2.out hb); replace hz0 := (hb.cell (World.block_lt_of_cell? _ _ hz0)).trans hz0; replace hz1 := (hb.cell (World.block_lt_of_cell? _ _ hz1)).trans hz1; clear hb)
            | (refine Kd.R_store k40 (w0 := w) base rfl rfl 40 (.tmp 33) (.tmp 32) rfl 40 (i : Int) 0 M x (.agg #[.string x.f0, .string x.f1]) [.string x.f0, .string x.f1] [.string (rd_T40 M i).f0, .string (rd_T40 M i).f1] (fun _ => True) (fun _ => False) rfl ?e1 rfl rfl info40s (by simp [Value.oneCell']) (Kd.R_below HR1.out HB3.out) (by omega) ?e2 rfl ?e3 (Nat.le_refl 2) (k40_mkM _ _ _ _) (fun _ h => h.elim) ?e4 ?_; (case e1 => (first | rfl | simp)); (case e2 => have := HM.out; omega); (case e3 => exact cells40 (Kd.R_below HR1.out HB3.out) (i : Int) (by omega) (by have := HM.out; omega)); (case e4 => exact HB0.out.trans (HB3.out.mono (Nat.le_trans HBS.out HB0.out.size))); intro w4 ho hb hg; have HO4 := Aside0.mk ho; have HB4 := Aside0.mk hb; have HG4 := Aside0.mk hg; clear ho hb hg))
          go_roundw
          case rel =>
            have hm := HM.out
            have hgb : w4.heap[gb]? = some (.cells #[.string s] 9 (0, 0)) := by
              have h3 : w3.heap[gb]? = some (.cells #[.string s] 9 (0, 0)) := by rw [HB3.out.block gb (blk_lt HH1.out)]; exact HH1.out
              exact blk_grown h3 HG4.out (fun e => HG.out (Option.some.inj e))
            have hset : (M.set (i : Int).toNat x) = M.set i x := by rw [Int.toNat_natCast]
            exact ⟨i + 1, j + 1, M.set i x, by (first | rw [hwi] | rfl | simp), by (first | rw [hwj] | rfl | simp), ⟨by omega, hlt, by rw [List.length_set]; exact hm.2.2.1, by rw [set_take x M i (by omega), HXJ.out, delN_snoc, if_neg HZ.out, hm.2.2.2.1], by rw [List.drop_set_of_lt (by omega)]; exact drop_next hm.2.2.2.2⟩, ⟨by have := HO4.out; rwa [hset] at this⟩, ⟨hgb⟩, HB4⟩
          case measure => (first | rw [hwj] | skip); simp only [intOf]; omega
      · obtain rfl : j = n := by have := HM.out; omega
        have hm := HM.out
        have hcp := HCP.out
        have e2 : M.take i = delN s l := by rw [hm.2.2.2.1, HLN.out, List.take_of_length_le (Nat.le_refl _)]
        have k1' : ∀ W : World, (Instr.slice 22 (.slice (some ⟨g, 0, none⟩) j cap) (some (.int .i64 i)) none none).run Tryd.prog W = .ok (.slice (some ⟨g, i * 2, none⟩) (j - i) (cap - i)) W := fun W => by
          rw [run_cut_lo Tryd.underlying22 info40s (some ⟨g, 0, none⟩) j cap (i : Int) (by omega) (by omega) W, Int.toNat_natCast, cutAt_own (by omega)]
        have k2' : ∀ W : World, (Instr.slice 22 (.slice (some ⟨g, 0, none⟩) j cap) none (some (.int .i64 i)) none).run Tryd.prog W = .ok (.slice (some ⟨g, 0, none⟩) i cap) W := fun W => by
          rw [run_cut_hi Tryd.underlying22 info40s (some ⟨g, 0, none⟩) j cap (i : Int) (by omega) (by omega) W, Int.toNat_natCast]
        obtain ⟨w9, hrun, hR9, hg9⟩ := clear_row HR1.out hm.1 0
        rw [e2] at hR9
        have HR9 := Aside0.mk hR9
        have HG9 := Aside0.mk hg9
        have HRUN := Aside0.mk hrun
        clear hm hcp e2 hrun hR9 hg9
        go_wp2_with (refine clear_event rfl (.tmp 38) 22 rfl (.slice (some ⟨g, i * 2, none⟩) (j - i) (cap - i)) rfl HRUN.out ?_)
        go_ret
        exact ⟨_, rfl, HR9.out, HB0.out.grown HG9.out (Nat.le_trans HBS.out HB0.out.size) (fun k hk => by injection hk with hk; have := HBG.out; omega)⟩
end Go.Proofs.YtefhngadeimklaaDoor.Q
end
section
set_option linter.unusedSimpArgs false
set_option linter.unusedVariables false
namespace Go.Proofs.YtefhngadeimklaaDoor.Q
open Go.RowKit Go.Proofs.YtefhngadeimklaaDoorW.PrintWords Go.Proofs.YtefhngadeimklaaDoorW.PrintLast Go.Proofs.YtefhngadeimklaaDoorW.PrintMore
attribute [local go_sem] max2_int min2_int max_two min_two max_three min_three max_four min_four
set_option maxHeartbeats 4000000 in
set_option maxRecDepth 100000 in
/-- At the end. -/
theorem insertEnd_calls (gx : Nat) (x : S40) (v : Value) (l : List S40) (w : World) (base : Nat) (hR : Kd.R k40 40 w base (fun _ => True) v l) (hb : base ≤ w.heap.size) (hln : l.length ≤ 1000000) (hX : Kd.C k40 w (some ⟨gx, 0, none⟩) 1 [x]) :
    Calls Tryd.prog 43 #[v, .int .i64 l.length, .slice (some ⟨gx, 0, none⟩) 1 1] w fun e w' => ∃ v', e = .returned v' ∧ Kd.R k40 40 w' base (fun _ => True) v' (l ++ [x]) ∧ Below base w w' := by
  obtain ⟨A, c, rfl, hc, hC⟩ := Kd.R_reads hR
  have k1' : ∀ W : World, (Instr.slice 22 (.slice A l.length c) (some (.int .i64 l.length)) none none).run Tryd.prog W = .ok (.slice (cutAt A c l.length 2) 0 (c - l.length)) W := fun W => by
    rw [run_cut_lo Tryd.underlying22 info40s A l.length c (l.length : Int) (by omega) (by omega) W, Int.toNat_natCast, Nat.sub_self]
  have HR := Aside0.mk hR
  have HX := Aside0.mk hX
  have HBS := Aside0.mk hb
  have HLN := Aside0.mk hln
  have HCP := Aside0.mk hc
  generalize cutAt A c l.length 2 = A2 at k1'
  generalize c - l.length = c2 at k1'
  clear hR hb hln hX hc hC
  go_enter Tryd.func43, Tryd.ntmps43
  go_wp2_with (first
    | ((with_reducible refine gate_builtin (b := .append) (xs := #[.tmp 23, .tmp 24]) rfl ?_); at_builtin; refine Kd.R_append_rows k40 (w0 := w) base rfl (.tmp 23) (.tmp 24) 22 40 (.agg #[(.string ⟨#[]⟩), (.string ⟨#[]⟩)]) 32 rfl Tryd.underlying22 info40 rfl (by decide) (by omega) (.slice A l.length c) l [x] _ _ _ (fun _ => True) (fun _ => False) rfl rfl HR.out HX.out (fun _ _ h => h) (fun _ h => h.elim) (fun _ _ => trivial) (Below.refl _ _) HBS.out (by have := HLN.out; omega) ?_; intro v1 w1 ho hb hg hat; have HO := Aside0.mk ho; have HB := Aside0.mk hb; clear ho hb hg hat))
  go_ret
  exact ⟨_, rfl, HO.out, HB.out⟩
end Go.Proofs.YtefhngadeimklaaDoor.Q
end
section
set_option linter.unusedSimpArgs false
set_option linter.unusedVariables false
namespace Go.Proofs.YtefhngadeimklaaDoor.Q
open Go.RowKit Go.Proofs.YtefhngadeimklaaDoorW.PrintWords Go.Proofs.YtefhngadeimklaaDoorW.PrintLast Go.Proofs.YtefhngadeimklaaDoorW.PrintMore
def enc2 : List S40 → List Value
  | [] => []
  | x :: r => .string x.f0 :: .string x.f1 :: enc2 r
theorem enc2_len : ∀ l : List S40, (enc2 l).length = l.length * 2
  | [] => rfl
  | x :: r => by rw [enc2, List.length_cons, List.length_cons, enc2_len r, List.length_cons]; omega
theorem enc2_app : ∀ a b : List S40, enc2 (a ++ b) = enc2 a ++ enc2 b
  | [], b => rfl
  | x :: r, b => by rw [List.cons_append, enc2, enc2, enc2_app r b]; rfl
theorem enc2_take : ∀ (l : List S40) (i : Nat), (enc2 l).take (i * 2) = enc2 (l.take i)
  | [], i => by simp [enc2]
  | x :: r, 0 => rfl
  | x :: r, i + 1 => by
    rw [show (i + 1) * 2 = i * 2 + 1 + 1 by omega, enc2, List.take_succ_cons, List.take_succ_cons, enc2_take r i]
    rfl
theorem enc2_drop : ∀ (l : List S40) (i : Nat), (enc2 l).drop (i * 2) = enc2 (l.drop i)
  | [], i => by simp [enc2]
  | x :: r, 0 => rfl
  | x :: r, i + 1 => by
    rw [show (i + 1) * 2 = i * 2 + 1 + 1 by omega, enc2, List.drop_succ_cons, List.drop_succ_cons, enc2_drop r i]
    rfl
theorem enc2_one : ∀ (l : List S40), ∀ q ∈ enc2 l, q.oneCell' = true
  | [], q, h => by cases h
  | x :: r, q, h => by
    rw [enc2] at h
    rcases List.mem_cons.1 h with rfl | h
    · rfl
    · rcases List.mem_cons.1 h with rfl | h
      · rfl
      · exact enc2_one r q h
theorem reps40 {w : World} {base : Nat} {ok : Nat → Prop} : ∀ {l : List S40} {inner : List Value}, Reps (k40.M w base ok) 2 l inner → inner = enc2 l
  | [], inner, h => by
    have := h.1
    exact List.eq_nil_of_length_eq_zero (by simpa using this)
  | x :: r, inner, h => by
    obtain ⟨h1, h2⟩ := h
    have h0 := k40_openM (h2 0 x rfl)
    rw [Nat.zero_mul, List.drop_zero] at h0
    have hr : Reps (k40.M w base ok) 2 r (inner.drop 2) := by
      refine ⟨by rw [List.length_drop, h1, List.length_cons]; omega, fun j p hj => ?_⟩
      have := h2 (j + 1) p (by simpa using hj)
      rw [List.drop_drop, show 2 + j * 2 = (j + 1) * 2 by omega]
      exact this
    rw [enc2, ← reps40 hr, ← List.take_append_drop 2 inner, h0]
    simp
theorem reps40_mk (w : World) (base : Nat) (ok : Nat → Prop) : ∀ l : List S40, Reps (k40.M w base ok) 2 l (enc2 l)
  | [] => ⟨rfl, fun j p hj => by simp at hj⟩
  | x :: r => by
    have ih := reps40_mk w base ok r
    refine ⟨enc2_len _, fun j p hj => ?_⟩
    cases j with
    | zero =>
      obtain rfl : x = p := by simpa using hj
      exact k40_mkM _ _ _ _
    | succ j =>
      have := ih.2 j p (by simpa using hj)
      rw [show (j + 1) * 2 = j * 2 + 1 + 1 by omega, enc2, List.drop_succ_cons, List.drop_succ_cons]
      exact this
/-- A row of one's own of settings, as cells. -/
theorem row40 {W : World} {base g n cap : Nat} {l : List S40} (hR : Kd.R k40 40 W base (fun _ => True) (.slice (some ⟨g, 0, none⟩) n cap) l) :
    n = l.length ∧ ∃ cur : Array Value, base ≤ g ∧ W.heap[g]? = some (.cells cur 40 (0, 0)) ∧ n ≤ cap ∧ cap ≤ maxLen ∧ cur.size = cap * 2 ∧ cur.toList.take (n * 2) = enc2 l := by
  obtain ⟨hn, -, -⟩ := Kd.R_reads' hR
  obtain ⟨hok, inner, ⟨hlen, ho⟩, hr⟩ := hR
  rcases ho with ⟨hv, _⟩ | ⟨g', cap', cur, hv, hb, hh, hic, hcm, hcs, htk⟩
  · cases hv
  injection hv with ha _ hc
  injection ha with ha
  injection ha with hg'
  subst hg'; subst hc
  exact ⟨hn, cur, hb, hh, by omega, hcm, hcs, by rw [hn]; exact htk.trans (reps40 hr)⟩
theorem row40_mk {W : World} {base g n cap : Nat} {l : List S40} {cur : Array Value} (hn : n = l.length) (hb : base ≤ g) (hh : W.heap[g]? = some (.cells cur 40 (0, 0))) (hc : n ≤ cap) (hm : cap ≤ maxLen) (hs : cur.size = cap * 2) (ht : cur.toList.take (n * 2) = enc2 l) :
    Kd.R k40 40 W base (fun _ => True) (.slice (some ⟨g, 0, none⟩) n cap) l := by
  subst hn
  exact ⟨fun _ _ => trivial, enc2 l, ⟨enc2_len l, .inr ⟨g, cap, cur, rfl, hb, hh, hc, hm, hs, ht⟩⟩, reps40_mk _ _ _ l⟩
/-- copy of settings. -/
theorem copy40_run (W : World) (ty : TypeId) (g o dLen dCap : Nat) (a : Addr) (sLen sCap : Nat) (cs : List Value) (hn : cs.length = Nat.min sLen dLen * 2)
    (hsrc : ∀ j v, cs[j]? = some v → W.cell? (a.add j) = some v) (hc : ∀ j, j < cs.length → (W.cell? ⟨g, o + j, none⟩).isSome = true) (hf : ∀ j, j < cs.length → W.frozen? ⟨g, o + j, none⟩ = false) (h1 : ∀ v ∈ cs, v.oneCell' = true) :
    (Builtin.copy_ #[22, 22] ty #[.slice (some ⟨g, o, none⟩) dLen dCap, .slice (some a) sLen sCap]).run Tryd.prog W = .ok (goInt (Nat.min sLen dLen)) (W.setCells g o cs) := by
  have hl := run_loadCells_list (P := Tryd.prog) W a cs hsrc
  have hst := run_storeCells_cells (P := Tryd.prog) g o cs 0 W (by simpa using hc) (by simpa using hf) h1
  obtain ⟨i, hq, hi⟩ := Option.map_eq_some_iff.1 info40s
  rw [hn] at hl
  simp [Builtin.copy_, run_underlying Tryd.underlying22, Builtin.lenOf, Builtin.firstCells, sizeOf, typeInfo, hq, hi, hl, hst]
end Go.Proofs.YtefhngadeimklaaDoor.Q
end
section
set_option linter.unusedSimpArgs false
set_option linter.unusedVariables false
namespace Go.Proofs.YtefhngadeimklaaDoor.Q
open Go.RowKit Go.Proofs.YtefhngadeimklaaDoorW.PrintWords Go.Proofs.YtefhngadeimklaaDoorW.PrintLast Go.Proofs.YtefhngadeimklaaDoorW.PrintMore
attribute [local go_sem] max2_int min2_int max_two min_two max_three min_three max_four min_four
/-- 'copy(d, s)' whose run is known, as one step of a region. -/
theorem copy_known_step {P : Program} {ops : Array Oper} {o : Oper} {a : Act} {w : World} {K : Act → World → Prop} {Q : Exit → Act → World → Prop} {E : Prop}
    (hg : o.guard = none) (d x : Operand) (dT sT : TypeId) (hop : o.op = Op.call { callee := Callee.builtin Builtin.copy, args := #[d, x], argTypes := #[dT, sT] })
    (v u : Value) (hd : a.eval d = v) (hx : a.eval x = u) {v' : Value} {w' : World} (hr : (Builtin.copy_ #[dT, sT] o.type #[v, u]).run P w = .ok v' w') (hK : K (a.put o.dst v') w') :
    if Region.wanted o (yielded ops a.tmps) = true then Oper.wp P o a w K Q else E := by
  rw [if_pos (by simp [Region.wanted, hg])]
  unfold Oper.wp
  simp [execOp, hop, resolve, invoke, builtin, hd, hx, hr, Result.andThen]
  exact hK
theorem overlaps_no {W : World} {gx g : Nat} {cx cur : Array Value} (hx : W.heap[gx]? = some (.cells cx 40 (0, 0))) (hg : W.heap[g]? = some (.cells cur 40 (0, 0))) (hne : gx ≠ g) (hc : cur.size ≠ 0) (o lb cb : Nat) :
    (callFunc 59 #[.slice (some ⟨gx, 0, none⟩) 1 1, .slice (some ⟨g, o, none⟩) lb cb]).run Tryd.prog W = .ok (.value (.bool false)) W := by
  rw [run_callFunc_extern Tryd.func59 (by kernel_rfl) (by kernel_rfl) (by kernel_rfl) (e := Extern.SlicesOverlaps.overlaps #[22, 22] #[4]) (by kernel_rfl),
    Lib.run_overlaps_apart W 22 4 40 Tryd.underlying22 2 (fun w => run_size info40s w) ⟨gx, 0, none⟩ ⟨g, o, none⟩ 1 1 lb cb hne 40 40 cx.size cur.size (by simp [World.shape?, hx]) (by simp [World.shape?, hg]) hc (blk_frozen hx 0) (blk_frozen hx _)]
  rfl
end Go.Proofs.YtefhngadeimklaaDoor.Q
end
section
set_option linter.unusedSimpArgs false
set_option linter.unusedVariables false
namespace Go.Proofs.YtefhngadeimklaaDoor.Q
open Go.RowKit Go.Proofs.YtefhngadeimklaaDoorW.PrintWords Go.Proofs.YtefhngadeimklaaDoorW.PrintLast Go.Proofs.YtefhngadeimklaaDoorW.PrintMore
attribute [local go_sem] max2_int min2_int max_two min_two max_three min_three max_four min_four
theorem wrap_small (x : Int) (h0 : 0 ≤ x) (h1 : x ≤ 10000000) : wrap64 x = x := by unfold wrap64; omega
theorem ins_nums (n i cap : Nat) (hi : i < n) (hroom : n + 1 ≤ cap) (hln : n ≤ 1000000) : wrap64 ((n : Int) + 1) = (n : Int) + 1 ∧ IntKind.i64.wrap ((n : Int) + 1) = (n : Int) + 1 ∧ wrap64 ((i : Int) + 1) = (i : Int) + 1 ∧ IntKind.i64.wrap ((i : Int) + 1) = (i : Int) + 1 ∧ ((i : Int) == (n : Int)) = false ∧ decide ((cap : Int) < (n : Int) + 1) = false := by
  have a1 := wrap_small ((n : Int) + 1) (by omega) (by omega)
  have a2 := wrap_small ((i : Int) + 1) (by omega) (by omega)
  exact ⟨a1, (i64_w _).trans a1, a2, (i64_w _).trans a2, beq_false_of_ne (by omega), decide_eq_false (by omega)⟩
theorem ins_cuts (g n i cap : Nat) (hi : i < n) (hroom : n + 1 ≤ cap) (hln : n ≤ 1000000) :
    (∀ W : World, (Instr.slice 22 (.slice (some ⟨g, 0, none⟩) n cap) (some (.int .i64 i)) none none).run Tryd.prog W = .ok (.slice (some ⟨g, i * 2, none⟩) (n - i) (cap - i)) W) ∧
    (∀ W : World, (Instr.slice 22 (.slice (some ⟨g, 0, none⟩) n cap) none (some (.int .i64 ((n : Int) + 1))) none).run Tryd.prog W = .ok (.slice (some ⟨g, 0, none⟩) (n + 1) cap) W) ∧
    (∀ W : World, (Instr.slice 22 (.slice (some ⟨g, 0, none⟩) (n + 1) cap) (some (.int .i64 ((i : Int) + 1))) none none).run Tryd.prog W = .ok (.slice (some ⟨g, (i + 1) * 2, none⟩) (n + 1 - (i + 1)) (cap - (i + 1))) W) ∧
    (∀ W : World, (Instr.slice 22 (.slice (some ⟨g, 0, none⟩) (n + 1) cap) (some (.int .i64 i)) none none).run Tryd.prog W = .ok (.slice (some ⟨g, i * 2, none⟩) (n + 1 - i) (cap - i)) W) := by
  refine ⟨fun W => ?_, fun W => ?_, fun W => ?_, fun W => ?_⟩
  · rw [run_cut_lo Tryd.underlying22 info40s (some ⟨g, 0, none⟩) n cap (i : Int) (by omega) (by omega) W, Int.toNat_natCast, cutAt_own (by omega)]
  · rw [run_cut_hi Tryd.underlying22 info40s (some ⟨g, 0, none⟩) n cap ((n : Int) + 1) (by omega) (by omega) W, show ((n : Int) + 1).toNat = n + 1 by omega]
  · rw [run_cut_lo Tryd.underlying22 info40s (some ⟨g, 0, none⟩) (n + 1) cap ((i : Int) + 1) (by omega) (by omega) W, show ((i : Int) + 1).toNat = i + 1 by omega, cutAt_own (by omega)]
  · rw [run_cut_lo Tryd.underlying22 info40s (some ⟨g, 0, none⟩) (n + 1) cap (i : Int) (by omega) (by omega) W, Int.toNat_natCast, cutAt_own (by omega)]
theorem upon_known {P : Program} {o : Oper} {a : Act} {next : Act → World → Prop} {Q : Exit → Act → World → Prop} {r : Result Next} {v : Value} {w : World} (h : r = .ok (.value v) w) (hk : next (a.put o.dst v) w) : o.upon P a next Q r := by
  rw [h]
  exact hk
theorem upon_run {P : Program} {o : Oper} {a : Act} {next : Act → World → Prop} {Q : Exit → Act → World → Prop} {m : Sem Value} {v : Value} {w w1 : World} (h : m.run P w = .ok v w1) (hk : next (a.put o.dst v) w1) : o.upon P a next Q ((m.run P w).andThen fun x w' => .ok (.value x) w') := by
  rw [h]
  exact hk
set_option maxHeartbeats 4000000 in
set_option maxRecDepth 100000 in
theorem insertRoom_calls (gx : Nat) (x : S40) (g cap : Nat) (l : List S40) (i : Nat) (w : World) (base : Nat) (hR : Kd.R k40 40 w base (fun _ => True) (.slice (some ⟨g, 0, none⟩) l.length cap) l) (hi : i < l.length) (hroom : l.length + 1 ≤ cap) (hb : base ≤ w.heap.size) (hln : l.length ≤ 1000000) (hx : w.heap[gx]? = some (.cells #[.string x.f0, .string x.f1] 40 (0, 0))) (hne : gx ≠ g) :
    Calls Tryd.prog 43 #[.slice (some ⟨g, 0, none⟩) l.length cap, .int .i64 i, .slice (some ⟨gx, 0, none⟩) 1 1] w fun e w' => ∃ v', e = .returned v' ∧ Kd.R k40 40 w' base (fun _ => True) v' (l.take i ++ x :: l.drop i) ∧ Below base w w' := by
  obtain ⟨-, cur, hbg, hh, hnc, hcm, hcs, htk⟩ := row40 hR
  obtain ⟨n, hn⟩ : ∃ n, n = l.length := ⟨_, rfl⟩
  rw [← hn] at hi hroom hln hnc htk ⊢
  have hcz : cur.size ≠ 0 := by rw [hcs]; omega
  have hmx : maxLen ≤ 9223372036854775807 := by simp only [maxLen]; omega
  obtain ⟨c1, hc1⟩ : ∃ c1, c1 = enc2 (l.drop i) := ⟨_, rfl⟩
  have hc1l : c1.length = (n - i) * 2 := by rw [hc1, enc2_len, List.length_drop, ← hn]
  have hc1v : ∀ j v, c1[j]? = some v → w.cell? ⟨g, i * 2 + j, none⟩ = some v := fun j v hj => by
    rw [blk_cell hh, ← Array.getElem?_toList]
    rw [hc1, ← enc2_drop, ← htk, List.getElem?_drop, List.getElem?_take] at hj
    split at hj
    · exact hj
    · cases hj
  have hsome : ∀ k, k < cap * 2 → (w.cell? ⟨g, k, none⟩).isSome = true := fun k hk => by rw [blk_cell hh]; simp; omega
  have hcp1 : ∀ W : World, (∀ k, W.heap[k]? = w.heap[k]?) → ∀ ty dc sc, (Builtin.copy_ #[22, 22] ty #[.slice (some ⟨g, (i + 1) * 2, none⟩) (n + 1 - (i + 1)) dc, .slice (some ⟨g, i * 2, none⟩) (n + 1 - i) sc]).run Tryd.prog W = .ok (goInt (Nat.min (n + 1 - i) (n + 1 - (i + 1)))) (W.setCells g ((i + 1) * 2) c1) := fun W hW ty dc sc =>
    copy40_run W ty g ((i + 1) * 2) (n + 1 - (i + 1)) dc ⟨g, i * 2, none⟩ (n + 1 - i) sc c1 (by rw [hc1l]; simp only [Nat.min_def]; split <;> omega)
      (fun j v hj => by rw [Addr.add_lit, World.cell?_of_block (hW _)]; exact hc1v j v hj)
      (fun j hj => by rw [World.cell?_of_block (hW _)]; exact hsome _ (by omega)) (fun j hj => by rw [World.frozen?_of_block (hW _)]; exact blk_frozen hh _) (by rw [hc1]; exact enc2_one _)
  obtain ⟨W1, hW1⟩ : ∃ W1, W1 = w.drew.setCells g ((i + 1) * 2) c1 := ⟨_, rfl⟩
  obtain ⟨cur1, hh1, hs1, ht1⟩ := setCells_row c1 ((i + 1) * 2) w.drew cur hh (by omega)
  obtain ⟨q1, q2, q3, q4⟩ := setCells_same g c1 ((i + 1) * 2) w.drew
  rw [← hW1] at hh1 q1 q2 q3 q4
  have hx1 : W1.heap[gx]? = some (.cells #[.string x.f0, .string x.f1] 40 (0, 0)) := by rw [hW1, setCells_far c1 _ gx hne]; exact hx
  have hcp2 : ∀ ty dc, (Builtin.copy_ #[22, 22] ty #[.slice (some ⟨g, i * 2, none⟩) (n + 1 - i) dc, .slice (some ⟨gx, 0, none⟩) 1 1]).run Tryd.prog W1 = .ok (goInt (Nat.min 1 (n + 1 - i))) (W1.setCells g (i * 2) [.string x.f0, .string x.f1]) := fun ty dc =>
    copy40_run W1 ty g (i * 2) (n + 1 - i) dc ⟨gx, 0, none⟩ 1 1 [.string x.f0, .string x.f1] (by simp only [Nat.min_def]; split <;> simp; omega)
      (fun j v hj => by rw [Addr.add_lit, Nat.zero_add, blk_cell hx1, ← Array.getElem?_toList]; exact hj)
      (fun j hj => by have hj2 : j < 2 := hj; rw [blk_cell hh1]; simp; omega) (fun j hj => blk_frozen hh1 _) (by simp [Value.oneCell'])
  obtain ⟨W2, hW2⟩ : ∃ W2, W2 = W1.setCells g (i * 2) [.string x.f0, .string x.f1] := ⟨_, rfl⟩
  obtain ⟨cur2, hh2, hs2, ht2⟩ := setCells_row [Value.string x.f0, .string x.f1] (i * 2) W1 cur1 hh1 (by show i * 2 + 2 ≤ _; omega)
  obtain ⟨p1, p2, p3, p4⟩ := setCells_same g [Value.string x.f0, .string x.f1] (i * 2) W1
  rw [← hW2] at hh2 p1 p2 p3 p4
  have hfin : cur2.toList.take ((n + 1) * 2) = enc2 (l.take i ++ x :: l.drop i) := by
    have hcl : cur.toList.length = cap * 2 := by rw [Array.length_toList, hcs]
    have a1 : cur1.toList.take (i * 2) = enc2 (l.take i) := by
      rw [ht1, List.append_assoc, List.take_append_of_le_length (by rw [List.length_take, hcl]; omega), List.take_take, Nat.min_eq_left (by omega), ← enc2_take, ← htk, List.take_take, Nat.min_eq_left (by omega)]
    have a2 : cur1.toList.drop (i * 2 + 2) = c1 ++ cur.toList.drop ((i + 1) * 2 + c1.length) := by
      rw [ht1, List.append_assoc, List.drop_append_of_le_length (by rw [List.length_take, hcl]; omega), List.drop_eq_nil_of_le (by rw [List.length_take]; omega), List.nil_append]
    rw [ht2, a1]
    show (enc2 (l.take i) ++ [Value.string x.f0, .string x.f1] ++ cur1.toList.drop (i * 2 + 2)).take ((n + 1) * 2) = _
    have e3 : enc2 (l.take i ++ x :: l.drop i) = enc2 (l.take i) ++ [Value.string x.f0, .string x.f1] ++ c1 := by
      rw [enc2_app, hc1, List.append_assoc]
      rfl
    rw [a2, e3, ← List.append_assoc, List.take_append_of_le_length (by rw [← e3, enc2_len]; simp; omega), List.take_of_length_le (by rw [← e3, enc2_len]; simp; omega)]
  have hR2 : Kd.R k40 40 W2 base (fun _ => True) (.slice (some ⟨g, 0, none⟩) (n + 1) cap) (l.take i ++ x :: l.drop i) :=
    row40_mk (by simp; omega) hbg hh2 (by omega) hcm (by rw [hs2, hs1, hcs]) hfin
  have hB2 : Below base w W2 := ⟨p1.trans q1, p2.trans q2, p3.trans q3, by rw [p4, q4]; exact Nat.le_refl _, fun k hk => by
    rw [hW2, setCells_far _ _ k (by omega), hW1, setCells_far _ _ k (by omega)]
    rfl⟩
  obtain ⟨hwn, hwn', hwi, hwi', d1, d2⟩ := ins_nums n i cap hi hroom hln
  obtain ⟨kA, kB, kC, kD⟩ := ins_cuts g n i cap hi hroom hln
  have hov : ∀ lb cb, (callFunc 59 #[.slice (some ⟨gx, 0, none⟩) 1 1, .slice (some ⟨g, (i + 1) * 2, none⟩) lb cb]).run Tryd.prog w = .ok (.value (.bool false)) w := fun lb cb => overlaps_no hx hh hne hcz _ lb cb
  have HC1 := Aside0.mk (fun ty dc sc => hcp1 w.drew (fun _ => rfl) ty dc sc)
  rw [← hW1] at HC1
  have HC2 := Aside0.mk hcp2
  rw [← hW2] at HC2
  have HR2 := Aside0.mk hR2
  have HB2 := Aside0.mk hB2
  obtain ⟨V0, hV0⟩ : ∃ V0, V0 = Value.slice (some ⟨g, 0, none⟩) (n + 1) cap := ⟨_, rfl⟩
  obtain ⟨V1, hV1⟩ : ∃ V1, V1 = Value.slice (some ⟨g, (i + 1) * 2, none⟩) (n + 1 - (i + 1)) (cap - (i + 1)) := ⟨_, rfl⟩
  obtain ⟨V2, hV2⟩ : ∃ V2, V2 = Value.slice (some ⟨g, i * 2, none⟩) (n + 1 - i) (cap - i) := ⟨_, rfl⟩
  have hov1 : (callFunc 59 #[.slice (some ⟨gx, 0, none⟩) 1 1, V1]).run Tryd.prog w = .ok (.value (.bool false)) w := by rw [hV1]; exact hov _ _
  have KC1 : ∀ ty, (Builtin.copy_ #[22, 22] ty #[V1, V2]).run Tryd.prog w.drew = .ok (goInt (Nat.min (n + 1 - i) (n + 1 - (i + 1)))) W1 := fun ty => by rw [hV1, hV2]; exact HC1.out ty _ _
  have KC2 : ∀ ty, (Builtin.copy_ #[22, 22] ty #[V2, .slice (some ⟨gx, 0, none⟩) 1 1]).run Tryd.prog W1 = .ok (goInt (Nat.min 1 (n + 1 - i))) W2 := fun ty => by rw [hV2]; exact HC2.out ty _
  have HK1 := Aside0.mk KC1
  have HV0 := Aside0.mk hV0
  have HK2 := Aside0.mk KC2
  have HR3 := HR2
  rw [← hV0] at kB kC kD HR3
  rw [← hV1] at kC
  rw [← hV2] at kD
  rw [← hwn] at kB d2
  have kC' := kC
  rw [← hwi'] at kC'
  rw [← hwi] at kC
  have mixed : Tryd.prog.follows Departure.mixedOrders = true := by kernel_rfl
  generalize (cap - i) = ca at kA
  generalize (n - i) = na at kA
  generalize (some (⟨g, i * 2, none⟩ : Addr)) = Aa at kA
  clear hR2 hB2 hcp1 hcp2 hR hfin hx1 p1 p2 p3 p4 q1 q2 q3 q4 ht1 ht2 hs1 hs2 hh1 hh2 hW1 hW2 hcs htk hcm hmx hc1v hsome hc1l hc1 hn hx hh hb hln hbg hov HC1 HC2 KC1 KC2 HR2 hV0 hV1 hV2 hnc hroom hi hne hwn hwn' hwi hwi'
  go_enter Tryd.func43, Tryd.ntmps43
  go_wp2_with (with_reducible refine upon_known (v := .bool false) (w := w) hov1 ?_)
  go_region_law_o (refine copy_known_step rfl _ _ 22 22 rfl V1 V2 (by simp [Act.eval, Act.put]) (by simp [Act.eval, Act.put]) (HK1.out _) ?_)
  go_wp2_with (with_reducible refine upon_run (HK2.out _) ?_)
  have hV0 := HV0.out
  subst hV0
  go_ret
  exact ⟨_, rfl, HR3.out, HB2.out⟩
end Go.Proofs.YtefhngadeimklaaDoor.Q
end
section
set_option linter.unusedSimpArgs false
set_option linter.unusedVariables false
namespace Go.Proofs.YtefhngadeimklaaDoor.Q
open Go.RowKit Go.Proofs.YtefhngadeimklaaDoorW.PrintWords Go.Proofs.YtefhngadeimklaaDoorW.PrintLast Go.Proofs.YtefhngadeimklaaDoorW.PrintMore
attribute [local go_sem] max2_int min2_int max_two min_two max_three min_three max_four min_four
theorem below_setCells {base g : Nat} {w W : World} (h : Below base w W) (hg : base ≤ g) (cs : List Value) (o : Nat) : Below base w (W.setCells g o cs) := by
  obtain ⟨a1, a2, a3, a4, a5⟩ := h
  obtain ⟨q1, q2, q3, q4⟩ := setCells_same g cs o W
  exact ⟨q1.trans a1, q2.trans a2, q3.trans a3, by rw [q4]; exact a4, fun k hk => by rw [setCells_far _ _ k (by omega)]; exact a5 k hk⟩
theorem zero40_size (k : Nat) : (Builtin.zeroCells (Value.agg #[(.string ⟨#[]⟩), (.string ⟨#[]⟩)]).cells k).size = k * 2 := by
  simp [Builtin.zeroCells, Value.cells]
theorem grow_nums (n i cap : Nat) (hi : i < n) (hroom : cap < n + 1) (hln : n ≤ 1000000) : wrap64 ((n : Int) + 1) = (n : Int) + 1 ∧ wrap64 (wrap64 ((n : Int) + 1) - (i : Int)) = ((n + 1 - i : Nat) : Int) ∧ IntKind.i64.wrap ((i : Int) + 1) = (i : Int) + 1 ∧ ((i : Int) == (n : Int)) = false ∧ decide ((cap : Int) < (n : Int) + 1) = true := by
  have a1 := wrap_small ((n : Int) + 1) (by omega) (by omega)
  have a2 := wrap_small ((i : Int) + 1) (by omega) (by omega)
  have a3 := wrap_small ((n : Int) + 1 - (i : Int)) (by omega) (by omega)
  exact ⟨a1, by rw [a1, a3]; omega, (i64_w _).trans a2, beq_false_of_ne (by omega), decide_eq_true (by omega)⟩
theorem grow_cuts (g n i cap H G : Nat) (hi : i < n) (hnc : n ≤ cap) (hG : n + 1 ≤ G) (hln : n ≤ 1000000) :
    (∀ W : World, (Instr.slice 22 (.slice (some ⟨g, 0, none⟩) n cap) (some (.int .i64 i)) none none).run Tryd.prog W = .ok (.slice (some ⟨g, i * 2, none⟩) (n - i) (cap - i)) W) ∧
    (∀ W : World, (Instr.slice 22 (.slice (some ⟨g, 0, none⟩) n cap) none (some (.int .i64 i)) none).run Tryd.prog W = .ok (.slice (some ⟨g, 0, none⟩) i cap) W) ∧
    (∀ W : World, (Instr.slice 22 (.slice (some ⟨H, 0, none⟩) (n + 1) G) (some (.int .i64 ((i : Int) + 1))) none none).run Tryd.prog W = .ok (.slice (some ⟨H, (i + 1) * 2, none⟩) (n + 1 - (i + 1)) (G - (i + 1))) W) ∧
    (∀ W : World, (Instr.slice 22 (.slice (some ⟨H, 0, none⟩) (n + 1) G) (some (.int .i64 i)) none none).run Tryd.prog W = .ok (.slice (some ⟨H, i * 2, none⟩) (n + 1 - i) (G - i)) W) := by
  refine ⟨fun W => ?_, fun W => ?_, fun W => ?_, fun W => ?_⟩
  · rw [run_cut_lo Tryd.underlying22 info40s (some ⟨g, 0, none⟩) n cap (i : Int) (by omega) (by omega) W, Int.toNat_natCast, cutAt_own (by omega)]
  · rw [run_cut_hi Tryd.underlying22 info40s (some ⟨g, 0, none⟩) n cap (i : Int) (by omega) (by omega) W, Int.toNat_natCast]
  · rw [run_cut_lo Tryd.underlying22 info40s (some ⟨H, 0, none⟩) (n + 1) G ((i : Int) + 1) (by omega) (by omega) W, show ((i : Int) + 1).toNat = i + 1 by omega, cutAt_own (by omega)]
  · rw [run_cut_lo Tryd.underlying22 info40s (some ⟨H, 0, none⟩) (n + 1) G (i : Int) (by omega) (by omega) W, Int.toNat_natCast, cutAt_own (by omega)]
/-- The memory's side: the new row, and both copies into it. -/
theorem grow_mem (gx : Nat) (x : S40) (g cap n : Nat) (l : List S40) (i : Nat) (w : World) (base : Nat) (cur : Array Value) (hh : w.heap[g]? = some (.cells cur 40 (0, 0))) (hn : n = l.length) (htk : cur.toList.take (n * 2) = enc2 l) (hcs : cur.size = cap * 2) (hi : i < n) (hnc : n ≤ cap)
    (hx : w.heap[gx]? = some (.cells #[.string x.f0, .string x.f1] 40 (0, 0))) (hb : base ≤ w.heap.size) (ROW : Array Value) (G : Nat) (Z : List Value) (hROW : ROW.toList = enc2 (l.take i) ++ Z) (hRs : ROW.size = G * 2) (hG : n + 1 ≤ G) (hGm : G ≤ maxLen) (W1 : World) (hW1 : W1 = w.drew.alloc (.cells ROW 40)) :
    ∃ W2 W3 : World, (∀ ty dc, (Builtin.copy_ #[22, 22] ty #[.slice (some ⟨w.heap.size, i * 2, none⟩) (n + 1 - i) dc, .slice (some ⟨gx, 0, none⟩) 1 1]).run Tryd.prog W1 = .ok (goInt (Nat.min 1 (n + 1 - i))) W2) ∧
      (∀ ty dc sc, (Builtin.copy_ #[22, 22] ty #[.slice (some ⟨w.heap.size, (i + 1) * 2, none⟩) (n + 1 - (i + 1)) dc, .slice (some ⟨g, i * 2, none⟩) (n - i) sc]).run Tryd.prog W2.drew = .ok (goInt (Nat.min (n - i) (n + 1 - (i + 1)))) W3) ∧
      Kd.R k40 40 W3 base (fun _ => True) (.slice (some ⟨w.heap.size, 0, none⟩) (n + 1) G) (l.take i ++ x :: l.drop i) ∧ Below base w W3 := by
  have hgl := blk_lt hh
  have hxl := blk_lt hx
  have hH : W1.heap[w.heap.size]? = some (.cells ROW 40 (0, 0)) := by rw [hW1]; exact heap_alloc_new w.drew _
  have hB1' : Below w.heap.size w W1 := by rw [hW1]; exact below_alloc (below_drew (Below.refl _ _)) _
  have hB1 : Below base w W1 := ⟨hB1'.1, hB1'.2, hB1'.3, hB1'.4, fun k hk => hB1'.5 k (by omega)⟩
  have hg1 : W1.heap[g]? = some (.cells cur 40 (0, 0)) := by rw [hB1'.block g hgl]; exact hh
  have hx1 : W1.heap[gx]? = some (.cells #[.string x.f0, .string x.f1] 40 (0, 0)) := by rw [hB1'.block gx hxl]; exact hx
  obtain ⟨W2, hW2⟩ : ∃ W2, W2 = W1.setCells w.heap.size (i * 2) [.string x.f0, .string x.f1] := ⟨_, rfl⟩
  obtain ⟨cur2, hh2, hs2, ht2⟩ := setCells_row [Value.string x.f0, .string x.f1] (i * 2) W1 ROW hH (by show i * 2 + 2 ≤ _; omega)
  rw [← hW2] at hh2
  obtain ⟨c1, hc1⟩ : ∃ c1, c1 = enc2 (l.drop i) := ⟨_, rfl⟩
  have hc1l : c1.length = (n - i) * 2 := by rw [hc1, enc2_len, List.length_drop, ← hn]
  obtain ⟨W3, hW3⟩ : ∃ W3, W3 = W2.drew.setCells w.heap.size ((i + 1) * 2) c1 := ⟨_, rfl⟩
  obtain ⟨cur3, hh3, hs3, ht3⟩ := setCells_row c1 ((i + 1) * 2) W2.drew cur2 hh2 (by omega)
  rw [← hW3] at hh3
  have hg2 : W2.heap[g]? = some (.cells cur 40 (0, 0)) := by rw [hW2, setCells_far _ _ g (by omega)]; exact hg1
  refine ⟨W2, W3, fun ty dc => ?_, fun ty dc sc => ?_, ?_, ?_⟩
  · rw [hW2]
    exact copy40_run W1 ty w.heap.size (i * 2) (n + 1 - i) dc ⟨gx, 0, none⟩ 1 1 [.string x.f0, .string x.f1] (by simp only [Nat.min_def]; split <;> simp; omega)
      (fun j v hj => by rw [Addr.add_lit, Nat.zero_add, blk_cell hx1, ← Array.getElem?_toList]; exact hj)
      (fun j hj => by have hj2 : j < 2 := hj; rw [blk_cell hH]; simp; omega) (fun j hj => blk_frozen hH _) (by simp [Value.oneCell'])
  · rw [hW3]
    exact copy40_run W2.drew ty w.heap.size ((i + 1) * 2) (n + 1 - (i + 1)) dc ⟨g, i * 2, none⟩ (n - i) sc c1 (by rw [hc1l]; simp only [Nat.min_def]; split <;> omega)
      (fun j v hj => by
        rw [Addr.add_lit, blk_cell (show W2.drew.heap[g]? = _ from hg2), ← Array.getElem?_toList]
        rw [hc1, ← enc2_drop, ← htk, List.getElem?_drop, List.getElem?_take] at hj
        split at hj
        · exact hj
        · cases hj)
      (fun j hj => by rw [blk_cell (show W2.drew.heap[w.heap.size]? = _ from hh2)]; simp; omega) (fun j hj => blk_frozen (show W2.drew.heap[w.heap.size]? = _ from hh2) _) (by rw [hc1]; exact enc2_one _)
  · have hl1 : (enc2 (l.take i)).length = i * 2 := by rw [enc2_len, List.length_take, Nat.min_eq_left (by omega)]
    have hZ : 2 ≤ Z.length := by
      have h : ROW.toList.length = _ := congrArg List.length hROW
      rw [Array.length_toList, hRs, List.length_append, hl1] at h
      omega
    have a0 : ROW.toList.take (i * 2) = enc2 (l.take i) := by rw [hROW, ← hl1, List.take_left]
    have a2 : cur2.toList.take ((i + 1) * 2) = enc2 (l.take i) ++ [.string x.f0, .string x.f1] := by
      rw [ht2, a0, List.take_append_of_le_length (by rw [List.length_append, hl1]; simp; omega), List.take_of_length_le (by rw [List.length_append, hl1]; simp; omega)]
    have e3 : enc2 (l.take i ++ x :: l.drop i) = enc2 (l.take i) ++ [Value.string x.f0, .string x.f1] ++ c1 := by
      rw [enc2_app, hc1, List.append_assoc]
      rfl
    refine row40_mk (by simp; omega) hb hh3 hG hGm (by rw [hs3, hs2, hRs]) ?_
    rw [ht3, a2, ← e3, List.take_append_of_le_length (by rw [enc2_len]; simp; omega), List.take_of_length_le (by rw [enc2_len]; simp; omega)]
  · rw [hW3]
    refine below_setCells (below_drew ?_) hb _ _
    rw [hW2]
    exact below_setCells hB1 hb _ _
set_option maxHeartbeats 4000000 in
set_option maxRecDepth 100000 in
theorem insertGrow_calls (gx : Nat) (x : S40) (g cap : Nat) (l : List S40) (i : Nat) (w : World) (base : Nat) (hR : Kd.R k40 40 w base (fun _ => True) (.slice (some ⟨g, 0, none⟩) l.length cap) l) (hi : i < l.length) (hroom : cap < l.length + 1) (hb : base ≤ w.heap.size) (hln : l.length ≤ 1000000) (hx : w.heap[gx]? = some (.cells #[.string x.f0, .string x.f1] 40 (0, 0))) :
    Calls Tryd.prog 43 #[.slice (some ⟨g, 0, none⟩) l.length cap, .int .i64 i, .slice (some ⟨gx, 0, none⟩) 1 1] w fun e w' => ∃ v', e = .returned v' ∧ Kd.R k40 40 w' base (fun _ => True) v' (l.take i ++ x :: l.drop i) ∧ Below base w w' := by
  obtain ⟨-, cur, hbg, hh, hnc, hcm, hcs, htk⟩ := row40 hR
  obtain ⟨n, hn⟩ : ∃ n, n = l.length := ⟨_, rfl⟩
  rw [← hn] at hi hroom hln hnc htk ⊢
  obtain ⟨hwn, hw3, hwi', d1, d2⟩ := grow_nums n i cap hi hroom hln
  obtain ⟨i0, hi0, hz0, hz1, hz2⟩ := info_parts info40
  have hold : (Builtin.firstCells i0.size i (.slice (some ⟨g, 0, none⟩) i cap)).run Tryd.prog w.drew = .ok (enc2 (l.take i)).toArray w.drew := by
    rw [hz1]
    refine run_firstCells_some w.drew 2 i ⟨g, 0, none⟩ i cap (enc2 (l.take i)) (by rw [enc2_len, List.length_take, Nat.min_eq_left (by omega)]) (fun j v hj => ?_)
    rw [Addr.add_lit, Nat.zero_add, blk_cell (show w.drew.heap[g]? = _ from hh), ← Array.getElem?_toList]
    rw [← enc2_take, ← htk, List.getElem?_take, List.getElem?_take] at hj
    split at hj
    · split at hj
      · exact hj
      · cases hj
    · cases hj
  have hrz : ∀ ty, _ := fun ty => Lib.run_append_grow_zeros w 22 3 ty 40 i0 _ .i64 .i64 Tryd.underlying22 Tryd.underlying3 hi0 hz0 (some ⟨g, 0, none⟩) i cap (enc2 (l.take i)) hold (n + 1 - i) (by omega) (by rw [hz1]; decide) (by omega) (by omega) (by rw [hz2]; omega) (by rw [hz2]; exact growslice_fits (by omega) (by omega))
  obtain ⟨G, hGe⟩ : ∃ G, G = grownCap w (i + (n + 1 - i)) cap 40 := ⟨_, rfl⟩
  have hG : n + 1 ≤ G := by
    have := grownCap_ge w (i + (n + 1 - i)) cap 40
    omega
  have hGm : G ≤ maxLen := by
    rw [hGe]
    exact grownCap_le_maxLen w _ cap 40 (by unfold maxLen; omega)
  rw [← hGe, show i + (n + 1 - i) = n + 1 by omega] at hrz
  obtain ⟨ROW, hROW⟩ : ∃ ROW : Array Value, ROW = (enc2 (l.take i)).toArray ++ Builtin.zeroCells (Value.agg #[(.string ⟨#[]⟩), (.string ⟨#[]⟩)]).cells (n + 1 - i) ++ Builtin.zeroCells (Value.agg #[(.string ⟨#[]⟩), (.string ⟨#[]⟩)]).cells (G - (n + 1)) := ⟨_, rfl⟩
  rw [← hROW, ← hw3] at hrz
  have hRs : ROW.size = G * 2 := by
    rw [hROW, Array.size_append, Array.size_append, zero40_size, zero40_size, List.size_toArray, enc2_len, List.length_take, Nat.min_eq_left (by omega)]
    omega
  obtain ⟨W1, hW1⟩ : ∃ W1, W1 = w.drew.alloc (.cells ROW 40) := ⟨_, rfl⟩
  rw [← hW1] at hrz
  obtain ⟨W2, W3, hcp1, hcp2, hR3, hB3⟩ := grow_mem gx x g cap n l i w base cur hh hn htk hcs hi hnc hx hb ROW G _ (by rw [hROW, Array.toList_append, Array.toList_append, List.append_assoc]) hRs hG hGm W1 hW1
  obtain ⟨kA, kE, kG, kF⟩ := grow_cuts g n i cap w.heap.size G hi hnc hG hln
  obtain ⟨V9, hV9⟩ : ∃ V9, V9 = Value.slice (some ⟨w.heap.size, 0, none⟩) (n + 1) G := ⟨_, rfl⟩
  obtain ⟨VE, hVE⟩ : ∃ VE, VE = Value.slice (some ⟨g, 0, none⟩) i cap := ⟨_, rfl⟩
  obtain ⟨VA, hVA⟩ : ∃ VA, VA = Value.slice (some ⟨g, i * 2, none⟩) (n - i) (cap - i) := ⟨_, rfl⟩
  obtain ⟨VF, hVF⟩ : ∃ VF, VF = Value.slice (some ⟨w.heap.size, i * 2, none⟩) (n + 1 - i) (G - i) := ⟨_, rfl⟩
  obtain ⟨VG, hVG⟩ : ∃ VG, VG = Value.slice (some ⟨w.heap.size, (i + 1) * 2, none⟩) (n + 1 - (i + 1)) (G - (i + 1)) := ⟨_, rfl⟩
  rw [← hV9, ← hVE] at hrz
  have KC1 := fun ty => hcp1 ty (G - i)
  have KC2 := fun ty => hcp2 ty (G - (i + 1)) (cap - i)
  rw [← hVF] at KC1 kF
  rw [← hVG, ← hVA] at KC2
  rw [← hVA] at kA
  rw [← hVE] at kE
  rw [← hV9, ← hVG] at kG
  rw [← hV9] at kF hR3
  have kG' := kG
  rw [← hwi'] at kG'
  rw [← hwn] at d2
  have mixed : Tryd.prog.follows Departure.mixedOrders = true := by kernel_rfl
  have HRZ := Aside0.mk hrz
  have HK1 := Aside0.mk KC1
  have HK2 := Aside0.mk KC2
  have HR3 := Aside0.mk hR3
  have HB3 := Aside0.mk hB3
  have HV9 := Aside0.mk hV9
  clear hrz KC1 KC2 hR3 hB3 hV9 hVE hVA hVF hVG hcp1 hcp2 hRs hROW hG hGm hGe hold hi0 hz0 hz1 hz2 hwn hw3 hwi' hR hi hroom hb hln hx hn hbg hh hnc hcm hcs htk hW1 kG
  go_enter Tryd.func43, Tryd.ntmps43
  go_wp2_with (first
    | ((with_reducible refine gate_builtin (b := .append) (xs := #[.tmp 34, .tmp 39]) rfl ?_); at_builtin; refine Lib.wpList_append_run _ rfl _ _ _ _ rfl _ _ rfl rfl _ _ (HRZ.out _) ?_)
    | (with_reducible refine upon_run (HK1.out _) ?_))
  go_region_law_o (refine copy_known_step rfl _ _ 22 22 rfl VG VA (by simp [Act.eval, Act.put]) (by simp [Act.eval, Act.put]) (HK2.out _) ?_)
  go_wp2
  have hV9 := HV9.out
  subst hV9
  go_ret
  exact ⟨_, rfl, HR3.out, HB3.out⟩
end Go.Proofs.YtefhngadeimklaaDoor.Q
end
section
namespace Go.Proofs.YtefhngadeimklaaDoor.Q
open Go.RowKit Go.Proofs.YtefhngadeimklaaDoorW.PrintWords Go.Proofs.YtefhngadeimklaaDoorW.PrintLast Go.Proofs.YtefhngadeimklaaDoorW.PrintMore
set_option linter.unusedVariables false
set_option linter.unusedSimpArgs false

attribute [local go_sem] max2_int min2_int max_two min_two max_three min_three max_four min_four
/-! ### digit_fit: function 77 -/
def digit_fit.f (a0 : Int) : Option (Bool) := if a0 ≥ 2 then (some (decide (a0 ≤ 36))) else (some false)
set_option maxHeartbeats 8000000 in
set_option maxRecDepth 100000 in
theorem digit_fit.calls (a0 : Int) (r : Bool) (w : World) (h : digit_fit.f a0 = some r) :
    Calls Tryd.prog 77 #[.int .u32 a0] w fun e w' => e = .returned (.bool r) ∧ Drawn0 w w' := by
  have H : (if a0 ≥ 2 then (some (decide (a0 ≤ 36))) else (some false)) = some r := h
  clear h
  by_cases c2 : a0 ≥ 2
  · rw [if_pos c2] at H
    have c2b0 : decide (2 ≤ a0) = true := decide_eq_true c2
    clear c2
    obtain rfl := Option.some.inj H
    go_enter Tryd.func77, Tryd.ntmps77
    go_wp2
    go_ret
    exact ⟨by first | rfl | (simp; done) | (simp [*]; done), by repeat (first | exact Drawn0.refl _ | apply Drawn0.step)⟩
  · rw [if_neg c2] at H
    have c2b0 : decide (2 ≤ a0) = false := decide_eq_false c2
    clear c2
    obtain rfl := Option.some.inj H
    go_enter Tryd.func77, Tryd.ntmps77
    go_wp2
    go_ret
    exact ⟨by first | rfl | (simp; done) | (simp [*]; done), by repeat (first | exact Drawn0.refl _ | apply Drawn0.step)⟩

end Go.Proofs.YtefhngadeimklaaDoor.Q
end
section
namespace Go.Proofs.YtefhngadeimklaaDoor.Q
open Go.RowKit Go.Proofs.YtefhngadeimklaaDoorW.PrintWords Go.Proofs.YtefhngadeimklaaDoorW.PrintLast Go.Proofs.YtefhngadeimklaaDoorW.PrintMore
set_option linter.unusedVariables false
set_option linter.unusedSimpArgs false

attribute [local go_sem] max2_int min2_int max_two min_two max_three min_three max_four min_four
/-! ### digit_Value: function 79 -/
mutual
def digit_Value.j0 : Nat → Int → Int → Int → Bool → Option (Int × Bool)
  | 0, _, _, _, _ => none
  | k + 1, x0, x1, x6, x7 => if x7 = true then ((digit_fit.f x1).bind fun t80001 => (if t80001 = true then (if ((x0 - 48) % 256) ≥ x1 then (some (0, false)) else (some ((x0 - 48) % 256, true))) else (some (0, false)))) else (if x0 ≥ 97 then (digit_Value.j1 k x0 x1 x6 (decide (x0 ≤ 122))) else (digit_Value.j1 k x0 x1 x6 false))
def digit_Value.j1 : Nat → Int → Int → Int → Bool → Option (Int × Bool)
  | 0, _, _, _, _ => none
  | k + 1, x0, x1, x6, x17 => if x17 = true then ((digit_fit.f x1).bind fun t80002 => (if t80002 = true then (if (((x0 - 97) % 256) + 10) ≥ x1 then (some (0, false)) else (some (((x0 - 97) % 256) + 10, true))) else (some (0, false)))) else (if x0 ≥ 65 then (digit_Value.j2 k x0 x1 x6 (decide (x0 ≤ 90))) else (digit_Value.j2 k x0 x1 x6 false))
def digit_Value.j2 : Nat → Int → Int → Int → Bool → Option (Int × Bool)
  | 0, _, _, _, _ => none
  | k + 1, x0, x1, x6, x28 => if x28 = true then ((digit_fit.f x1).bind fun t80003 => (if t80003 = true then (if (((x0 - 65) % 256) + 10) ≥ x1 then (some (0, false)) else (some (((x0 - 65) % 256) + 10, true))) else (some (0, false)))) else ((digit_fit.f x1).bind fun t80004 => (if t80004 = true then (if x6 ≥ x1 then (some (0, false)) else (some (x6, true))) else (some (0, false))))
end
def digit_Value.f (k : Nat) (a0 : Int) (a1 : Int) : Option (Int × Bool) := if a0 ≥ 48 then (digit_Value.j0 k a0 a1 255 (decide (a0 ≤ 57))) else (digit_Value.j0 k a0 a1 255 false)
set_option maxHeartbeats 8000000 in
set_option maxRecDepth 100000 in
theorem digit_Value.calls (k : Nat) (a0 : Int) (a1 : Int) (r1 : Int) (r2 : Bool) (w : World) (h : digit_Value.f k a0 a1 = some (r1, r2)) :
    Calls Tryd.prog 79 #[.int .u8 a0, .int .u32 a1] w fun e w' => e = .returned (.tuple #[.int .u32 r1, .bool r2]) ∧ Drawn0 w w' := by
  have H : (if a0 ≥ 48 then (digit_Value.j0 k a0 a1 255 (decide (a0 ≤ 57))) else (digit_Value.j0 k a0 a1 255 false)) = some (r1, r2) := h
  clear h
  have HC3 := Aside0.mk H
  clear H
  go_enter Tryd.func79, Tryd.ntmps79
  go_upto_region 2 with (fail)
  go_cut [7] (fun v7 wc => ∃ (kq : Nat) (x7_2 : Bool), v7 = .bool x7_2 ∧ Aside0 (digit_Value.j0 kq a0 a1 255 x7_2 = some (r1, r2)) ∧ Aside0 (kq ≤ k) ∧ Drawn0 w wc)
  case first =>
    have H := HC3.out
    clear HC3
    by_cases c4 : a0 ≥ 48
    · rw [if_pos c4] at H
      have c4b0 : decide (48 ≤ a0) = true := decide_eq_true c4
      clear c4
      (first | rw [c4b0] | (simp only [i64_w, i32_w]; rw [c4b0]) | skip)
      have H' := Aside0.mk H
      clear H
      go_wp2
      go_meet
      case rel => exact ⟨_, (decide (a0 ≤ 57)), (by first | rfl | (simp; done) | (simp [*]; done)), H', ⟨by first | omega | exact Nat.le_refl _⟩, by repeat (first | exact Drawn0.refl _ | apply Drawn0.step)⟩
    · rw [if_neg c4] at H
      have c4b0 : decide (48 ≤ a0) = false := decide_eq_false c4
      clear c4
      (first | rw [c4b0] | (simp only [i64_w, i32_w]; rw [c4b0]) | skip)
      have H' := Aside0.mk H
      clear H
      go_wp2
      go_meet
      case rel => exact ⟨_, (false), (by first | rfl | (simp; done) | (simp [*]; done)), H', ⟨by first | omega | exact Nat.le_refl _⟩, by repeat (first | exact Drawn0.refl _ | apply Drawn0.step)⟩
  case rest =>
    clear HC3
    try clear p2
    try clear c4
    try clear c4b0
    obtain ⟨kq, x7_2, rfl, HA, HJ2, ⟨mc2, rfl⟩⟩ := hcut
    cases kq with
    | zero => exact absurd HA.out (by simp [digit_Value.j0])
    | succ kj2 =>
      have H := HA.out
      clear HA
      simp only [digit_Value.j0] at H
      by_cases c5 : x7_2 = true
      · subst c5
        have H1 : ((digit_fit.f a1).bind fun t80001 => (if t80001 = true then (if ((a0 - 48) % 256) ≥ a1 then (some (0, false)) else (some ((a0 - 48) % 256, true))) else (some (0, false)))) = some (r1, r2) := by rw [if_pos rfl] at H; exact H
        clear H
        have H := H1
        clear H1
        replace H := Option.bind_eq_some_iff.mp H
        obtain ⟨t80001, A60, H⟩ := H
        replace H : (if t80001 = true then (if ((a0 - 48) % 256) ≥ a1 then (some (0, false)) else (some ((a0 - 48) % 256, true))) else (some (0, false))) = some (r1, r2) := H
        have A6 := Aside0.mk A60
        clear A60
        by_cases c7 : t80001 = true
        · subst c7
          have H1 : (if ((a0 - 48) % 256) ≥ a1 then (some (0, false)) else (some ((a0 - 48) % 256, true))) = some (r1, r2) := by rw [if_pos rfl] at H; exact H
          clear H
          have H := H1
          clear H1
          by_cases c8 : ((a0 - 48) % 256) ≥ a1
          · rw [if_pos c8] at H
            have c8b0 : decide (a1 ≤ ((a0 - 48) % 256)) = true := decide_eq_true c8
            clear c8
            simp only [Option.some.injEq, Prod.mk.injEq] at H
            obtain ⟨rfl, rfl⟩ := H
            go_wp2_with (first | ((with_reducible refine gate_callee (f := 77) rfl ?_); refine goesL_ (some 40) rfl rfl Tryd.func77 (by kernel_rfl) rfl #[.int .u32 a1] rfl (by (try simp only [List.map_toArray, List.map_cons, List.map_nil]); first | done | rfl | (simp only [List.length_drop, List.length_take]; rfl)) ?_; (with_reducible refine (digit_fit.calls a1 true _ A6.out).mono ?_); rintro e w' ⟨rfl, ⟨nd, rfl⟩⟩; refine ⟨_, rfl, ?_⟩))
            go_ret2
            exact ⟨by first | rfl | (simp; done) | (simp [*]; done), by repeat (first | exact Drawn0.refl _ | apply Drawn0.step)⟩
          · rw [if_neg c8] at H
            have c8b0 : decide (a1 ≤ ((a0 - 48) % 256)) = false := decide_eq_false c8
            clear c8
            simp only [Option.some.injEq, Prod.mk.injEq] at H
            obtain ⟨rfl, rfl⟩ := H
            go_wp2_with (first | ((with_reducible refine gate_callee (f := 77) rfl ?_); refine goesL_ (some 40) rfl rfl Tryd.func77 (by kernel_rfl) rfl #[.int .u32 a1] rfl (by (try simp only [List.map_toArray, List.map_cons, List.map_nil]); first | done | rfl | (simp only [List.length_drop, List.length_take]; rfl)) ?_; (with_reducible refine (digit_fit.calls a1 true _ A6.out).mono ?_); rintro e w' ⟨rfl, ⟨nd, rfl⟩⟩; refine ⟨_, rfl, ?_⟩))
            go_ret2
            exact ⟨by first | rfl | (simp; done) | (simp [*]; done), by repeat (first | exact Drawn0.refl _ | apply Drawn0.step)⟩
        · replace c7 := Bool.eq_false_iff.mpr c7
          subst c7
          have H1 : (some (0, false)) = some (r1, r2) := by rw [if_neg (show ¬ (false = true) by decide)] at H; exact H
          clear H
          have H := H1
          clear H1
          simp only [Option.some.injEq, Prod.mk.injEq] at H
          obtain ⟨rfl, rfl⟩ := H
          go_wp2_with (first | ((with_reducible refine gate_callee (f := 77) rfl ?_); refine goesL_ (some 40) rfl rfl Tryd.func77 (by kernel_rfl) rfl #[.int .u32 a1] rfl (by (try simp only [List.map_toArray, List.map_cons, List.map_nil]); first | done | rfl | (simp only [List.length_drop, List.length_take]; rfl)) ?_; (with_reducible refine (digit_fit.calls a1 false _ A6.out).mono ?_); rintro e w' ⟨rfl, ⟨nd, rfl⟩⟩; refine ⟨_, rfl, ?_⟩))
          go_ret2
          exact ⟨by first | rfl | (simp; done) | (simp [*]; done), by repeat (first | exact Drawn0.refl _ | apply Drawn0.step)⟩
      · replace c5 := Bool.eq_false_iff.mpr c5
        subst c5
        have H1 : (if a0 ≥ 97 then (digit_Value.j1 kj2 a0 a1 255 (decide (a0 ≤ 122))) else (digit_Value.j1 kj2 a0 a1 255 false)) = some (r1, r2) := by rw [if_neg (show ¬ (false = true) by decide)] at H; exact H
        clear H
        have H := H1
        clear H1
        have HC9 := Aside0.mk H
        clear H
        go_upto_region 4 with (fail)
        go_cut [17] (fun v17 wc => ∃ (kq : Nat) (x17_8 : Bool), v17 = .bool x17_8 ∧ Aside0 (digit_Value.j1 kq a0 a1 255 x17_8 = some (r1, r2)) ∧ Aside0 (kq ≤ kj2) ∧ Drawn0 w wc)
        case first =>
          have H := HC9.out
          clear HC9
          by_cases c10 : a0 ≥ 97
          · rw [if_pos c10] at H
            have c10b0 : decide (97 ≤ a0) = true := decide_eq_true c10
            clear c10
            (first | rw [c10b0] | (simp only [i64_w, i32_w]; rw [c10b0]) | skip)
            have H' := Aside0.mk H
            clear H
            go_wp2
            go_meet
            case rel => exact ⟨_, (decide (a0 ≤ 122)), (by first | rfl | (simp; done) | (simp [*]; done)), H', ⟨by have := HJ2.out; first | omega | exact Nat.le_refl _⟩, by repeat (first | exact Drawn0.refl _ | apply Drawn0.step)⟩
          · rw [if_neg c10] at H
            have c10b0 : decide (97 ≤ a0) = false := decide_eq_false c10
            clear c10
            (first | rw [c10b0] | (simp only [i64_w, i32_w]; rw [c10b0]) | skip)
            have H' := Aside0.mk H
            clear H
            go_wp2
            go_meet
            case rel => exact ⟨_, (false), (by first | rfl | (simp; done) | (simp [*]; done)), H', ⟨by have := HJ2.out; first | omega | exact Nat.le_refl _⟩, by repeat (first | exact Drawn0.refl _ | apply Drawn0.step)⟩
        case rest =>
          clear HC9
          try clear c1
          try clear c2
          try clear p2
          try clear c4
          try clear c4b0
          try clear c5
          try clear c7
          try clear c8
          try clear c8b0
          try clear c10
          try clear c10b0
          try clear p2
          obtain ⟨kq, x17_8, rfl, HA, HJ8, ⟨mc8, rfl⟩⟩ := hcut
          cases kq with
          | zero => exact absurd HA.out (by simp [digit_Value.j1])
          | succ kj8 =>
            have H := HA.out
            clear HA
            simp only [digit_Value.j1] at H
            by_cases c11 : x17_8 = true
            · subst c11
              have H1 : ((digit_fit.f a1).bind fun t80002 => (if t80002 = true then (if (((a0 - 97) % 256) + 10) ≥ a1 then (some (0, false)) else (some (((a0 - 97) % 256) + 10, true))) else (some (0, false)))) = some (r1, r2) := by rw [if_pos rfl] at H; exact H
              clear H
              have H := H1
              clear H1
              replace H := Option.bind_eq_some_iff.mp H
              obtain ⟨t80002, A120, H⟩ := H
              replace H : (if t80002 = true then (if (((a0 - 97) % 256) + 10) ≥ a1 then (some (0, false)) else (some (((a0 - 97) % 256) + 10, true))) else (some (0, false))) = some (r1, r2) := H
              have A12 := Aside0.mk A120
              clear A120
              by_cases c13 : t80002 = true
              · subst c13
                have H1 : (if (((a0 - 97) % 256) + 10) ≥ a1 then (some (0, false)) else (some (((a0 - 97) % 256) + 10, true))) = some (r1, r2) := by rw [if_pos rfl] at H; exact H
                clear H
                have H := H1
                clear H1
                by_cases c14 : (((a0 - 97) % 256) + 10) ≥ a1
                · rw [if_pos c14] at H
                  have c14b0 : decide (a1 ≤ (((a0 - 97) % 256) + 10)) = true := decide_eq_true c14
                  clear c14
                  simp only [Option.some.injEq, Prod.mk.injEq] at H
                  obtain ⟨rfl, rfl⟩ := H
                  go_wp2_with (first | ((with_reducible refine gate_callee (f := 77) rfl ?_); refine goesL_ (some 40) rfl rfl Tryd.func77 (by kernel_rfl) rfl #[.int .u32 a1] rfl (by (try simp only [List.map_toArray, List.map_cons, List.map_nil]); first | done | rfl | (simp only [List.length_drop, List.length_take]; rfl)) ?_; (with_reducible refine (digit_fit.calls a1 true _ A12.out).mono ?_); rintro e w' ⟨rfl, ⟨nd, rfl⟩⟩; refine ⟨_, rfl, ?_⟩))
                  go_ret2
                  exact ⟨by first | rfl | (simp; done) | (simp [*]; done), by repeat (first | exact Drawn0.refl _ | apply Drawn0.step)⟩
                · rw [if_neg c14] at H
                  have c14b0 : decide (a1 ≤ (((a0 - 97) % 256) + 10)) = false := decide_eq_false c14
                  clear c14
                  simp only [Option.some.injEq, Prod.mk.injEq] at H
                  obtain ⟨rfl, rfl⟩ := H
                  go_wp2_with (first | ((with_reducible refine gate_callee (f := 77) rfl ?_); refine goesL_ (some 40) rfl rfl Tryd.func77 (by kernel_rfl) rfl #[.int .u32 a1] rfl (by (try simp only [List.map_toArray, List.map_cons, List.map_nil]); first | done | rfl | (simp only [List.length_drop, List.length_take]; rfl)) ?_; (with_reducible refine (digit_fit.calls a1 true _ A12.out).mono ?_); rintro e w' ⟨rfl, ⟨nd, rfl⟩⟩; refine ⟨_, rfl, ?_⟩))
                  go_ret2
                  exact ⟨by first | rfl | (simp; done) | (simp [*]; done), by repeat (first | exact Drawn0.refl _ | apply Drawn0.step)⟩
              · replace c13 := Bool.eq_false_iff.mpr c13
                subst c13
                have H1 : (some (0, false)) = some (r1, r2) := by rw [if_neg (show ¬ (false = true) by decide)] at H; exact H
                clear H
                have H := H1
                clear H1
                simp only [Option.some.injEq, Prod.mk.injEq] at H
                obtain ⟨rfl, rfl⟩ := H
                go_wp2_with (first | ((with_reducible refine gate_callee (f := 77) rfl ?_); refine goesL_ (some 40) rfl rfl Tryd.func77 (by kernel_rfl) rfl #[.int .u32 a1] rfl (by (try simp only [List.map_toArray, List.map_cons, List.map_nil]); first | done | rfl | (simp only [List.length_drop, List.length_take]; rfl)) ?_; (with_reducible refine (digit_fit.calls a1 false _ A12.out).mono ?_); rintro e w' ⟨rfl, ⟨nd, rfl⟩⟩; refine ⟨_, rfl, ?_⟩))
                go_ret2
                exact ⟨by first | rfl | (simp; done) | (simp [*]; done), by repeat (first | exact Drawn0.refl _ | apply Drawn0.step)⟩
            · replace c11 := Bool.eq_false_iff.mpr c11
              subst c11
              have H1 : (if a0 ≥ 65 then (digit_Value.j2 kj8 a0 a1 255 (decide (a0 ≤ 90))) else (digit_Value.j2 kj8 a0 a1 255 false)) = some (r1, r2) := by rw [if_neg (show ¬ (false = true) by decide)] at H; exact H
              clear H
              have H := H1
              clear H1
              have HC15 := Aside0.mk H
              clear H
              go_upto_region 6 with (fail)
              go_cut [28] (fun v28 wc => ∃ (kq : Nat) (x28_14 : Bool), v28 = .bool x28_14 ∧ Aside0 (digit_Value.j2 kq a0 a1 255 x28_14 = some (r1, r2)) ∧ Aside0 (kq ≤ kj8) ∧ Drawn0 w wc)
              case first =>
                have H := HC15.out
                clear HC15
                by_cases c16 : a0 ≥ 65
                · rw [if_pos c16] at H
                  have c16b0 : decide (65 ≤ a0) = true := decide_eq_true c16
                  clear c16
                  (first | rw [c16b0] | (simp only [i64_w, i32_w]; rw [c16b0]) | skip)
                  have H' := Aside0.mk H
                  clear H
                  go_wp2
                  go_meet
                  case rel => exact ⟨_, (decide (a0 ≤ 90)), (by first | rfl | (simp; done) | (simp [*]; done)), H', ⟨by have := HJ2.out; have := HJ8.out; first | omega | exact Nat.le_refl _⟩, by repeat (first | exact Drawn0.refl _ | apply Drawn0.step)⟩
                · rw [if_neg c16] at H
                  have c16b0 : decide (65 ≤ a0) = false := decide_eq_false c16
                  clear c16
                  (first | rw [c16b0] | (simp only [i64_w, i32_w]; rw [c16b0]) | skip)
                  have H' := Aside0.mk H
                  clear H
                  go_wp2
                  go_meet
                  case rel => exact ⟨_, (false), (by first | rfl | (simp; done) | (simp [*]; done)), H', ⟨by have := HJ2.out; have := HJ8.out; first | omega | exact Nat.le_refl _⟩, by repeat (first | exact Drawn0.refl _ | apply Drawn0.step)⟩
              case rest =>
                clear HC15
                try clear c1
                try clear c2
                try clear p2
                try clear c4
                try clear c4b0
                try clear c5
                try clear c7
                try clear c8
                try clear c8b0
                try clear c10
                try clear c10b0
                try clear c11
                try clear c13
                try clear c14
                try clear c14b0
                try clear c16
                try clear c16b0
                try clear p2
                obtain ⟨kq, x28_14, rfl, HA, HJ14, ⟨mc14, rfl⟩⟩ := hcut
                cases kq with
                | zero => exact absurd HA.out (by simp [digit_Value.j2])
                | succ kj14 =>
                  have H := HA.out
                  clear HA
                  simp only [digit_Value.j2] at H
                  by_cases c17 : x28_14 = true
                  · subst c17
                    have H1 : ((digit_fit.f a1).bind fun t80003 => (if t80003 = true then (if (((a0 - 65) % 256) + 10) ≥ a1 then (some (0, false)) else (some (((a0 - 65) % 256) + 10, true))) else (some (0, false)))) = some (r1, r2) := by rw [if_pos rfl] at H; exact H
                    clear H
                    have H := H1
                    clear H1
                    replace H := Option.bind_eq_some_iff.mp H
                    obtain ⟨t80003, A180, H⟩ := H
                    replace H : (if t80003 = true then (if (((a0 - 65) % 256) + 10) ≥ a1 then (some (0, false)) else (some (((a0 - 65) % 256) + 10, true))) else (some (0, false))) = some (r1, r2) := H
                    have A18 := Aside0.mk A180
                    clear A180
                    by_cases c19 : t80003 = true
                    · subst c19
                      have H1 : (if (((a0 - 65) % 256) + 10) ≥ a1 then (some (0, false)) else (some (((a0 - 65) % 256) + 10, true))) = some (r1, r2) := by rw [if_pos rfl] at H; exact H
                      clear H
                      have H := H1
                      clear H1
                      by_cases c20 : (((a0 - 65) % 256) + 10) ≥ a1
                      · rw [if_pos c20] at H
                        have c20b0 : decide (a1 ≤ (((a0 - 65) % 256) + 10)) = true := decide_eq_true c20
                        clear c20
                        simp only [Option.some.injEq, Prod.mk.injEq] at H
                        obtain ⟨rfl, rfl⟩ := H
                        go_wp2_with (first | ((with_reducible refine gate_callee (f := 77) rfl ?_); refine goesL_ (some 40) rfl rfl Tryd.func77 (by kernel_rfl) rfl #[.int .u32 a1] rfl (by (try simp only [List.map_toArray, List.map_cons, List.map_nil]); first | done | rfl | (simp only [List.length_drop, List.length_take]; rfl)) ?_; (with_reducible refine (digit_fit.calls a1 true _ A18.out).mono ?_); rintro e w' ⟨rfl, ⟨nd, rfl⟩⟩; refine ⟨_, rfl, ?_⟩))
                        go_ret2
                        exact ⟨by first | rfl | (simp; done) | (simp [*]; done), by repeat (first | exact Drawn0.refl _ | apply Drawn0.step)⟩
                      · rw [if_neg c20] at H
                        have c20b0 : decide (a1 ≤ (((a0 - 65) % 256) + 10)) = false := decide_eq_false c20
                        clear c20
                        simp only [Option.some.injEq, Prod.mk.injEq] at H
                        obtain ⟨rfl, rfl⟩ := H
                        go_wp2_with (first | ((with_reducible refine gate_callee (f := 77) rfl ?_); refine goesL_ (some 40) rfl rfl Tryd.func77 (by kernel_rfl) rfl #[.int .u32 a1] rfl (by (try simp only [List.map_toArray, List.map_cons, List.map_nil]); first | done | rfl | (simp only [List.length_drop, List.length_take]; rfl)) ?_; (with_reducible refine (digit_fit.calls a1 true _ A18.out).mono ?_); rintro e w' ⟨rfl, ⟨nd, rfl⟩⟩; refine ⟨_, rfl, ?_⟩))
                        go_ret2
                        exact ⟨by first | rfl | (simp; done) | (simp [*]; done), by repeat (first | exact Drawn0.refl _ | apply Drawn0.step)⟩
                    · replace c19 := Bool.eq_false_iff.mpr c19
                      subst c19
                      have H1 : (some (0, false)) = some (r1, r2) := by rw [if_neg (show ¬ (false = true) by decide)] at H; exact H
                      clear H
                      have H := H1
                      clear H1
                      simp only [Option.some.injEq, Prod.mk.injEq] at H
                      obtain ⟨rfl, rfl⟩ := H
                      go_wp2_with (first | ((with_reducible refine gate_callee (f := 77) rfl ?_); refine goesL_ (some 40) rfl rfl Tryd.func77 (by kernel_rfl) rfl #[.int .u32 a1] rfl (by (try simp only [List.map_toArray, List.map_cons, List.map_nil]); first | done | rfl | (simp only [List.length_drop, List.length_take]; rfl)) ?_; (with_reducible refine (digit_fit.calls a1 false _ A18.out).mono ?_); rintro e w' ⟨rfl, ⟨nd, rfl⟩⟩; refine ⟨_, rfl, ?_⟩))
                      go_ret2
                      exact ⟨by first | rfl | (simp; done) | (simp [*]; done), by repeat (first | exact Drawn0.refl _ | apply Drawn0.step)⟩
                  · replace c17 := Bool.eq_false_iff.mpr c17
                    subst c17
                    have H1 : ((digit_fit.f a1).bind fun t80004 => (if t80004 = true then (if 255 ≥ a1 then (some (0, false)) else (some (255, true))) else (some (0, false)))) = some (r1, r2) := by rw [if_neg (show ¬ (false = true) by decide)] at H; exact H
                    clear H
                    have H := H1
                    clear H1
                    replace H := Option.bind_eq_some_iff.mp H
                    obtain ⟨t80004, A210, H⟩ := H
                    replace H : (if t80004 = true then (if 255 ≥ a1 then (some (0, false)) else (some (255, true))) else (some (0, false))) = some (r1, r2) := H
                    have A21 := Aside0.mk A210
                    clear A210
                    by_cases c22 : t80004 = true
                    · subst c22
                      have H1 : (if 255 ≥ a1 then (some (0, false)) else (some (255, true))) = some (r1, r2) := by rw [if_pos rfl] at H; exact H
                      clear H
                      have H := H1
                      clear H1
                      by_cases c23 : 255 ≥ a1
                      · rw [if_pos c23] at H
                        have c23b0 : decide (a1 ≤ 255) = true := decide_eq_true c23
                        clear c23
                        simp only [Option.some.injEq, Prod.mk.injEq] at H
                        obtain ⟨rfl, rfl⟩ := H
                        go_wp2_with (first | ((with_reducible refine gate_callee (f := 77) rfl ?_); refine goesL_ (some 40) rfl rfl Tryd.func77 (by kernel_rfl) rfl #[.int .u32 a1] rfl (by (try simp only [List.map_toArray, List.map_cons, List.map_nil]); first | done | rfl | (simp only [List.length_drop, List.length_take]; rfl)) ?_; (with_reducible refine (digit_fit.calls a1 true _ A21.out).mono ?_); rintro e w' ⟨rfl, ⟨nd, rfl⟩⟩; refine ⟨_, rfl, ?_⟩))
                        go_ret2
                        exact ⟨by first | rfl | (simp; done) | (simp [*]; done), by repeat (first | exact Drawn0.refl _ | apply Drawn0.step)⟩
                      · rw [if_neg c23] at H
                        have c23b0 : decide (a1 ≤ 255) = false := decide_eq_false c23
                        clear c23
                        simp only [Option.some.injEq, Prod.mk.injEq] at H
                        obtain ⟨rfl, rfl⟩ := H
                        go_wp2_with (first | ((with_reducible refine gate_callee (f := 77) rfl ?_); refine goesL_ (some 40) rfl rfl Tryd.func77 (by kernel_rfl) rfl #[.int .u32 a1] rfl (by (try simp only [List.map_toArray, List.map_cons, List.map_nil]); first | done | rfl | (simp only [List.length_drop, List.length_take]; rfl)) ?_; (with_reducible refine (digit_fit.calls a1 true _ A21.out).mono ?_); rintro e w' ⟨rfl, ⟨nd, rfl⟩⟩; refine ⟨_, rfl, ?_⟩))
                        go_ret2
                        exact ⟨by first | rfl | (simp; done) | (simp [*]; done), by repeat (first | exact Drawn0.refl _ | apply Drawn0.step)⟩
                    · replace c22 := Bool.eq_false_iff.mpr c22
                      subst c22
                      have H1 : (some (0, false)) = some (r1, r2) := by rw [if_neg (show ¬ (false = true) by decide)] at H; exact H
                      clear H
                      have H := H1
                      clear H1
                      simp only [Option.some.injEq, Prod.mk.injEq] at H
                      obtain ⟨rfl, rfl⟩ := H
                      go_wp2_with (first | ((with_reducible refine gate_callee (f := 77) rfl ?_); refine goesL_ (some 40) rfl rfl Tryd.func77 (by kernel_rfl) rfl #[.int .u32 a1] rfl (by (try simp only [List.map_toArray, List.map_cons, List.map_nil]); first | done | rfl | (simp only [List.length_drop, List.length_take]; rfl)) ?_; (with_reducible refine (digit_fit.calls a1 false _ A21.out).mono ?_); rintro e w' ⟨rfl, ⟨nd, rfl⟩⟩; refine ⟨_, rfl, ?_⟩))
                      go_ret2
                      exact ⟨by first | rfl | (simp; done) | (simp [*]; done), by repeat (first | exact Drawn0.refl _ | apply Drawn0.step)⟩

end Go.Proofs.YtefhngadeimklaaDoor.Q
end
section
namespace Go.Proofs.YtefhngadeimklaaDoor.Q
open Go.RowKit Go.Proofs.YtefhngadeimklaaDoorW.PrintWords Go.Proofs.YtefhngadeimklaaDoorW.PrintLast Go.Proofs.YtefhngadeimklaaDoorW.PrintMore
set_option linter.unusedVariables false
set_option linter.unusedSimpArgs false

attribute [local go_sem] max2_int min2_int max_two min_two max_three min_three max_four min_four
/-! ### stringslite_HasPrefix: function 93 -/
def stringslite_HasPrefix.f (a0 : ByteArray) (a1 : ByteArray) : Option (Bool) := if (a0.size : Int) ≥ (a1.size : Int) then (if 0 ≤ (a1.size : Int) then (if (a1.size : Int) ≤ (a0.size : Int) then (some ((a0.extract 0 ((a1.size : Int) : Int).toNat).toList == a1.toList)) else (none)) else (none)) else (some false)
set_option maxHeartbeats 8000000 in
set_option maxRecDepth 100000 in
theorem stringslite_HasPrefix.calls (a0 : ByteArray) (a1 : ByteArray) (r : Bool) (w : World) (h : stringslite_HasPrefix.f a0 a1 = some r) :
    Calls Tryd.prog 93 #[.string a0, .string a1] w fun e w' => e = .returned (.bool r) ∧ Drawn0 w w' := by
  have H : (if (a0.size : Int) ≥ (a1.size : Int) then (if 0 ≤ (a1.size : Int) then (if (a1.size : Int) ≤ (a0.size : Int) then (some ((a0.extract 0 ((a1.size : Int) : Int).toNat).toList == a1.toList)) else (none)) else (none)) else (some false)) = some r := h
  clear h
  by_cases c3 : (a0.size : Int) ≥ (a1.size : Int)
  · rw [if_pos c3] at H
    have c3b0 : decide ((a1.size : Int) ≤ (a0.size : Int)) = true := decide_eq_true c3
    have c3b1 : decide (a1.size ≤ a0.size) = true := decide_eq_true (Int.ofNat_le.mp c3)
    clear c3
    by_cases c4 : 0 ≤ (a1.size : Int)
    · rw [if_pos c4] at H
      have c4b0 := eq_true c4
      have c4b1 : decide (0 ≤ (a1.size : Int)) = true := decide_eq_true c4
      clear c4
      by_cases c5 : (a1.size : Int) ≤ (a0.size : Int)
      · rw [if_pos c5] at H
        have c5b0 := eq_true c5
        have c5b1 : decide ((a1.size : Int) ≤ (a0.size : Int)) = true := decide_eq_true c5
        clear c5
        obtain rfl := Option.some.inj H
        go_enter Tryd.func93, Tryd.ntmps93
        go_wp2
        go_ret
        exact ⟨by first | rfl | (simp; done) | (simp [*]; done), by repeat (first | exact Drawn0.refl _ | apply Drawn0.step)⟩
      · rw [if_neg c5] at H
        exact absurd H (by simp)
    · rw [if_neg c4] at H
      exact absurd H (by simp)
  · rw [if_neg c3] at H
    have c3b0 : decide ((a1.size : Int) ≤ (a0.size : Int)) = false := decide_eq_false c3
    have c3b1 : decide (a1.size ≤ a0.size) = false := decide_eq_false (fun h => c3 (Int.ofNat_le.mpr h))
    clear c3
    obtain rfl := Option.some.inj H
    go_enter Tryd.func93, Tryd.ntmps93
    go_wp2
    go_ret
    exact ⟨by first | rfl | (simp; done) | (simp [*]; done), by repeat (first | exact Drawn0.refl _ | apply Drawn0.step)⟩

end Go.Proofs.YtefhngadeimklaaDoor.Q
end
section
namespace Go.Proofs.YtefhngadeimklaaDoor.Q
open Go.RowKit Go.Proofs.YtefhngadeimklaaDoorW.PrintWords Go.Proofs.YtefhngadeimklaaDoorW.PrintLast Go.Proofs.YtefhngadeimklaaDoorW.PrintMore
set_option linter.unusedVariables false
set_option linter.unusedSimpArgs false

attribute [local go_sem] max2_int min2_int max_two min_two max_three min_three max_four min_four
/-! ### stringslite_CutPrefix: function 87 -/
def stringslite_CutPrefix.f (a0 : ByteArray) (a1 : ByteArray) : Option (ByteArray × Bool) := (stringslite_HasPrefix.f a0 a1).bind fun t88001 => (if t88001 = true then (if 0 ≤ (a1.size : Int) then (if (a1.size : Int) ≤ (a0.size : Int) then (some (a0.extract ((a1.size : Int) : Int).toNat a0.size, true)) else (none)) else (none)) else (some (a0, false)))
set_option maxHeartbeats 8000000 in
set_option maxRecDepth 100000 in
theorem stringslite_CutPrefix.calls (a0 : ByteArray) (a1 : ByteArray) (r1 : ByteArray) (r2 : Bool) (w : World) (h : stringslite_CutPrefix.f a0 a1 = some (r1, r2)) :
    Calls Tryd.prog 87 #[.string a0, .string a1] w fun e w' => e = .returned (.tuple #[.string r1, .bool r2]) ∧ Drawn0 w w' := by
  have H : ((stringslite_HasPrefix.f a0 a1).bind fun t88001 => (if t88001 = true then (if 0 ≤ (a1.size : Int) then (if (a1.size : Int) ≤ (a0.size : Int) then (some (a0.extract ((a1.size : Int) : Int).toNat a0.size, true)) else (none)) else (none)) else (some (a0, false)))) = some (r1, r2) := h
  clear h
  replace H := Option.bind_eq_some_iff.mp H
  obtain ⟨t88001, A30, H⟩ := H
  replace H : (if t88001 = true then (if 0 ≤ (a1.size : Int) then (if (a1.size : Int) ≤ (a0.size : Int) then (some (a0.extract ((a1.size : Int) : Int).toNat a0.size, true)) else (none)) else (none)) else (some (a0, false))) = some (r1, r2) := H
  have A3 := Aside0.mk A30
  clear A30
  by_cases c4 : t88001 = true
  · subst c4
    have H1 : (if 0 ≤ (a1.size : Int) then (if (a1.size : Int) ≤ (a0.size : Int) then (some (a0.extract ((a1.size : Int) : Int).toNat a0.size, true)) else (none)) else (none)) = some (r1, r2) := by rw [if_pos rfl] at H; exact H
    clear H
    have H := H1
    clear H1
    by_cases c5 : 0 ≤ (a1.size : Int)
    · rw [if_pos c5] at H
      have c5b0 := eq_true c5
      have c5b1 : decide (0 ≤ (a1.size : Int)) = true := decide_eq_true c5
      clear c5
      by_cases c6 : (a1.size : Int) ≤ (a0.size : Int)
      · rw [if_pos c6] at H
        have c6b0 := eq_true c6
        have c6b1 : decide ((a1.size : Int) ≤ (a0.size : Int)) = true := decide_eq_true c6
        clear c6
        simp only [Option.some.injEq, Prod.mk.injEq] at H
        obtain ⟨rfl, rfl⟩ := H
        go_enter Tryd.func87, Tryd.ntmps87
        go_wp2_with (first | ((with_reducible refine gate_callee (f := 93) rfl ?_); refine goesL_ (some 8) rfl rfl Tryd.func93 (by kernel_rfl) rfl #[.string a0, .string a1] rfl (by (try simp only [List.map_toArray, List.map_cons, List.map_nil]); first | done | rfl | (simp only [List.length_drop, List.length_take]; rfl)) ?_; (with_reducible refine (stringslite_HasPrefix.calls a0 a1 true _ A3.out).mono ?_); rintro e w' ⟨rfl, ⟨nd, rfl⟩⟩; refine ⟨_, rfl, ?_⟩))
        go_ret2
        exact ⟨by first | rfl | (simp; done) | (simp [*]; done), by repeat (first | exact Drawn0.refl _ | apply Drawn0.step)⟩
      · rw [if_neg c6] at H
        exact absurd H (by simp)
    · rw [if_neg c5] at H
      exact absurd H (by simp)
  · replace c4 := Bool.eq_false_iff.mpr c4
    subst c4
    have H1 : (some (a0, false)) = some (r1, r2) := by rw [if_neg (show ¬ (false = true) by decide)] at H; exact H
    clear H
    have H := H1
    clear H1
    simp only [Option.some.injEq, Prod.mk.injEq] at H
    obtain ⟨rfl, rfl⟩ := H
    go_enter Tryd.func87, Tryd.ntmps87
    go_wp2_with (first | ((with_reducible refine gate_callee (f := 93) rfl ?_); refine goesL_ (some 8) rfl rfl Tryd.func93 (by kernel_rfl) rfl #[.string a0, .string a1] rfl (by (try simp only [List.map_toArray, List.map_cons, List.map_nil]); first | done | rfl | (simp only [List.length_drop, List.length_take]; rfl)) ?_; (with_reducible refine (stringslite_HasPrefix.calls a0 a1 false _ A3.out).mono ?_); rintro e w' ⟨rfl, ⟨nd, rfl⟩⟩; refine ⟨_, rfl, ?_⟩))
    go_ret2
    exact ⟨by first | rfl | (simp; done) | (simp [*]; done), by repeat (first | exact Drawn0.refl _ | apply Drawn0.step)⟩

end Go.Proofs.YtefhngadeimklaaDoor.Q
end
section
namespace Go.Proofs.YtefhngadeimklaaDoor.Q
open Go.RowKit Go.Proofs.YtefhngadeimklaaDoorW.PrintWords Go.Proofs.YtefhngadeimklaaDoorW.PrintLast Go.Proofs.YtefhngadeimklaaDoorW.PrintMore
set_option linter.unusedVariables false
set_option linter.unusedSimpArgs false

attribute [local go_sem] max2_int min2_int max_two min_two max_three min_three max_four min_four
/-! ### strings_CutPrefix: function 78 -/
def strings_CutPrefix.f (a0 : ByteArray) (a1 : ByteArray) : Option (ByteArray × Bool) := (stringslite_CutPrefix.f a0 a1).bind fun bt79001 => (some (bt79001.1, bt79001.2))
set_option maxHeartbeats 8000000 in
set_option maxRecDepth 100000 in
theorem strings_CutPrefix.calls (a0 : ByteArray) (a1 : ByteArray) (r1 : ByteArray) (r2 : Bool) (w : World) (h : strings_CutPrefix.f a0 a1 = some (r1, r2)) :
    Calls Tryd.prog 78 #[.string a0, .string a1] w fun e w' => e = .returned (.tuple #[.string r1, .bool r2]) ∧ Drawn0 w w' := by
  have H : ((stringslite_CutPrefix.f a0 a1).bind fun bt79001 => (some (bt79001.1, bt79001.2))) = some (r1, r2) := h
  clear h
  replace H := Option.bind_eq_some_iff.mp H
  obtain ⟨⟨t79001, t79002⟩, A30, H⟩ := H
  replace H : (some (t79001, t79002)) = some (r1, r2) := H
  have A3 := Aside0.mk A30
  clear A30
  simp only [Option.some.injEq, Prod.mk.injEq] at H
  obtain ⟨rfl, rfl⟩ := H
  go_enter Tryd.func78, Tryd.ntmps78
  go_wp2_with (first | ((with_reducible refine gate_callee (f := 87) rfl ?_); refine goesL_ (some 8) rfl rfl Tryd.func87 (by kernel_rfl) rfl #[.string a0, .string a1] rfl (by (try simp only [List.map_toArray, List.map_cons, List.map_nil]); first | done | rfl | (simp only [List.length_drop, List.length_take]; rfl)) ?_; (with_reducible refine (stringslite_CutPrefix.calls a0 a1 t79001 t79002 _ A3.out).mono ?_); rintro e w' ⟨rfl, ⟨nd, rfl⟩⟩; refine ⟨_, rfl, ?_⟩))
  go_ret2
  exact ⟨by first | rfl | (simp; done) | (simp [*]; done), by repeat (first | exact Drawn0.refl _ | apply Drawn0.step)⟩

end Go.Proofs.YtefhngadeimklaaDoor.Q
end
section
namespace Go.Proofs.YtefhngadeimklaaDoor.Q
open Go.RowKit Go.Proofs.YtefhngadeimklaaDoorW.PrintWords Go.Proofs.YtefhngadeimklaaDoorW.PrintLast Go.Proofs.YtefhngadeimklaaDoorW.PrintMore
set_option linter.unusedVariables false
set_option linter.unusedSimpArgs false

attribute [local go_sem] max2_int min2_int max_two min_two max_three min_three max_four min_four
/-! ### digit_Parse: function 61 -/
def digit_Parse.l0 : Nat → Int → ByteArray → Bool → Int → Int → Int → Int → Option (Int × Int)
  | 0, _, _, _, _, _, _, _ => none
  | k + 1, x1, x6, x7, x8, x9, x24, x25 => if x25 < x24 then (if 0 ≤ x25 then (if x25 < (x6.size : Int) then ((digit_Value.f k (bt x6 x25) x1).bind fun bt62004 => (if bt62004.2 = true then (if (IntKind.u64.wrap ((IntKind.u64.wrap (x8 * (IntKind.u64.wrap (x1)))) + (IntKind.u64.wrap (bt62004.1)))) > 4294967295 then (digit_Parse.l0 k x1 x6 x7 4294967296 4 x24 (wrap64 (x25 + 1))) else (digit_Parse.l0 k x1 x6 x7 (IntKind.u64.wrap ((IntKind.u64.wrap (x8 * (IntKind.u64.wrap (x1)))) + (IntKind.u64.wrap (bt62004.1)))) x9 x24 (wrap64 (x25 + 1)))) else (some (0, 15)))) else (none)) else (none)) else (if x9 = 0 then (if x7 = true then (some ((IntKind.u64.wrap (-x8)) % 4294967296, 0)) else (some ((x8) % 4294967296, 0))) else (some (0, x9)))
def digit_Parse.f (k : Nat) (a0 : ByteArray) (a1 : Int) : Option (Int × Int) := (digit_fit.f a1).bind fun t62001 => (if t62001 = true then ((strings_CutPrefix.f a0 (⟨#[45]⟩ : ByteArray)).bind fun bt62002 => (if bt62002.1.toList = ([] : List UInt8) then (some (0, 15)) else (digit_Parse.l0 k a1 bt62002.1 bt62002.2 0 0 (bt62002.1.size : Int) 0))) else (some (0, 1)))
set_option maxHeartbeats 8000000 in
set_option maxRecDepth 100000 in
theorem digit_Parse.calls (k : Nat) (a0 : ByteArray) (a1 : Int) (r1 : Int) (r2 : Int) (w : World) (h : digit_Parse.f k a0 a1 = some (r1, r2)) :
    Calls Tryd.prog 61 #[.string a0, .int .u32 a1] w fun e w' => e = .returned (.tuple #[.int .u32 r1, .int .i64 r2]) ∧ Drawn0 w w' := by
  have H : ((digit_fit.f a1).bind fun t62001 => (if t62001 = true then ((strings_CutPrefix.f a0 (⟨#[45]⟩ : ByteArray)).bind fun bt62002 => (if bt62002.1.toList = ([] : List UInt8) then (some (0, 15)) else (digit_Parse.l0 k a1 bt62002.1 bt62002.2 0 0 (bt62002.1.size : Int) 0))) else (some (0, 1)))) = some (r1, r2) := h
  clear h
  replace H := Option.bind_eq_some_iff.mp H
  obtain ⟨t62001, A30, H⟩ := H
  replace H : (if t62001 = true then ((strings_CutPrefix.f a0 (⟨#[45]⟩ : ByteArray)).bind fun bt62002 => (if bt62002.1.toList = ([] : List UInt8) then (some (0, 15)) else (digit_Parse.l0 k a1 bt62002.1 bt62002.2 0 0 (bt62002.1.size : Int) 0))) else (some (0, 1))) = some (r1, r2) := H
  have A3 := Aside0.mk A30
  clear A30
  by_cases c4 : t62001 = true
  · subst c4
    have H1 : ((strings_CutPrefix.f a0 (⟨#[45]⟩ : ByteArray)).bind fun bt62002 => (if bt62002.1.toList = ([] : List UInt8) then (some (0, 15)) else (digit_Parse.l0 k a1 bt62002.1 bt62002.2 0 0 (bt62002.1.size : Int) 0))) = some (r1, r2) := by rw [if_pos rfl] at H; exact H
    clear H
    have H := H1
    clear H1
    replace H := Option.bind_eq_some_iff.mp H
    obtain ⟨⟨t62002, t62003⟩, A50, H⟩ := H
    replace H : (if t62002.toList = ([] : List UInt8) then (some (0, 15)) else (digit_Parse.l0 k a1 t62002 t62003 0 0 (t62002.size : Int) 0)) = some (r1, r2) := H
    have A5 := Aside0.mk A50
    clear A50
    by_cases c6 : t62002.toList = ([] : List UInt8)
    · rw [if_pos c6] at H
      have c6b0 : (t62002.toList == ([] : List UInt8)) = true := beq_iff_eq.mpr c6
      have c6b1 : (t62002.toList != ([] : List UInt8)) = false := bne_eq_false_iff_eq.mpr c6
      clear c6
      simp only [Option.some.injEq, Prod.mk.injEq] at H
      obtain ⟨rfl, rfl⟩ := H
      go_enter Tryd.func61, Tryd.ntmps61
      go_wp2_with (first | ((with_reducible refine gate_callee (f := 77) rfl ?_); refine goesL_ (some 14) rfl rfl Tryd.func77 (by kernel_rfl) rfl #[.int .u32 a1] rfl (by (try simp only [List.map_toArray, List.map_cons, List.map_nil]); first | done | rfl | (simp only [List.length_drop, List.length_take]; rfl)) ?_; (with_reducible refine (digit_fit.calls a1 true _ A3.out).mono ?_); rintro e w' ⟨rfl, ⟨nd, rfl⟩⟩; refine ⟨_, rfl, ?_⟩) | ((with_reducible refine gate_callee (f := 78) rfl ?_); refine goesL_ (some 18) rfl rfl Tryd.func78 (by kernel_rfl) rfl #[.string a0, .string (⟨#[45]⟩ : ByteArray)] rfl (by (try simp only [List.map_toArray, List.map_cons, List.map_nil]); first | done | rfl | (simp only [List.length_drop, List.length_take]; rfl)) ?_; (with_reducible refine (strings_CutPrefix.calls a0 (⟨#[45]⟩ : ByteArray) t62002 t62003 _ A5.out).mono ?_); rintro e w' ⟨rfl, ⟨nd, rfl⟩⟩; refine ⟨_, rfl, ?_⟩))
      go_ret2
      exact ⟨by first | rfl | (simp; done) | (simp [*]; done), by repeat (first | exact Drawn0.refl _ | apply Drawn0.step)⟩
    · rw [if_neg c6] at H
      have c6b0 : (t62002.toList == ([] : List UInt8)) = false := beq_eq_false_iff_ne.mpr c6
      have c6b1 : (t62002.toList != ([] : List UInt8)) = true := bne_iff_ne.mpr c6
      have H' := Aside0.mk H
      clear H
      go_enter Tryd.func61, Tryd.ntmps61
      go_wp2_with (first | ((with_reducible refine gate_callee (f := 77) rfl ?_); refine goesL_ (some 14) rfl rfl Tryd.func77 (by kernel_rfl) rfl #[.int .u32 a1] rfl (by (try simp only [List.map_toArray, List.map_cons, List.map_nil]); first | done | rfl | (simp only [List.length_drop, List.length_take]; rfl)) ?_; (with_reducible refine (digit_fit.calls a1 true _ A3.out).mono ?_); rintro e w' ⟨rfl, ⟨nd, rfl⟩⟩; refine ⟨_, rfl, ?_⟩) | ((with_reducible refine gate_callee (f := 78) rfl ?_); refine goesL_ (some 18) rfl rfl Tryd.func78 (by kernel_rfl) rfl #[.string a0, .string (⟨#[45]⟩ : ByteArray)] rfl (by (try simp only [List.map_toArray, List.map_cons, List.map_nil]); first | done | rfl | (simp only [List.length_drop, List.length_take]; rfl)) ?_; (with_reducible refine (strings_CutPrefix.calls a0 (⟨#[45]⟩ : ByteArray) t62002 t62003 _ A5.out).mono ?_); rintro e w' ⟨rfl, ⟨nd, rfl⟩⟩; refine ⟨_, rfl, ?_⟩))
      go_loopg [8, 9, 25] k (fun kq v8 v9 v25 w' => ∃ (x8_1 : Int) (x9_1 : Int) (x25_1 : Int), v8 = .int .u64 x8_1 ∧ v9 = .int .i64 x9_1 ∧ v25 = .int .i64 x25_1 ∧ Aside0 (digit_Parse.l0 kq a1 t62002 t62003 x8_1 x9_1 (t62002.size : Int) x25_1 = some (r1, r2)) ∧ Aside0 (kq ≤ k) ∧ Drawn0 w w')
      case atStart => exact ⟨(0), (0), (0), (by first | rfl | (simp; done) | (simp [*]; done)), (by first | rfl | (simp; done) | (simp [*]; done)), (by first | rfl | (simp; done) | (simp [*]; done)), H', ⟨Nat.le_refl _⟩, by repeat (first | exact Drawn0.refl _ | apply Drawn0.step)⟩
      case round =>
        clear H'
        try clear p2
        try clear c4
        try clear c6
        try clear c6b0
        try clear c6b1
        obtain ⟨x8_1, x9_1, x25_1, rfl, rfl, rfl, HA, HK1, ⟨m1, rfl⟩⟩ := hrel
        cases gk with
        | zero => exact absurd HA.out (by simp [digit_Parse.l0])
        | succ k1 =>
          have H := HA.out
          clear HA
          simp only [digit_Parse.l0] at H
          by_cases c7 : x25_1 < (t62002.size : Int)
          · rw [if_pos c7] at H
            have c7b0 : decide (x25_1 < (t62002.size : Int)) = true := decide_eq_true c7
            clear c7
            by_cases c8 : 0 ≤ x25_1
            · rw [if_pos c8] at H
              have c8b0 : decide (0 ≤ x25_1) = true := decide_eq_true c8
              clear c8
              by_cases c9 : x25_1 < (t62002.size : Int)
              · rw [if_pos c9] at H
                have c9b0 : decide (x25_1 < (t62002.size : Int)) = true := decide_eq_true c9
                clear c9
                replace H := Option.bind_eq_some_iff.mp H
                obtain ⟨⟨t62004, t62005⟩, A110, H⟩ := H
                replace H : (if t62005 = true then (if (IntKind.u64.wrap ((IntKind.u64.wrap (x8_1 * (IntKind.u64.wrap (a1)))) + (IntKind.u64.wrap (t62004)))) > 4294967295 then (digit_Parse.l0 k1 a1 t62002 t62003 4294967296 4 (t62002.size : Int) (wrap64 (x25_1 + 1))) else (digit_Parse.l0 k1 a1 t62002 t62003 (IntKind.u64.wrap ((IntKind.u64.wrap (x8_1 * (IntKind.u64.wrap (a1)))) + (IntKind.u64.wrap (t62004)))) x9_1 (t62002.size : Int) (wrap64 (x25_1 + 1)))) else (some (0, 15))) = some (r1, r2) := H
                have A11 := Aside0.mk A110
                clear A110
                by_cases c12 : t62005 = true
                · subst c12
                  have H1 : (if (IntKind.u64.wrap ((IntKind.u64.wrap (x8_1 * (IntKind.u64.wrap (a1)))) + (IntKind.u64.wrap (t62004)))) > 4294967295 then (digit_Parse.l0 k1 a1 t62002 t62003 4294967296 4 (t62002.size : Int) (wrap64 (x25_1 + 1))) else (digit_Parse.l0 k1 a1 t62002 t62003 (IntKind.u64.wrap ((IntKind.u64.wrap (x8_1 * (IntKind.u64.wrap (a1)))) + (IntKind.u64.wrap (t62004)))) x9_1 (t62002.size : Int) (wrap64 (x25_1 + 1)))) = some (r1, r2) := by rw [if_pos rfl] at H; exact H
                  clear H
                  have H := H1
                  clear H1
                  by_cases c13 : (IntKind.u64.wrap ((IntKind.u64.wrap (x8_1 * (IntKind.u64.wrap (a1)))) + (IntKind.u64.wrap (t62004)))) > 4294967295
                  · rw [if_pos c13] at H
                    have c13b0 : decide (4294967295 < (IntKind.u64.wrap ((IntKind.u64.wrap (x8_1 * (IntKind.u64.wrap (a1)))) + (IntKind.u64.wrap (t62004))))) = true := decide_eq_true c13
                    clear c13
                    have H' := Aside0.mk H
                    clear H
                    have p10 : 0 ≤ (x25_1 : Int) := of_decide_eq_true (by first | (with_reducible assumption) | assumption)
                    have q10 : x25_1 < (t62002.size : Int) := of_decide_eq_true (by first | (with_reducible assumption) | assumption)
                    have hx10 := bt_at t62002 x25_1
                    replace p10 := eq_true p10
                    replace q10 := eq_true q10
                    go_wp2_with (first | ((with_reducible refine gate_callee (f := 79) rfl ?_); refine goesL_ (some 33) rfl rfl Tryd.func79 (by kernel_rfl) rfl #[.int .u8 (bt t62002 x25_1), .int .u32 a1] rfl (by (try simp only [List.map_toArray, List.map_cons, List.map_nil]); first | done | rfl | (simp only [List.length_drop, List.length_take]; rfl)) ?_; (with_reducible refine (digit_Value.calls k1 (bt t62002 x25_1) a1 t62004 true _ A11.out).mono ?_); rintro e w' ⟨rfl, ⟨nd, rfl⟩⟩; refine ⟨_, rfl, ?_⟩))
                    go_roundg k1
                    case measure => have := HK1.out; omega
                    case rel => exact ⟨(4294967296), (4), (wrap64 (x25_1 + 1)), (by first | rfl | (simp; done) | (simp [*]; done)), (by first | rfl | (simp; done) | (simp [*]; done)), (by first | rfl | (simp; done) | (simp [*]; done)), H', ⟨by have := HK1.out; omega⟩, by repeat (first | exact Drawn0.refl _ | apply Drawn0.step)⟩
                  · rw [if_neg c13] at H
                    have c13b0 : decide (4294967295 < (IntKind.u64.wrap ((IntKind.u64.wrap (x8_1 * (IntKind.u64.wrap (a1)))) + (IntKind.u64.wrap (t62004))))) = false := decide_eq_false c13
                    clear c13
                    have H' := Aside0.mk H
                    clear H
                    have p10 : 0 ≤ (x25_1 : Int) := of_decide_eq_true (by first | (with_reducible assumption) | assumption)
                    have q10 : x25_1 < (t62002.size : Int) := of_decide_eq_true (by first | (with_reducible assumption) | assumption)
                    have hx10 := bt_at t62002 x25_1
                    replace p10 := eq_true p10
                    replace q10 := eq_true q10
                    go_wp2_with (first | ((with_reducible refine gate_callee (f := 79) rfl ?_); refine goesL_ (some 33) rfl rfl Tryd.func79 (by kernel_rfl) rfl #[.int .u8 (bt t62002 x25_1), .int .u32 a1] rfl (by (try simp only [List.map_toArray, List.map_cons, List.map_nil]); first | done | rfl | (simp only [List.length_drop, List.length_take]; rfl)) ?_; (with_reducible refine (digit_Value.calls k1 (bt t62002 x25_1) a1 t62004 true _ A11.out).mono ?_); rintro e w' ⟨rfl, ⟨nd, rfl⟩⟩; refine ⟨_, rfl, ?_⟩))
                    go_roundg k1
                    case measure => have := HK1.out; omega
                    case rel => exact ⟨(IntKind.u64.wrap ((IntKind.u64.wrap (x8_1 * (IntKind.u64.wrap (a1)))) + (IntKind.u64.wrap (t62004)))), (x9_1), (wrap64 (x25_1 + 1)), (by first | rfl | (simp; done) | (simp [*]; done)), (by first | rfl | (simp; done) | (simp [*]; done)), (by first | rfl | (simp; done) | (simp [*]; done)), H', ⟨by have := HK1.out; omega⟩, by repeat (first | exact Drawn0.refl _ | apply Drawn0.step)⟩
                · replace c12 := Bool.eq_false_iff.mpr c12
                  subst c12
                  have H1 : (some (0, 15)) = some (r1, r2) := by rw [if_neg (show ¬ (false = true) by decide)] at H; exact H
                  clear H
                  have H := H1
                  clear H1
                  simp only [Option.some.injEq, Prod.mk.injEq] at H
                  obtain ⟨rfl, rfl⟩ := H
                  have p10 : 0 ≤ (x25_1 : Int) := of_decide_eq_true (by first | (with_reducible assumption) | assumption)
                  have q10 : x25_1 < (t62002.size : Int) := of_decide_eq_true (by first | (with_reducible assumption) | assumption)
                  have hx10 := bt_at t62002 x25_1
                  replace p10 := eq_true p10
                  replace q10 := eq_true q10
                  go_wp2_with (first | ((with_reducible refine gate_callee (f := 79) rfl ?_); refine goesL_ (some 33) rfl rfl Tryd.func79 (by kernel_rfl) rfl #[.int .u8 (bt t62002 x25_1), .int .u32 a1] rfl (by (try simp only [List.map_toArray, List.map_cons, List.map_nil]); first | done | rfl | (simp only [List.length_drop, List.length_take]; rfl)) ?_; (with_reducible refine (digit_Value.calls k1 (bt t62002 x25_1) a1 t62004 false _ A11.out).mono ?_); rintro e w' ⟨rfl, ⟨nd, rfl⟩⟩; refine ⟨_, rfl, ?_⟩))
                  go_ret2
                  exact ⟨by first | rfl | (simp; done) | (simp [*]; done), by repeat (first | exact Drawn0.refl _ | apply Drawn0.step)⟩
              · rw [if_neg c9] at H
                exact absurd H (by simp)
            · rw [if_neg c8] at H
              exact absurd H (by simp)
          · rw [if_neg c7] at H
            have c7b0 : decide (x25_1 < (t62002.size : Int)) = false := decide_eq_false c7
            clear c7
            by_cases c14 : x9_1 = 0
            · rw [if_pos c14] at H
              have c14b0 : (x9_1 == 0) = true := beq_iff_eq.mpr c14
              have c14b1 : (x9_1 != 0) = false := bne_eq_false_iff_eq.mpr c14
              clear c14
              by_cases c15 : t62003 = true
              · subst c15
                have H1 : (some ((IntKind.u64.wrap (-x8_1)) % 4294967296, 0)) = some (r1, r2) := by rw [if_pos rfl] at H; exact H
                clear H
                have H := H1
                clear H1
                simp only [Option.some.injEq, Prod.mk.injEq] at H
                obtain ⟨rfl, rfl⟩ := H
                go_wp2
                go_ret2
                exact ⟨by first | rfl | (simp; done) | (simp [*]; done), by repeat (first | exact Drawn0.refl _ | apply Drawn0.step)⟩
              · replace c15 := Bool.eq_false_iff.mpr c15
                subst c15
                have H1 : (some ((x8_1) % 4294967296, 0)) = some (r1, r2) := by rw [if_neg (show ¬ (false = true) by decide)] at H; exact H
                clear H
                have H := H1
                clear H1
                simp only [Option.some.injEq, Prod.mk.injEq] at H
                obtain ⟨rfl, rfl⟩ := H
                go_wp2
                go_ret2
                exact ⟨by first | rfl | (simp; done) | (simp [*]; done), by repeat (first | exact Drawn0.refl _ | apply Drawn0.step)⟩
            · rw [if_neg c14] at H
              have c14b0 : (x9_1 == 0) = false := beq_eq_false_iff_ne.mpr c14
              have c14b1 : (x9_1 != 0) = true := bne_iff_ne.mpr c14
              simp only [Option.some.injEq, Prod.mk.injEq] at H
              obtain ⟨rfl, rfl⟩ := H
              go_wp2
              go_ret2
              exact ⟨by first | rfl | (simp; done) | (simp [*]; done), by repeat (first | exact Drawn0.refl _ | apply Drawn0.step)⟩
  · replace c4 := Bool.eq_false_iff.mpr c4
    subst c4
    have H1 : (some (0, 1)) = some (r1, r2) := by rw [if_neg (show ¬ (false = true) by decide)] at H; exact H
    clear H
    have H := H1
    clear H1
    simp only [Option.some.injEq, Prod.mk.injEq] at H
    obtain ⟨rfl, rfl⟩ := H
    go_enter Tryd.func61, Tryd.ntmps61
    go_wp2_with (first | ((with_reducible refine gate_callee (f := 77) rfl ?_); refine goesL_ (some 14) rfl rfl Tryd.func77 (by kernel_rfl) rfl #[.int .u32 a1] rfl (by (try simp only [List.map_toArray, List.map_cons, List.map_nil]); first | done | rfl | (simp only [List.length_drop, List.length_take]; rfl)) ?_; (with_reducible refine (digit_fit.calls a1 false _ A3.out).mono ?_); rintro e w' ⟨rfl, ⟨nd, rfl⟩⟩; refine ⟨_, rfl, ?_⟩))
    go_ret2
    exact ⟨by first | rfl | (simp; done) | (simp [*]; done), by repeat (first | exact Drawn0.refl _ | apply Drawn0.step)⟩

end Go.Proofs.YtefhngadeimklaaDoor.Q
end
section
namespace Go.Proofs.YtefhngadeimklaaDoor.Q
open Go.RowKit Go.Proofs.YtefhngadeimklaaDoorW.PrintWords Go.Proofs.YtefhngadeimklaaDoorW.PrintLast Go.Proofs.YtefhngadeimklaaDoorW.PrintMore
set_option linter.unusedVariables false
set_option linter.unusedSimpArgs false

attribute [local go_sem] max2_int min2_int max_two min_two max_three min_three max_four min_four
/-! ### tinderref02_Small: function 81 -/
def tinderref02_Small.f (a0 : Int) : Option (Int) := if a0 ≥ 65 then (if a0 ≤ 90 then (some ((a0 + 32) % 256)) else (some a0)) else (some a0)

end Go.Proofs.YtefhngadeimklaaDoor.Q
end
section
namespace Go.Proofs.YtefhngadeimklaaDoor.Q
open Go.RowKit Go.Proofs.YtefhngadeimklaaDoorW.PrintWords Go.Proofs.YtefhngadeimklaaDoorW.PrintLast Go.Proofs.YtefhngadeimklaaDoorW.PrintMore
set_option linter.unusedVariables false
set_option linter.unusedSimpArgs false

attribute [local go_sem] max2_int min2_int max_two min_two max_three min_three max_four min_four
/-! ### tinderref02_Value: function 63 -/
mutual
def tinderref02_Value.j0 : Nat → Int → Int → Bool → Option (Int × Bool)
  | 0, _, _, _ => none
  | k + 1, x0, x1, x12 => if x12 = true then (some (0, false)) else (tinderref02_Value.l0 k x0 x1 0)
def tinderref02_Value.l0 : Nat → Int → Int → Int → Option (Int × Bool)
  | 0, _, _, _ => none
  | k + 1, x0, x1, x6 => if x6 < (wrap64 (x1)) then (if 0 ≤ x6 then (if x6 < 36 then ((tinderref02_Small.f x0).bind fun t64001 => (if (bt (⟨#[48, 49, 50, 51, 52, 53, 54, 55, 56, 57, 97, 98, 99, 100, 101, 102, 103, 104, 105, 106, 107, 108, 109, 110, 111, 112, 113, 114, 115, 116, 117, 118, 119, 120, 121, 122]⟩ : ByteArray) x6) = t64001 then (some ((x6) % 4294967296, true)) else (tinderref02_Value.l0 k x0 x1 (wrap64 (x6 + 1))))) else (none)) else (none)) else (some (0, false))
end
def tinderref02_Value.f (k : Nat) (a0 : Int) (a1 : Int) : Option (Int × Bool) := if a1 < 2 then (tinderref02_Value.j0 k a0 a1 true) else (tinderref02_Value.j0 k a0 a1 (decide (a1 > 36)))

end Go.Proofs.YtefhngadeimklaaDoor.Q
end
section
namespace Go.Proofs.YtefhngadeimklaaDoor.Q
open Go.RowKit Go.Proofs.YtefhngadeimklaaDoorW.PrintWords Go.Proofs.YtefhngadeimklaaDoorW.PrintLast Go.Proofs.YtefhngadeimklaaDoorW.PrintMore
set_option linter.unusedVariables false
set_option linter.unusedSimpArgs false

attribute [local go_sem] max2_int min2_int max_two min_two max_three min_three max_four min_four
/-! ### tinderref02_Parse: function 48 -/
mutual
def tinderref02_Parse.j0 : Nat → ByteArray → Int → Bool → Option (Int × Int)
  | 0, _, _, _ => none
  | k + 1, x0, x1, x17 => if x17 = true then (some (0, 1)) else (if (x0.size : Int) > 0 then (if 0 < (x0.size : Int) then (tinderref02_Parse.j1 k x0 x1 ((bt x0 0) == 45)) else (none)) else (tinderref02_Parse.j1 k x0 x1 false))
def tinderref02_Parse.j1 : Nat → ByteArray → Int → Bool → Option (Int × Int)
  | 0, _, _, _ => none
  | k + 1, x0, x1, x6 => if x6 = true then (if 1 ≤ (x0.size : Int) then (tinderref02_Parse.j2 k (x0.extract 1 x0.size) x1 x6) else (none)) else (tinderref02_Parse.j2 k x0 x1 x6)
def tinderref02_Parse.j2 : Nat → ByteArray → Int → Bool → Option (Int × Int)
  | 0, _, _, _ => none
  | k + 1, x0, x1, x6 => if (x0.size : Int) = 0 then (some (0, 15)) else (tinderref02_Parse.l0 k x0 x1 x6 0 false 0)
def tinderref02_Parse.l0 : Nat → ByteArray → Int → Bool → Int → Bool → Int → Option (Int × Int)
  | 0, _, _, _, _, _, _ => none
  | k + 1, x0, x1, x6, x7, x8, x9 => if x9 < (x0.size : Int) then (if 0 ≤ x9 then ((tinderref02_Value.f k (bt x0 x9) x1).bind fun bt49001 => (if bt49001.2 = true then (if x8 = true then (tinderref02_Parse.l0 k x0 x1 x6 x7 x8 (wrap64 (x9 + 1))) else (tinderref02_Parse.l0 k x0 x1 x6 (IntKind.u64.wrap ((IntKind.u64.wrap (x7 * (IntKind.u64.wrap (x1)))) + (IntKind.u64.wrap (bt49001.1)))) (decide ((IntKind.u64.wrap ((IntKind.u64.wrap (x7 * (IntKind.u64.wrap (x1)))) + (IntKind.u64.wrap (bt49001.1)))) ≥ 4294967296)) (wrap64 (x9 + 1)))) else (some (0, 15)))) else (none)) else (if x8 = true then (some (0, 4)) else (if x6 = true then (some ((Int.tmod (IntKind.u64.wrap (4294967296 - x7)) 4294967296) % 4294967296, 0)) else (some ((x7) % 4294967296, 0))))
end
def tinderref02_Parse.f (k : Nat) (a0 : ByteArray) (a1 : Int) : Option (Int × Int) := if a1 < 2 then (tinderref02_Parse.j0 k a0 a1 true) else (tinderref02_Parse.j0 k a0 a1 (decide (a1 > 36)))

end Go.Proofs.YtefhngadeimklaaDoor.Q
end
section
namespace Go.Proofs.YtefhngadeimklaaDoor.Q
open Go.RowKit Go.Proofs.YtefhngadeimklaaDoorW.PrintWords Go.Proofs.YtefhngadeimklaaDoorW.PrintLast
/-- The place of a byte among all digits; 255: none. -/
def numF (c : Int) : Int := if 48 ≤ c ∧ c ≤ 57 then c - 48 else if 97 ≤ c ∧ c ≤ 122 then c - 87 else if 65 ≤ c ∧ c ≤ 90 then c - 55 else 255
def valF (c b : Int) : Int × Bool := if 2 ≤ b ∧ b ≤ 36 ∧ numF c < b then (numF c, true) else (0, false)
theorem numF_range (c : Int) : 0 ≤ numF c ∧ numF c ≤ 255 := by unfold numF; split; omega; split; omega; split <;> omega
theorem fit_eq (b : Int) : digit_fit.f b = some (decide (2 ≤ b ∧ b ≤ 36)) := by
  unfold digit_fit.f
  by_cases h1 : b ≥ 2
  · rw [if_pos h1, Option.some.injEq, decide_eq_decide]
    omega
  · rw [if_neg h1, Option.some.injEq, eq_comm, decide_eq_false_iff_not]
    omega
theorem value_end (b v : Int) : ((digit_fit.f b).bind fun t => (if t = true then (if v ≥ b then some ((0 : Int), false) else some (v, true)) else some (0, false))) = some (if 2 ≤ b ∧ b ≤ 36 ∧ v < b then (v, true) else (0, false)) := by
  rw [fit_eq, Option.bind_some]
  by_cases h : 2 ≤ b ∧ b ≤ 36
  · rw [if_pos (by simpa using h)]
    by_cases h2 : v ≥ b
    · rw [if_pos h2, if_neg (by omega)]
    · rw [if_neg h2, if_pos (by omega)]
  · rw [if_neg (by simpa using h), if_neg (by omega)]
theorem digit_Value_eq (k : Nat) (c b : Int) (hc : 0 ≤ c ∧ c < 256) : digit_Value.f (k + 3) c b = some (valF c b) := by
  have hj2 : ∀ k, digit_Value.j2 (k + 1) c b 255 (decide (65 ≤ c ∧ c ≤ 90)) = some (if 2 ≤ b ∧ b ≤ 36 ∧ (if 65 ≤ c ∧ c ≤ 90 then c - 55 else 255) < b then (if 65 ≤ c ∧ c ≤ 90 then c - 55 else 255, true) else (0, false)) := by
    intro k
    rw [digit_Value.j2]
    by_cases h : 65 ≤ c ∧ c ≤ 90
    · rw [if_pos (by simpa using h), if_pos h, show (c - 65) % 256 + 10 = c - 55 by omega]
      exact value_end b (c - 55)
    · rw [if_neg (by simpa using h), if_neg h]
      exact value_end b 255
  have hj1 : ∀ k, digit_Value.j1 (k + 2) c b 255 (decide (97 ≤ c ∧ c ≤ 122)) = some (if 2 ≤ b ∧ b ≤ 36 ∧ (if 97 ≤ c ∧ c ≤ 122 then c - 87 else if 65 ≤ c ∧ c ≤ 90 then c - 55 else 255) < b then (if 97 ≤ c ∧ c ≤ 122 then c - 87 else if 65 ≤ c ∧ c ≤ 90 then c - 55 else 255, true) else (0, false)) := by
    intro k
    rw [digit_Value.j1]
    by_cases h : 97 ≤ c ∧ c ≤ 122
    · rw [if_pos (by simpa using h), if_pos h, show (c - 97) % 256 + 10 = c - 87 by omega]
      exact value_end b (c - 87)
    · rw [if_neg (by simpa using h), if_neg h]
      by_cases h2 : c ≥ 65
      · rw [if_pos h2, ← hj2 k]
        congr 1
        simp [h2]
      · rw [if_neg h2, ← hj2 k]
        congr 1
        simp
        omega
  unfold digit_Value.f valF numF
  have hj0 : digit_Value.j0 (k + 3) c b 255 (decide (48 ≤ c ∧ c ≤ 57)) = some (if 2 ≤ b ∧ b ≤ 36 ∧ (if 48 ≤ c ∧ c ≤ 57 then c - 48 else if 97 ≤ c ∧ c ≤ 122 then c - 87 else if 65 ≤ c ∧ c ≤ 90 then c - 55 else 255) < b then (if 48 ≤ c ∧ c ≤ 57 then c - 48 else if 97 ≤ c ∧ c ≤ 122 then c - 87 else if 65 ≤ c ∧ c ≤ 90 then c - 55 else 255, true) else (0, false)) := by
    rw [digit_Value.j0]
    by_cases h : 48 ≤ c ∧ c ≤ 57
    · rw [if_pos (by simpa using h), if_pos h, show (c - 48) % 256 = c - 48 by omega]
      exact value_end b (c - 48)
    · rw [if_neg (by simpa using h), if_neg h]
      by_cases h2 : c ≥ 97
      · rw [if_pos h2, ← hj1 k]
        congr 1
        simp [h2]
      · rw [if_neg h2, ← hj1 k]
        congr 1
        simp
        omega
  by_cases h : c ≥ 48
  · rw [if_pos h, ← hj0]
    congr 1
    simp [h]
  · rw [if_neg h, ← hj0]
    congr 1
    simp
    omega
def smallF (c : Int) : Int := if 65 ≤ c ∧ c ≤ 90 then c + 32 else c
def digitsB : ByteArray := ⟨#[48, 49, 50, 51, 52, 53, 54, 55, 56, 57, 97, 98, 99, 100, 101, 102, 103, 104, 105, 106, 107, 108, 109, 110, 111, 112, 113, 114, 115, 116, 117, 118, 119, 120, 121, 122]⟩
/-- A text's digits as a number; the mark: it is too great; none: a byte is no digit. -/
def parL (b : Int) : List Int → Int → Bool → Option (Int × Bool)
  | [], n, g => some (n, g)
  | c :: l, n, g => if (valF c b).2 = true then (if g = true then parL b l n true else parL b l (n * b + (valF c b).1) (decide (n * b + (valF c b).1 ≥ 4294967296))) else none
def resF (neg : Bool) : Option (Int × Bool) → Int × Int
  | none => (0, 15)
  | some (n, g) => if g = true then (0, 4) else (if neg = true then ((4294967296 - n) % 4294967296, 0) else (n, 0))
theorem parL_nil (b n : Int) (g : Bool) : parL b [] n g = some (n, g) := rfl
theorem parL_cons (b c : Int) (l : List Int) (n : Int) (g : Bool) : parL b (c :: l) n g = if (valF c b).2 = true then (if g = true then parL b l n true else parL b l (n * b + (valF c b).1) (decide (n * b + (valF c b).1 ≥ 4294967296))) else none := rfl
theorem resF_t (neg : Bool) (n : Int) : resF neg (some (n, true)) = (0, 4) := rfl
theorem resF_pos (n : Int) : resF false (some (n, false)) = (n, 0) := rfl
theorem resF_neg (n : Int) : resF true (some (n, false)) = ((4294967296 - n) % 4294967296, 0) := rfl
theorem val_range (c b : Int) : 0 ≤ (valF c b).1 ∧ (valF c b).1 < 36 := by
  have := numF_range c
  unfold valF
  split
  · dsimp only; omega
  · decide
theorem bytes_at (s : ByteArray) (i : Int) (h0 : 0 ≤ i) (h1 : i < s.size) : (bytesOf s).drop i.toNat = bt s i :: (bytesOf s).drop (i + 1).toNat := by
  have hl : i.toNat < (bytesOf s).length := by rw [bytesOf_length]; omega
  rw [List.drop_eq_getElem_cons hl, show (i + 1).toNat = i.toNat + 1 by omega, ← rd_bytesOf]
  simp [rd, List.getD_eq_getElem?_getD, List.getElem?_eq_getElem hl]
theorem wrap_u64_id (n : Int) (h0 : 0 ≤ n) (h1 : n < 18446744073709551616) : IntKind.u64.wrap n = n := by rw [IntKind.wrap_u64]; omega
theorem mulb (n b v : Int) (h0 : 0 ≤ n) (h1 : n ≤ 4294967296) (hb : 2 ≤ b ∧ b ≤ 36) (hv : 0 ≤ v ∧ v < 36) : 0 ≤ n * b ∧ n * b ≤ 154618822656 ∧ IntKind.u64.wrap (IntKind.u64.wrap (n * IntKind.u64.wrap b) + IntKind.u64.wrap v) = n * b + v := by
  have e1 : n * b ≤ 4294967296 * 36 := Int.mul_le_mul h1 hb.2 (by omega) (by omega)
  have e0 : 0 ≤ n * b := Int.mul_nonneg h0 (by omega)
  refine ⟨e0, by omega, ?_⟩
  rw [wrap_u64_id b (by omega) (by omega), wrap_u64_id (n * b) e0 (by omega), wrap_u64_id v (by omega) (by omega), wrap_u64_id _ (by omega) (by omega)]
theorem parse_go (b : Int) (hb : 2 ≤ b ∧ b ≤ 36) (s : ByteArray) (neg : Bool) (hs : s.size ≤ 9223372036854775806) (d : Nat) : ∀ (k : Nat) (i n m e : Int) (g : Bool), 0 ≤ i → i + d = s.size → d + 10 < k → ((g = false ∧ e = 0 ∧ n = m ∧ 0 ≤ n ∧ n < 4294967296) ∨ (g = true ∧ e = 4 ∧ n = 4294967296)) →
    digit_Parse.l0 k b s neg n e (s.size : Int) i = some (resF neg (parL b ((bytesOf s).drop i.toNat) m g)) := by
  induction d with
  | zero =>
    intro k i n m e g h0 h1 hk hst
    obtain ⟨k, rfl⟩ : ∃ k', k = k' + 1 := ⟨k - 1, by omega⟩
    rw [digit_Parse.l0, if_neg (by omega), List.drop_eq_nil_of_le (by rw [bytesOf_length]; omega)]
    rw [parL_nil]
    rcases hst with ⟨rfl, rfl, rfl, h2, h3⟩ | ⟨rfl, rfl, rfl⟩
    · rw [if_pos rfl]
      cases neg
      · rw [if_neg Bool.false_ne_true, resF_pos, Int.emod_eq_of_lt h2 h3]
      · rw [if_pos rfl, resF_neg, IntKind.wrap_u64, Option.some.injEq, Prod.mk.injEq]
        exact ⟨by omega, rfl⟩
    · rw [if_neg (by decide), resF_t]
  | succ d ih =>
    intro k i n m e g h0 h1 hk hst
    obtain ⟨k, rfl⟩ : ∃ k', k = k' + 1 := ⟨k - 1, by omega⟩
    obtain ⟨k3, hk3⟩ : ∃ k', k = k' + 3 := ⟨k - 3, by omega⟩
    have hv := val_range (bt s i) b
    have hbt := bt_range s i
    rw [digit_Parse.l0, if_pos (by omega), if_pos h0, if_pos (by omega), hk3, digit_Value_eq k3 _ b ⟨hbt.1, by omega⟩, ← hk3, Option.bind_some, bytes_at s i h0 (by omega), show wrap64 (i + 1) = i + 1 by unfold wrap64; omega]
    rw [parL_cons]
    obtain ⟨v, hve⟩ : ∃ v, v = (valF (bt s i) b).1 := ⟨_, rfl⟩
    rw [← hve] at hv ⊢
    cases hd : (valF (bt s i) b).2
    · rw [if_neg Bool.false_ne_true, if_neg Bool.false_ne_true]
      rfl
    · rw [if_pos rfl, if_pos rfl]
      rcases hst with ⟨rfl, rfl, rfl, h2, h3⟩ | ⟨rfl, rfl, rfl⟩
      · obtain ⟨m0, m1, m2⟩ := mulb n b v h2 (by omega) hb hv
        rw [m2, if_neg Bool.false_ne_true]
        by_cases hg : n * b + v > 4294967295
        · rw [if_pos hg, decide_eq_true (show n * b + v ≥ 4294967296 by omega)]
          exact ih k (i + 1) _ _ _ _ (by omega) (by omega) (by omega) (.inr ⟨rfl, rfl, rfl⟩)
        · rw [if_neg hg, decide_eq_false (show ¬ n * b + v ≥ 4294967296 by omega)]
          exact ih k (i + 1) _ _ _ _ (by omega) (by omega) (by omega) (.inl ⟨rfl, rfl, rfl, by omega, by omega⟩)
      · obtain ⟨m0, m1, m2⟩ := mulb 4294967296 b v (by omega) (by omega) hb hv
        rw [m2, if_pos (by omega), if_pos rfl]
        exact ih k (i + 1) _ _ _ _ (by omega) (by omega) (by omega) (.inr ⟨rfl, rfl, rfl⟩)
/-- A text as a number in a base. -/
def parF (s : ByteArray) (b : Int) : Int × Int :=
  if 2 ≤ b ∧ b ≤ 36 then
    (if 0 < s.size ∧ bt s 0 = 45 then (if s.size = 1 then (0, 15) else resF true (parL b (bytesOf (s.extract 1 s.size)) 0 false))
     else (if s.size = 0 then (0, 15) else resF false (parL b (bytesOf s) 0 false)))
  else (0, 1)
theorem extract_size (s : ByteArray) : (s.extract 1 s.size).size = s.size - 1 := by rw [ByteArray.size_extract]; omega
theorem minus_iff (s : ByteArray) (h : 1 ≤ s.size) : ((s.extract 0 1).toList == (⟨#[45]⟩ : ByteArray).toList) = decide (bt s 0 = 45) := by
  rw [ByteArray.toList_eq, ByteArray.toList_eq, Go.Lib.extract_data, List.drop_zero]
  have hl : 0 < s.data.toList.length := by rw [data_length]; omega
  have hb : bt s 0 = ((s.data.toList[0]'hl).toNat : Int) := by
    rw [← rd_bytesOf]
    simp [rd, bytesOf, List.getD_eq_getElem?_getD, List.getElem?_eq_getElem hl]
  rw [hb]
  match hx : s.data.toList, hl with
  | a :: t, _ =>
    show ([a] == [45]) = decide ((a.toNat : Int) = 45)
    rw [Bool.eq_iff_iff, beq_iff_eq, decide_eq_true_iff, List.cons.injEq, and_iff_left rfl]
    constructor
    · intro h; rw [h]; rfl
    · intro h
      refine UInt8.toNat_inj.1 ?_
      show a.toNat = 45
      omega
theorem cutprefix_eq (s : ByteArray) : strings_CutPrefix.f s (⟨#[45]⟩ : ByteArray) = some (if 0 < s.size ∧ bt s 0 = 45 then (s.extract 1 s.size, true) else (s, false)) := by
  unfold strings_CutPrefix.f stringslite_CutPrefix.f stringslite_HasPrefix.f
  have h1 : (((⟨#[45]⟩ : ByteArray).size : Nat) : Int) = 1 := rfl
  rw [h1]
  by_cases hs : 1 ≤ s.size
  · rw [if_pos (by omega), if_pos (by omega), if_pos (by omega), Option.bind_some, show ((1 : Int)).toNat = 1 from rfl, minus_iff s hs]
    by_cases hb : bt s 0 = 45
    · rw [if_pos (by simpa using hb), if_pos (by omega), if_pos (by omega), Option.bind_some, if_pos ⟨by omega, hb⟩]
    · rw [if_neg (by simpa using hb), Option.bind_some, if_neg (fun h => hb h.2)]
  · rw [if_neg (by omega), Option.bind_some, if_neg (by decide), Option.bind_some, if_neg (by omega)]
theorem empty_iff (s : ByteArray) : s.toList = ([] : List UInt8) ↔ s.size = 0 := by
  rw [ByteArray.toList_eq, ← List.length_eq_zero_iff, data_length]
theorem parse_eq (k : Nat) (s : ByteArray) (b : Int) (hs : s.size ≤ 9223372036854775806) (hk : s.size + 20 < k) : digit_Parse.f k s b = some (parF s b) := by
  unfold digit_Parse.f parF
  rw [fit_eq, Option.bind_some]
  by_cases hb : 2 ≤ b ∧ b ≤ 36
  · rw [if_pos (by simpa using hb), if_pos hb, cutprefix_eq, Option.bind_some]
    by_cases hm : 0 < s.size ∧ bt s 0 = 45
    · have hx := extract_size s
      rw [if_pos hm, if_pos hm]
      dsimp only
      by_cases h1 : s.size = 1
      · rw [if_pos ((empty_iff _).2 (by omega)), if_pos h1]
      · rw [if_neg (fun h => h1 (by have := (empty_iff _).1 h; omega)), if_neg h1]
        exact parse_go b hb _ true (by omega) _ k 0 0 0 0 false (by omega) (by simp; rfl) (by omega) (.inl ⟨rfl, rfl, rfl, by omega, by omega⟩)
    · rw [if_neg hm, if_neg hm]
      dsimp only
      by_cases h1 : s.size = 0
      · rw [if_pos ((empty_iff _).2 h1), if_pos h1]
      · rw [if_neg (fun h => h1 ((empty_iff _).1 h)), if_neg h1]
        exact parse_go b hb _ false (by omega) _ k 0 0 0 0 false (by omega) (by simp; rfl) (by omega) (.inl ⟨rfl, rfl, rfl, by omega, by omega⟩)
  · rw [if_neg (by simpa using hb), if_neg hb]
end Go.Proofs.YtefhngadeimklaaDoor.Q
end
section
namespace Go.Proofs
open Go.Shelf
def Tryd.lays283_ren : Go.Shelf.Ren := ⟨fun | 283 => 94 | n => n, fun | 3 => 3 | 9 => 9 | 4 => 4 | n => n, fun | n => n⟩
theorem Tryd.lays283 : Go.Proofs.Lays.n283 Tryd.prog Tryd.lays283_ren := {
  mixed := by kernel_rfl
  f283 := Tryd.func94.trans (congrArg some (by kernel_rfl))
  t3 := Tryd.underlying3
  a3 := Tryd.isAgg3
  z3 := Tryd.sizeOf3
  v3 := Tryd.zeroValue3
  t4 := Tryd.underlying4
  a4 := Tryd.isAgg4
  z4 := Tryd.sizeOf4
  v4 := Tryd.zeroValue4
  t9 := Tryd.underlying9
  a9 := Tryd.isAgg9
  z9 := Tryd.sizeOf9
  v9 := Tryd.zeroValue9 }
open Go.Lib in
/-- internal/strconv.small: "small returns the string for an i with 0 <= i < nSmalls.": i's decimal numeral. The world is as it was. (LAID: no walk: one application.) -/
theorem Tryd.internal_strconv_small (i : Nat) (h : i < 100) (w : World) :
    Calls Tryd.prog 94 #[.int .i64 i] w fun e w' => e = .returned (.string ⟨(Lib.decDigits i).toArray⟩) ∧ w' = w := Any.internal_strconv_small Tryd.lays283 i h w
def Tryd.laysM284_ren : Go.Shelf.Ren := ⟨fun | 284 => 95 | 129 => 101 | 317 => 100 | 318 => 102 | n => n, fun | 53 => 87 | 3 => 3 | 212 => 128 | 0 => 0 | 4 => 4 | 46 => 98 | 5 => 5 | 9 => 9 | n => n, fun | 17 => 1 | n => n⟩
theorem Tryd.laysM284 : Go.Proofs.LaysM.n284 Tryd.prog Tryd.laysM284_ren := {
  mixed := by kernel_rfl
  f129 := Tryd.func101.trans (congrArg some (by kernel_rfl))
  f284 := Tryd.func95.trans (congrArg some (by kernel_rfl))
  f317 := Tryd.func100.trans (congrArg some (by kernel_rfl))
  f318 := Tryd.func102.trans (congrArg some (by kernel_rfl))
  t0 := Tryd.underlying0
  a0 := Tryd.isAgg0
  z0 := Tryd.sizeOf0
  v0 := Tryd.zeroValue0
  t3 := Tryd.underlying3
  a3 := Tryd.isAgg3
  z3 := Tryd.sizeOf3
  v3 := Tryd.zeroValue3
  t4 := Tryd.underlying4
  a4 := Tryd.isAgg4
  z4 := Tryd.sizeOf4
  v4 := Tryd.zeroValue4
  t5 := Tryd.underlying5
  a5 := Tryd.isAgg5
  z5 := Tryd.sizeOf5
  v5 := Tryd.zeroValue5
  t9 := Tryd.underlying9
  a9 := Tryd.isAgg9
  z9 := Tryd.sizeOf9
  v9 := Tryd.zeroValue9
  t46 := Tryd.underlying98
  a46 := Tryd.isAgg98
  z46 := Tryd.sizeOf98
  v46 := Tryd.zeroValue98
  t53 := Tryd.underlying87
  a53 := Tryd.isAgg87
  z53 := Tryd.sizeOf87
  v53 := Tryd.zeroValue87
  t212 := Tryd.underlying128
  a212 := Tryd.isAgg128
  z212 := Tryd.sizeOf128
  v212 := Tryd.zeroValue128
  g17 := by kernel_rfl
  i0 := by kernel_rfl
  i3 := by kernel_rfl
  i4 := by kernel_rfl
  i5 := by kernel_rfl
  i9 := by kernel_rfl
  i46 := by kernel_rfl
  i53 := by kernel_rfl
  i212 := by kernel_rfl
  m17 := by kernel_rfl }
open Go.Lib in
/-- internal/strconv.numDigits, at a d that is not 0: THE NUMBER OF d's DECIMAL DIGITS. The world is as it was. (LAID: no walk: one application.) -/
theorem Tryd.internal_strconv_numDigits (u : Nat) (h1 : 1 ≤ u) (h2 : u < 18446744073709551616) (w : World) (htab : Lib.TabIs Tryd.prog w "internal/strconv.uint64pow10" .u64 Lib.pow10Tab) :
    Calls Tryd.prog 95 #[.int .u64 u] w fun e w' => e = .returned (.int .i64 (Lib.nDigits u)) ∧ w' = w := Any.internal_strconv_numDigits Tryd.laysM284 u h1 h2 w htab
def Tryd.lays285_ren : Go.Shelf.Ren := ⟨fun | 285 => 96 | n => n, fun | 37 => 42 | 53 => 87 | 3 => 3 | 4 => 4 | 51 => 71 | 9 => 9 | 5 => 5 | 0 => 0 | n => n, fun | n => n⟩
theorem Tryd.lays285 : Go.Proofs.Lays.n285 Tryd.prog Tryd.lays285_ren := {
  mixed := by kernel_rfl
  f285 := Tryd.func96.trans (congrArg some (by kernel_rfl))
  t0 := Tryd.underlying0
  a0 := Tryd.isAgg0
  z0 := Tryd.sizeOf0
  v0 := Tryd.zeroValue0
  t3 := Tryd.underlying3
  a3 := Tryd.isAgg3
  z3 := Tryd.sizeOf3
  v3 := Tryd.zeroValue3
  t4 := Tryd.underlying4
  a4 := Tryd.isAgg4
  z4 := Tryd.sizeOf4
  v4 := Tryd.zeroValue4
  t5 := Tryd.underlying5
  a5 := Tryd.isAgg5
  z5 := Tryd.sizeOf5
  v5 := Tryd.zeroValue5
  t9 := Tryd.underlying9
  a9 := Tryd.isAgg9
  z9 := Tryd.sizeOf9
  v9 := Tryd.zeroValue9
  t37 := Tryd.underlying42
  a37 := Tryd.isAgg42
  z37 := Tryd.sizeOf42
  v37 := Tryd.zeroValue42
  t51 := Tryd.underlying71
  a51 := Tryd.isAgg71
  z51 := Tryd.sizeOf71
  v51 := Tryd.zeroValue71
  t53 := Tryd.underlying87
  a53 := Tryd.isAgg87
  z53 := Tryd.sizeOf87
  v53 := Tryd.zeroValue87 }
open Go.RowKit Go.Sort Go.Lib in
/-- internal/strconv.formatBase10: "formatBase10 formats the decimal representation of u into a. The caller is responsible for ensuring that a is big enough to hold u. If a is too big, leading zeros will be filled in as needed.": THE ROW HOLDS u's DIGITS ('FmtInv .. 0 ..': every place t holds 'dg u (len - 1 - t)'); all else is as it was but for the count of draws. (LAID: no walk: one application.) -/
theorem Tryd.internal_strconv_formatBase10 (blk off cap : Nat) (u : Nat) (d : Array UInt8) (w : World) (hH : Holds (fun (b : UInt8) => Value.int .u8 (b.toNat : Int)) w blk off d) (hu : u < 10 ^ d.size) (hu64 : u < 18446744073709551616) (hsz : d.size < 4611686018427387904) :
    Calls Tryd.prog 96 #[.slice (some ⟨blk, off, none⟩) d.size cap, .int .u64 u] w fun e w' =>
      e = .returned (.tuple #[]) ∧ ∃ (n v' : Nat) (dk : Array UInt8), w' = (putRow (fun (b : UInt8) => Value.int .u8 (b.toNat : Int)) w blk off dk).drewN n ∧ FmtInv d.size u 0 v' dk := Any.internal_strconv_formatBase10 Tryd.lays285 blk off cap u d w hH hu hu64 hsz
def Tryd.lays219_ren : Go.Shelf.Ren := ⟨fun | 219 => 82 | 217 => 89 | 225 => 90 | 224 => 91 | 267 => 92 | 266 => 98 | 314 => 99 | n => n, fun | 9 => 9 | 3 => 3 | 4 => 4 | 5 => 5 | 46 => 98 | 146 => 125 | 51 => 71 | n => n, fun | 1 => 0 | n => n⟩
end Go.Proofs
end
section
namespace Go.Proofs.YtefhngadeimklaaDoor.Q
open Go.RowKit Go.Proofs.YtefhngadeimklaaDoorW.PrintWords Go.Proofs.YtefhngadeimklaaDoorW.PrintLast Go.Proofs.YtefhngadeimklaaDoorW.PrintMore
def chN (v : Nat) : Nat := if v < 10 then 48 + v else 87 + v
def showL (b u : Nat) : List UInt8 := if _h : u < b ∨ b < 2 then [UInt8.ofNat (chN u)] else showL b (u / b) ++ [UInt8.ofNat (chN (u % b))]
termination_by u
decreasing_by exact Nat.div_lt_self (by omega) (by omega)
theorem showL_small {b u : Nat} (h : u < b) : showL b u = [UInt8.ofNat (chN u)] := by rw [showL, dif_pos (.inl h)]
theorem showL_big {b u : Nat} (hb : 2 ≤ b) (h : b ≤ u) : showL b u = showL b (u / b) ++ [UInt8.ofNat (chN (u % b))] := by rw [showL, dif_neg (by omega)]
theorem showL_ten (u : Nat) : Go.Lib.decDigits u = showL 10 u := by
  induction u using Nat.strongRecOn with
  | ind u ih =>
    by_cases h : u < 10
    · rw [Go.Lib.decDigits, dif_pos h, showL_small h]
      unfold chN
      rw [if_pos h]
    · rw [Go.Lib.decDigits, dif_neg h, showL_big (by omega) (by omega), ih (u / 10) (Nat.div_lt_self (by omega) (by omega))]
      unfold chN
      rw [if_pos (Nat.mod_lt _ (by omega))]
theorem showL_len (b : Nat) (hb : 2 ≤ b) (k : Nat) : ∀ u : Nat, u < 2 ^ (k + 1) → (showL b u).length ≤ k + 1 := by
  induction k with
  | zero =>
    intro u hu
    rw [showL_small (by omega)]
    simp
  | succ k ih =>
    intro u hu
    by_cases h : u < b
    · rw [showL_small h]; simp
    · rw [showL_big hb (by omega), List.length_append]
      have h1 : u / b ≤ u / 2 := Nat.div_le_div_left hb (by omega)
      have h2 : u / 2 < 2 ^ (k + 1) := by
        rw [Nat.pow_succ] at hu
        omega
      have := ih (u / b) (by omega)
      simp
      omega
theorem showL_pos (b u : Nat) : 1 ≤ (showL b u).length := by
  rw [showL]
  split
  · simp
  · rw [List.length_append]; simp
def showI (b u : Int) : List Int := (showL b.toNat u.toNat).map fun c => (c.toNat : Int)
def chI (v : Int) : Int := if v < 10 then v + 48 else v + 87
theorem ch_eq (v : Nat) (h : v < 36) : ((UInt8.ofNat (chN v)).toNat : Int) = chI v := by
  unfold chN chI
  by_cases h1 : v < 10
  · rw [if_pos h1, if_pos (by omega), UInt8.toNat_ofNat']
    omega
  · rw [if_neg h1, if_neg (by omega), UInt8.toNat_ofNat']
    omega
theorem showI_small {b u : Int} (h0 : 0 ≤ u) (h : u < b) (hb : b ≤ 36) : showI b u = [chI u] := by
  unfold showI
  rw [showL_small (by omega), List.map_singleton, ch_eq _ (by omega), Int.toNat_of_nonneg h0]
theorem showI_big {b u : Int} (hb : 2 ≤ b) (hb2 : b ≤ 36) (h : b ≤ u) : showI b u = showI b (u / b) ++ [chI (u % b)] := by
  unfold showI
  have e1 : (u / b).toNat = u.toNat / b.toNat := by
    obtain ⟨n, rfl⟩ := Int.eq_ofNat_of_zero_le (show 0 ≤ u by omega)
    obtain ⟨m, rfl⟩ := Int.eq_ofNat_of_zero_le (show 0 ≤ b by omega)
    rfl
  have e2 : ((u.toNat % b.toNat : Nat) : Int) = u % b := by
    rw [Int.natCast_emod, Int.toNat_of_nonneg (by omega), Int.toNat_of_nonneg (by omega)]
  rw [showL_big (by omega) (by omega), List.map_append, List.map_singleton, ch_eq _ (by have := Nat.mod_lt u.toNat (show 0 < b.toNat by omega); omega), e1, e2]
end Go.Proofs.YtefhngadeimklaaDoor.Q
end
section
namespace Go.Proofs.YtefhngadeimklaaDoor.Q
open Go.RowKit Go.Sort Go.Lib Go.Proofs.YtefhngadeimklaaDoorW.PrintWords Go.Proofs.YtefhngadeimklaaDoorW.PrintLast Go.Proofs.YtefhngadeimklaaDoorW.PrintMore
def showB (b u : Int) : ByteArray := ⟨(showL b.toNat u.toNat).toArray⟩
theorem below_grow {w w1 : World} (h : Below w.heap.size w w1) (os : Array Obj) : Below w.heap.size w (Go.Sort.grow w1 os) :=
  ⟨h.os, h.tape, h.output, by rw [Go.Sort.size_grow]; exact Nat.le_trans h.size (Nat.le_add_right _ _), fun i hi => by
    rw [← h.block i hi]
    show (w1.heap ++ os)[i]? = w1.heap[i]?
    rw [Array.getElem?_append_left (Nat.lt_of_lt_of_le hi h.size)]⟩
theorem dec_show (u : Nat) : (⟨(decDigits u).toArray⟩ : ByteArray) = showB 10 u := by
  unfold showB
  rw [showL_ten]
  rfl
set_option maxHeartbeats 1000000 in
set_option maxRecDepth 100000 in
theorem formatUint_ten (u : Nat) (hu : u < 4294967296) (w : World) (ht : Tabs w) :
    Calls Tryd.prog 88 #[.int .u64 u, .int .i64 10] w fun e w' => e = .returned (.string (showB 10 u)) ∧ Below w.heap.size w w' := by
  rw [← dec_show]
  by_cases h1 : u < 100
  · have HS := Aside0.mk (Tryd.internal_strconv_small u h1 w)
    have d1 : decide ((u : Int) < 100) = true := decide_eq_true (by omega)
    have e1 : wrap64 (u : Int) = u := by unfold wrap64; omega
    clear ht hu h1
    go_enter Tryd.func88, Tryd.ntmps88
    go_wp2_with (first
      | (go_at_call 94; (with_reducible refine HS.out.mono ?_); rintro e w1 ⟨rfl, rfl⟩))
    go_ret
    exact ⟨rfl, Below.refl _ _⟩
  · have d1 : decide ((u : Int) < 100) = false := decide_eq_false (by omega)
    have hu1 : 1 ≤ u := by omega
    have hu64 : u < 18446744073709551616 := by omega
    have hnd20 : nDigits u ≤ 20 := by have := numDigits_eq u hu1 hu64; split at this <;> omega
    have hal : Tryd.prog.arrayLen 120 = 24 := by kernel_rfl
    have hel : Tryd.prog.elem 120 = 5 := by kernel_rfl
    have hsl1 : ∀ W, (Instr.sliceAt 120 (.pointer (some ⟨w.heap.size, 0, none⟩)) none (some (.int .i64 (nDigits u : Int))) none).run Tryd.prog W = .ok (.slice (some ⟨w.heap.size, 0, none⟩) (nDigits u) 24) W := fun W => by
      rw [run_sliceAt_array_h W 120 ⟨w.heap.size, 0, none⟩ (by kernel_rfl) .i64 (nDigits u : Int) (by omega) (by rw [hal]; omega), hal, hel, run_size (sz := 1) (by kernel_rfl) W]
      show Result.ok (slicedAt ⟨w.heap.size, 0, none⟩ 0 (nDigits u : Int).toNat 24 1) W = _
      unfold slicedAt
      rw [if_neg (by omega), Nat.zero_mul, Go.Lib.add_plain, Int.toNat_natCast]
      rfl
    have hH0 := holds_zero0 w 120 (nDigits u) (by omega)
    have hfmt := Tryd.internal_strconv_formatBase10 w.heap.size 0 24 u (Array.replicate (nDigits u) 0) (w.alloc (.cells zeros24 120)) hH0 (by rw [Array.size_replicate]; exact lt_pow_nDigits u) hu64 (by rw [Array.size_replicate]; omega)
    rw [Array.size_replicate] at hfmt
    have HH0 := Aside0.mk hH0
    have HF := Aside0.mk hfmt
    have HND := Aside0.mk (Tryd.internal_strconv_numDigits u hu1 hu64 (w.alloc (.cells zeros24 120)) (tabIs_alloc ht.strconv_uint64pow10 _))
    clear hH0 hal hel hfmt ht hu h1 hu1 hu64 hnd20
    go_enter Tryd.func88, Tryd.ntmps88
    go_wp2_with (first
      | (go_at_call 95; refine HND.out.mono ?_; rintro e w' ⟨rfl, rfl⟩)
      | (go_at_call 96; refine HF.out.mono ?_; rintro e w' ⟨rfl, k, v', dk, hwk, hF⟩; have HW := Aside0.mk hwk; have HFI := Aside0.mk hF; have hcv : (convert 42 9 (.slice (some ⟨w.heap.size, 0, none⟩) (nDigits u) 24)).run Tryd.prog w' = .ok (.string ⟨(decDigits u).toArray⟩) w' := (by
          have h := run_convert_bytes_back (P := Tryd.prog) w' 42 9 5 ⟨w.heap.size, 0, none⟩ 24 (decDigits u) Tryd.underlying42 Tryd.underlying5 Tryd.underlying9 (fun j hj => by
            rw [row_is_numeral hF j hj, Go.Lib.add_plain, hwk, World.cell?_drewN]
            exact cell?_putRow (fun (b : UInt8) => Value.int .u8 (b.toNat : Int)) _ w.heap.size 0 _ dk HH0.out (by rw [hF.size, Array.size_replicate]) j (by rw [hF.size]; rw [decDigits_length] at hj; exact hj))
          rw [decDigits_length] at h
          exact h); clear hwk hF))
    go_ret
    refine ⟨rfl, ?_⟩
    obtain ⟨os, eo⟩ := fin_at w (.cells zeros24 120) _ _ 0
    rw [HW.out, eo]
    exact Q.below_grow (pw_below_drewN (Below.refl _ _) _) os
/-- At ten alone. -/
def digit_Show.f (n b : Int) : Option (ByteArray × Int) := if 0 ≤ n ∧ n < 4294967296 then (if b = 10 then some (showB 10 n, 0) else none) else none
set_option maxHeartbeats 1000000 in
set_option maxRecDepth 100000 in
theorem digit_Show.calls (a0 : Int) (a1 : Int) (r1 : ByteArray) (r2 : Int) (w : World) (ht : Tabs w) (h : digit_Show.f a0 a1 = some (r1, r2)) :
    Calls Tryd.prog 62 #[.int .u32 a0, .int .u32 a1] w fun e w' => e = .returned (.tuple #[.string r1, .int .i64 r2]) ∧ Below w.heap.size w w' := by
  unfold digit_Show.f at h
  split at h
  case isFalse => cases h
  rename_i hn
  split at h
  case isFalse => cases h
  rename_i hb
  subst hb
  obtain ⟨rfl, rfl⟩ := Prod.mk.inj (Option.some.inj h)
  obtain ⟨n, rfl⟩ := Int.eq_ofNat_of_zero_le hn.1
  have HU := Aside0.mk (show ∀ W : World, Tabs W → Calls Tryd.prog 80 #[.int .u64 (n : Int), .int .i64 10] W (fun e w' => e = .returned (.string (showB 10 n)) ∧ Below W.heap.size W w') from fun W hT => by
    have HC := Aside0.mk (formatUint_ten n (by omega) W hT)
    clear ht h hn hT
    go_enter Tryd.func80, Tryd.ntmps80
    go_wp2_with (first
      | (go_at_call 88; (with_reducible refine HC.out.mono ?_); rintro e w1 ⟨rfl, hb⟩; have HB := Aside0.mk hb; clear hb))
    go_ret
    exact ⟨rfl, HB.out⟩)
  have HF := Aside0.mk (show digit_fit.f 10 = some true by rw [fit_eq, decide_eq_true ⟨by decide, by decide⟩])
  have HT := Aside0.mk ht
  have e1 : IntKind.u64.wrap (n : Int) = (n : Int) := wrap_u64_id n hn.1 (by omega)
  clear h hn ht
  go_enter Tryd.func62, Tryd.ntmps62
  go_wp2_with (first
    | (go_at_call 77; (with_reducible refine (digit_fit.calls _ _ _ HF.out).mono ?_); rintro e w1 ⟨rfl, hd⟩; have HB1 := Aside0.mk hd.below; have HT1 := Aside0.mk (HT.out.below hd.below); clear hd)
    | (go_at_call 80; (with_reducible refine (HU.out _ HT1.out).mono ?_); rintro e w2 ⟨rfl, hb⟩; have HB2 := Aside0.mk (below_step HB1.out hb); clear hb))
  go_ret2
  exact ⟨rfl, HB2.out⟩
end Go.Proofs.YtefhngadeimklaaDoor.Q
end
section
namespace Go.Proofs.YtefhngadeimklaaDoor.Q
open Go.RowKit Go.Proofs.YtefhngadeimklaaDoorW.PrintWords Go.Proofs.YtefhngadeimklaaDoorW.PrintLast Go.Proofs.YtefhngadeimklaaDoorW.PrintMore
def digS (d : Int) : ByteArray := ⟨[UInt8.ofNat (chN d.toNat)].toArray⟩
def preL (kq : Nat) (b u : Int) : List UInt8 := if kq = 0 then [] else showL b.toNat u.toNat
def tinderref02_Show.f (n b : Int) : Option (ByteArray × Int) := if 0 ≤ n ∧ n < 4294967296 then (if 2 ≤ b ∧ b ≤ 36 then some (showB b n, 0) else some (⟨#[]⟩, 1)) else none
end Go.Proofs.YtefhngadeimklaaDoor.Q
end
section
namespace Go.Proofs.YtefhngadeimklaaDoor.Q
open Go.RowKit Go.Proofs.YtefhngadeimklaaDoorW.PrintWords Go.Proofs.YtefhngadeimklaaDoorW.PrintLast Go.Proofs.YtefhngadeimklaaDoorW.PrintMore
set_option linter.unusedVariables false
set_option linter.unusedSimpArgs false

attribute [local go_sem] max2_int min2_int max_two min_two max_three min_three max_four min_four
/-! ### vars_all: function 50 -/
def vars_all.f  : Option ((List (S57))) := some (([(⟨(⟨#[97, 117, 116, 111, 45, 98, 111, 111, 116, 63]⟩ : ByteArray), 0, (⟨#[116, 114, 117, 101]⟩ : ByteArray)⟩ : S57), (⟨(⟨#[98, 111, 111, 116, 45, 100, 101, 118, 105, 99, 101]⟩ : ByteArray), 2, (⟨#[100, 105, 115, 107, 32, 110, 101, 116]⟩ : ByteArray)⟩ : S57), (⟨(⟨#[98, 111, 111, 116, 45, 102, 105, 108, 101]⟩ : ByteArray), 2, (⟨#[]⟩ : ByteArray)⟩ : S57), (⟨(⟨#[98, 111, 111, 116, 45, 108, 105, 109, 105, 116]⟩ : ByteArray), 1, (⟨#[53, 48, 48, 48]⟩ : ByteArray)⟩ : S57), (⟨(⟨#[105, 110, 112, 117, 116, 45, 100, 101, 118, 105, 99, 101]⟩ : ByteArray), 2, (⟨#[107, 101, 121, 98, 111, 97, 114, 100]⟩ : ByteArray)⟩ : S57), (⟨(⟨#[110, 118, 114, 97, 109, 114, 99]⟩ : ByteArray), 2, (⟨#[]⟩ : ByteArray)⟩ : S57), (⟨(⟨#[111, 101, 109, 45, 98, 97, 110, 110, 101, 114]⟩ : ByteArray), 2, (⟨#[]⟩ : ByteArray)⟩ : S57), (⟨(⟨#[115, 99, 114, 101, 101, 110, 45, 116, 117, 114, 110]⟩ : ByteArray), 1, (⟨#[48]⟩ : ByteArray)⟩ : S57), (⟨(⟨#[117, 115, 101, 45, 110, 118, 114, 97, 109, 114, 99, 63]⟩ : ByteArray), 0, (⟨#[102, 97, 108, 115, 101]⟩ : ByteArray)⟩ : S57)] : List (S57)))
set_option maxHeartbeats 8000000 in
set_option maxRecDepth 100000 in
theorem vars_all.calls  (r : List (S57)) (w : World) (h : vars_all.f  = some r) :
    Calls Tryd.prog 50 #[] w fun e w' => ∃ v0_ : Value, e = .returned (v0_) ∧ Kd.R k57 57 w' w.heap.size (fun _ => True) v0_ r ∧ Below w.heap.size w w' := by
  have hu57 := Tryd.underlying57
  have HB := Aside0.mk (Below.refl w.heap.size w)
  have H : (some (([(⟨(⟨#[97, 117, 116, 111, 45, 98, 111, 111, 116, 63]⟩ : ByteArray), 0, (⟨#[116, 114, 117, 101]⟩ : ByteArray)⟩ : S57), (⟨(⟨#[98, 111, 111, 116, 45, 100, 101, 118, 105, 99, 101]⟩ : ByteArray), 2, (⟨#[100, 105, 115, 107, 32, 110, 101, 116]⟩ : ByteArray)⟩ : S57), (⟨(⟨#[98, 111, 111, 116, 45, 102, 105, 108, 101]⟩ : ByteArray), 2, (⟨#[]⟩ : ByteArray)⟩ : S57), (⟨(⟨#[98, 111, 111, 116, 45, 108, 105, 109, 105, 116]⟩ : ByteArray), 1, (⟨#[53, 48, 48, 48]⟩ : ByteArray)⟩ : S57), (⟨(⟨#[105, 110, 112, 117, 116, 45, 100, 101, 118, 105, 99, 101]⟩ : ByteArray), 2, (⟨#[107, 101, 121, 98, 111, 97, 114, 100]⟩ : ByteArray)⟩ : S57), (⟨(⟨#[110, 118, 114, 97, 109, 114, 99]⟩ : ByteArray), 2, (⟨#[]⟩ : ByteArray)⟩ : S57), (⟨(⟨#[111, 101, 109, 45, 98, 97, 110, 110, 101, 114]⟩ : ByteArray), 2, (⟨#[]⟩ : ByteArray)⟩ : S57), (⟨(⟨#[115, 99, 114, 101, 101, 110, 45, 116, 117, 114, 110]⟩ : ByteArray), 1, (⟨#[48]⟩ : ByteArray)⟩ : S57), (⟨(⟨#[117, 115, 101, 45, 110, 118, 114, 97, 109, 114, 99, 63]⟩ : ByteArray), 0, (⟨#[102, 97, 108, 115, 101]⟩ : ByteArray)⟩ : S57)] : List (S57)))) = some r := h
  clear h
  obtain ⟨y51001, hy51001⟩ : ∃ y_ : List (S57), y_ = (([(⟨(⟨#[97, 117, 116, 111, 45, 98, 111, 111, 116, 63]⟩ : ByteArray), 0, (⟨#[116, 114, 117, 101]⟩ : ByteArray)⟩ : S57), (⟨(⟨#[98, 111, 111, 116, 45, 100, 101, 118, 105, 99, 101]⟩ : ByteArray), 2, (⟨#[100, 105, 115, 107, 32, 110, 101, 116]⟩ : ByteArray)⟩ : S57), (⟨(⟨#[98, 111, 111, 116, 45, 102, 105, 108, 101]⟩ : ByteArray), 2, (⟨#[]⟩ : ByteArray)⟩ : S57), (⟨(⟨#[98, 111, 111, 116, 45, 108, 105, 109, 105, 116]⟩ : ByteArray), 1, (⟨#[53, 48, 48, 48]⟩ : ByteArray)⟩ : S57), (⟨(⟨#[105, 110, 112, 117, 116, 45, 100, 101, 118, 105, 99, 101]⟩ : ByteArray), 2, (⟨#[107, 101, 121, 98, 111, 97, 114, 100]⟩ : ByteArray)⟩ : S57), (⟨(⟨#[110, 118, 114, 97, 109, 114, 99]⟩ : ByteArray), 2, (⟨#[]⟩ : ByteArray)⟩ : S57), (⟨(⟨#[111, 101, 109, 45, 98, 97, 110, 110, 101, 114]⟩ : ByteArray), 2, (⟨#[]⟩ : ByteArray)⟩ : S57), (⟨(⟨#[115, 99, 114, 101, 101, 110, 45, 116, 117, 114, 110]⟩ : ByteArray), 1, (⟨#[48]⟩ : ByteArray)⟩ : S57), (⟨(⟨#[117, 115, 101, 45, 110, 118, 114, 97, 109, 114, 99, 63]⟩ : ByteArray), 0, (⟨#[102, 97, 108, 115, 101]⟩ : ByteArray)⟩ : S57)] : List (S57))) := ⟨_, rfl⟩
  replace H : (some y51001) = some r := by first | (rw [hy51001]; with_reducible exact H) | (have H2_ := (Option.bind_some _ _).symm.trans H; rw [hy51001]; with_reducible exact H2_) | (have H2_ := (Option.bind_some _ _).symm.trans H; with_reducible exact H2_) | with_reducible exact H | (rw [hy51001]; exact H) | exact H
  have Ny51001 := Aside0.mk hy51001
  clear hy51001
  obtain rfl := Option.some.inj H
  go_enter Tryd.func50, Tryd.ntmps50
  go_wp2_with (first | ((with_reducible refine gate_dst (N := 10) rfl ?_); refine Kd.R_lit k57 _ 57 ?hg (N := 10) ?hd (xs := ([(⟨(⟨#[97, 117, 116, 111, 45, 98, 111, 111, 116, 63]⟩ : ByteArray), 0, (⟨#[116, 114, 117, 101]⟩ : ByteArray)⟩ : S57), (⟨(⟨#[98, 111, 111, 116, 45, 100, 101, 118, 105, 99, 101]⟩ : ByteArray), 2, (⟨#[100, 105, 115, 107, 32, 110, 101, 116]⟩ : ByteArray)⟩ : S57), (⟨(⟨#[98, 111, 111, 116, 45, 102, 105, 108, 101]⟩ : ByteArray), 2, (⟨#[]⟩ : ByteArray)⟩ : S57), (⟨(⟨#[98, 111, 111, 116, 45, 108, 105, 109, 105, 116]⟩ : ByteArray), 1, (⟨#[53, 48, 48, 48]⟩ : ByteArray)⟩ : S57), (⟨(⟨#[105, 110, 112, 117, 116, 45, 100, 101, 118, 105, 99, 101]⟩ : ByteArray), 2, (⟨#[107, 101, 121, 98, 111, 97, 114, 100]⟩ : ByteArray)⟩ : S57), (⟨(⟨#[110, 118, 114, 97, 109, 114, 99]⟩ : ByteArray), 2, (⟨#[]⟩ : ByteArray)⟩ : S57), (⟨(⟨#[111, 101, 109, 45, 98, 97, 110, 110, 101, 114]⟩ : ByteArray), 2, (⟨#[]⟩ : ByteArray)⟩ : S57), (⟨(⟨#[115, 99, 114, 101, 101, 110, 45, 116, 117, 114, 110]⟩ : ByteArray), 1, (⟨#[48]⟩ : ByteArray)⟩ : S57), (⟨(⟨#[117, 115, 101, 45, 110, 118, 114, 97, 109, 114, 99, 63]⟩ : ByteArray), 0, (⟨#[102, 97, 108, 115, 101]⟩ : ByteArray)⟩ : S57)] : List (S57))) (inner := [.string (⟨#[97, 117, 116, 111, 45, 98, 111, 111, 116, 63]⟩ : ByteArray), .int .i64 0, .string (⟨#[116, 114, 117, 101]⟩ : ByteArray), .string (⟨#[98, 111, 111, 116, 45, 100, 101, 118, 105, 99, 101]⟩ : ByteArray), .int .i64 2, .string (⟨#[100, 105, 115, 107, 32, 110, 101, 116]⟩ : ByteArray), .string (⟨#[98, 111, 111, 116, 45, 102, 105, 108, 101]⟩ : ByteArray), .int .i64 2, .string (⟨#[]⟩ : ByteArray), .string (⟨#[98, 111, 111, 116, 45, 108, 105, 109, 105, 116]⟩ : ByteArray), .int .i64 1, .string (⟨#[53, 48, 48, 48]⟩ : ByteArray), .string (⟨#[105, 110, 112, 117, 116, 45, 100, 101, 118, 105, 99, 101]⟩ : ByteArray), .int .i64 2, .string (⟨#[107, 101, 121, 98, 111, 97, 114, 100]⟩ : ByteArray), .string (⟨#[110, 118, 114, 97, 109, 114, 99]⟩ : ByteArray), .int .i64 2, .string (⟨#[]⟩ : ByteArray), .string (⟨#[111, 101, 109, 45, 98, 97, 110, 110, 101, 114]⟩ : ByteArray), .int .i64 2, .string (⟨#[]⟩ : ByteArray), .string (⟨#[115, 99, 114, 101, 101, 110, 45, 116, 117, 114, 110]⟩ : ByteArray), .int .i64 1, .string (⟨#[48]⟩ : ByteArray), .string (⟨#[117, 115, 101, 45, 110, 118, 114, 97, 109, 114, 99, 63]⟩ : ByteArray), .int .i64 0, .string (⟨#[102, 97, 108, 115, 101]⟩ : ByteArray)]) (ok := fun _ => True) (okp := fun _ => True) ?hr ?hp (fun _ hk => hk) trivial (Below.refl _ _) (Nat.le_refl _) (by simp) ?_; (case hd => rfl); (case hg => rfl); (case hr => first | (go_simp; done) | (go_simp; rfl)); (case hp => exact (Reps.c3 (show Kd.M k57 _ _ _ (⟨(⟨#[97, 117, 116, 111, 45, 98, 111, 111, 116, 63]⟩ : ByteArray), 0, (⟨#[116, 114, 117, 101]⟩ : ByteArray)⟩ : S57) [.string (⟨#[97, 117, 116, 111, 45, 98, 111, 111, 116, 63]⟩ : ByteArray), .int .i64 0, .string (⟨#[116, 114, 117, 101]⟩ : ByteArray)] from (k57_mkM _ _ _ (⟨(⟨#[97, 117, 116, 111, 45, 98, 111, 111, 116, 63]⟩ : ByteArray), 0, (⟨#[116, 114, 117, 101]⟩ : ByteArray)⟩ : S57) )) (Reps.c3 (show Kd.M k57 _ _ _ (⟨(⟨#[98, 111, 111, 116, 45, 100, 101, 118, 105, 99, 101]⟩ : ByteArray), 2, (⟨#[100, 105, 115, 107, 32, 110, 101, 116]⟩ : ByteArray)⟩ : S57) [.string (⟨#[98, 111, 111, 116, 45, 100, 101, 118, 105, 99, 101]⟩ : ByteArray), .int .i64 2, .string (⟨#[100, 105, 115, 107, 32, 110, 101, 116]⟩ : ByteArray)] from (k57_mkM _ _ _ (⟨(⟨#[98, 111, 111, 116, 45, 100, 101, 118, 105, 99, 101]⟩ : ByteArray), 2, (⟨#[100, 105, 115, 107, 32, 110, 101, 116]⟩ : ByteArray)⟩ : S57) )) (Reps.c3 (show Kd.M k57 _ _ _ (⟨(⟨#[98, 111, 111, 116, 45, 102, 105, 108, 101]⟩ : ByteArray), 2, (⟨#[]⟩ : ByteArray)⟩ : S57) [.string (⟨#[98, 111, 111, 116, 45, 102, 105, 108, 101]⟩ : ByteArray), .int .i64 2, .string (⟨#[]⟩ : ByteArray)] from (k57_mkM _ _ _ (⟨(⟨#[98, 111, 111, 116, 45, 102, 105, 108, 101]⟩ : ByteArray), 2, (⟨#[]⟩ : ByteArray)⟩ : S57) )) (Reps.c3 (show Kd.M k57 _ _ _ (⟨(⟨#[98, 111, 111, 116, 45, 108, 105, 109, 105, 116]⟩ : ByteArray), 1, (⟨#[53, 48, 48, 48]⟩ : ByteArray)⟩ : S57) [.string (⟨#[98, 111, 111, 116, 45, 108, 105, 109, 105, 116]⟩ : ByteArray), .int .i64 1, .string (⟨#[53, 48, 48, 48]⟩ : ByteArray)] from (k57_mkM _ _ _ (⟨(⟨#[98, 111, 111, 116, 45, 108, 105, 109, 105, 116]⟩ : ByteArray), 1, (⟨#[53, 48, 48, 48]⟩ : ByteArray)⟩ : S57) )) (Reps.c3 (show Kd.M k57 _ _ _ (⟨(⟨#[105, 110, 112, 117, 116, 45, 100, 101, 118, 105, 99, 101]⟩ : ByteArray), 2, (⟨#[107, 101, 121, 98, 111, 97, 114, 100]⟩ : ByteArray)⟩ : S57) [.string (⟨#[105, 110, 112, 117, 116, 45, 100, 101, 118, 105, 99, 101]⟩ : ByteArray), .int .i64 2, .string (⟨#[107, 101, 121, 98, 111, 97, 114, 100]⟩ : ByteArray)] from (k57_mkM _ _ _ (⟨(⟨#[105, 110, 112, 117, 116, 45, 100, 101, 118, 105, 99, 101]⟩ : ByteArray), 2, (⟨#[107, 101, 121, 98, 111, 97, 114, 100]⟩ : ByteArray)⟩ : S57) )) (Reps.c3 (show Kd.M k57 _ _ _ (⟨(⟨#[110, 118, 114, 97, 109, 114, 99]⟩ : ByteArray), 2, (⟨#[]⟩ : ByteArray)⟩ : S57) [.string (⟨#[110, 118, 114, 97, 109, 114, 99]⟩ : ByteArray), .int .i64 2, .string (⟨#[]⟩ : ByteArray)] from (k57_mkM _ _ _ (⟨(⟨#[110, 118, 114, 97, 109, 114, 99]⟩ : ByteArray), 2, (⟨#[]⟩ : ByteArray)⟩ : S57) )) (Reps.c3 (show Kd.M k57 _ _ _ (⟨(⟨#[111, 101, 109, 45, 98, 97, 110, 110, 101, 114]⟩ : ByteArray), 2, (⟨#[]⟩ : ByteArray)⟩ : S57) [.string (⟨#[111, 101, 109, 45, 98, 97, 110, 110, 101, 114]⟩ : ByteArray), .int .i64 2, .string (⟨#[]⟩ : ByteArray)] from (k57_mkM _ _ _ (⟨(⟨#[111, 101, 109, 45, 98, 97, 110, 110, 101, 114]⟩ : ByteArray), 2, (⟨#[]⟩ : ByteArray)⟩ : S57) )) (Reps.c3 (show Kd.M k57 _ _ _ (⟨(⟨#[115, 99, 114, 101, 101, 110, 45, 116, 117, 114, 110]⟩ : ByteArray), 1, (⟨#[48]⟩ : ByteArray)⟩ : S57) [.string (⟨#[115, 99, 114, 101, 101, 110, 45, 116, 117, 114, 110]⟩ : ByteArray), .int .i64 1, .string (⟨#[48]⟩ : ByteArray)] from (k57_mkM _ _ _ (⟨(⟨#[115, 99, 114, 101, 101, 110, 45, 116, 117, 114, 110]⟩ : ByteArray), 1, (⟨#[48]⟩ : ByteArray)⟩ : S57) )) (Reps.c3 (show Kd.M k57 _ _ _ (⟨(⟨#[117, 115, 101, 45, 110, 118, 114, 97, 109, 114, 99, 63]⟩ : ByteArray), 0, (⟨#[102, 97, 108, 115, 101]⟩ : ByteArray)⟩ : S57) [.string (⟨#[117, 115, 101, 45, 110, 118, 114, 97, 109, 114, 99, 63]⟩ : ByteArray), .int .i64 0, .string (⟨#[102, 97, 108, 115, 101]⟩ : ByteArray)] from (k57_mkM _ _ _ (⟨(⟨#[117, 115, 101, 45, 110, 118, 114, 97, 109, 114, 99, 63]⟩ : ByteArray), 0, (⟨#[102, 97, 108, 115, 101]⟩ : ByteArray)⟩ : S57) )) (Reps.none _ _))))))))))); intro v51002 w1 ho2 hb hg_ hnew_; clear hg_ hnew_; (first | rw [← Ny51001.out] at ho2 | (simp only [Int.reduceToNat] at ho2; rw [← Ny51001.out] at ho2)); have n0_ := Aside0.mk (Kd.R_lower ho2 (below_size (by repeat (first | (with_reducible first | exact HB.out | apply below_alloc | apply pw_below_drewN | apply below_drew1) | exact HB.out)))); have n1_ := Aside0.mk (below_step (by repeat (first | (with_reducible first | exact HB.out | apply below_alloc | apply pw_below_drewN | apply below_drew1) | exact HB.out)) hb); clear HB; have HO51003 := n0_; have HB := n1_; clear n0_ n1_; clear hb ho2))
  go_ret
  exact ⟨_, by first | rfl | (simp [errW_none, errW_some] <;> rfl) | (simp [*, errW_none, errW_some] <;> rfl), by (with_reducible repeat (first | apply Kd.R_alloc | apply Kd.R_drewN | apply Kd.R_drew)); exact HO51003.out, by repeat (first | (with_reducible first | exact HB.out | apply below_alloc | apply pw_below_drewN | apply below_drew1) | exact HB.out)⟩

end Go.Proofs.YtefhngadeimklaaDoor.Q
end
