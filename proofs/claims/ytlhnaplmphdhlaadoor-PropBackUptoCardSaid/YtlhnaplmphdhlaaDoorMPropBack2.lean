/- Contracts of Go functions and plain facts, of several texts, one behind the other; no condition. -/
import Derived.Test.YtlhnaplmphdhlaaDoorProg
import Derived.Below
import Derived.Deep.Draws
import Derived.Deep.AppendLies
import Derived.Maps.AppendAt
import Derived.OwnWalk
import Derived.Laws.BytesArg
import Derived.Laws.MakeOwn
import Derived.Laws.OwnMore
import Derived.Deep.OwnRows
import Derived.Tactics
import Derived.Lib.ConvBytes
import Derived.Laws.Slices
import Derived.WalkKit
import Derived.KernelRfl
import Derived.RowKit3
import Derived.Deep.LoopGhost
import Derived.Deep.QuietTactic
import Derived.BigQuiet
import Derived.WideLaws
import Derived.Deep.DeepCutAuto
import Derived.Deep.CutBlock
import Derived.Deep.RegionHeld3
import Derived.Laws.Rows
import Derived.Lib.AppendStr
import Derived.ArgAppend
import Derived.Laws.IdiomCopy
import Derived.OrdersHeld
import Derived.Laws.BitsLemmas
import Derived.RowKit
import Derived.Test.YtlhnaplmphdhlaaDoorMPropBack1
import Derived.WalkSpells
import Derived.Laws.CopyOwn
import Derived.RangeFuncNested
import Derived.RangeFuncBound
import Derived.RangeFuncCalls
import Derived.RangeFuncLeaves
import Derived.Shelf.Abstract
import Derived.OwnWalkIn
import Derived.TacticsInMore
import Derived.LoopNIn
import Derived.LoopIn
import Derived.Sort.QuietIn
import Derived.OrdersIn
import Derived.RangeFuncWrites
import Derived.RangeFuncBox
section
namespace Go.Proofs.YtlhnaplmphdhlaaDoor.Q
open Go.RowKit Go.Proofs.YtlhnaplmphdhlaaDoorW.PrintWords Go.Proofs.YtlhnaplmphdhlaaDoorW.PrintLast Go.Proofs.YtlhnaplmphdhlaaDoorW.PrintMore
set_option linter.unusedVariables false
set_option linter.unusedSimpArgs false

def errW : Option Int → Value
  | none => .nilIface
  | some c => .iface 0 (.int .i64 c)
theorem errW_none : errW none = .nilIface := rfl
theorem errW_some (c : Int) : errW (some c) = .iface 0 (.int .i64 c) := rfl

theorem info5 : (Tryd.prog.info? 5).map (fun i => (i.zero, i.size, i.bytes)) = some (some (.int .u8 0), 1, 1) := by kernel_rfl
theorem info9 : (Tryd.prog.info? 9).map (fun i => (i.zero, i.size, i.bytes)) = some (some (.string ⟨#[]⟩), 1, 16) := by kernel_rfl
-- the values' own types
/-! #### struct type 7 -/
structure S7 where
  f0 : Int
  f1 : Int
  f2 : Bool
  f3 : Int
def z7 : S7 := ⟨(0 : Int), (0 : Int), false, (0 : Int)⟩
def k7 : Kd S7 := Kd.iso (Kd.pair (Kd.int .i64) (Kd.pair (Kd.int .i64) (Kd.pair Kd.bool (Kd.int .u8)))) (fun x : S7 => (x.f0, x.f1, x.f2, x.f3))
def rd_T7 (xs : List S7) (i : Int) : S7 := xs.getD i.toNat z7

/-! #### struct type 8 -/
structure S8 where
  f0 : Int
  f1 : Int
  f2 : Bool
  f3 : Int
def z8 : S8 := ⟨(0 : Int), (0 : Int), false, (0 : Int)⟩
def k8 : Kd S8 := Kd.iso (Kd.pair (Kd.int .i64) (Kd.pair (Kd.int .i64) (Kd.pair Kd.bool (Kd.int .u8)))) (fun x : S8 => (x.f0, x.f1, x.f2, x.f3))
def rd_T8 (xs : List S8) (i : Int) : S8 := xs.getD i.toNat z8

/-! #### struct type 13 -/
structure S13 where
  f0 : ByteArray
  f1 : Int
def z13 : S13 := ⟨(⟨#[]⟩ : ByteArray), (0 : Int)⟩
def k13 : Kd S13 := Kd.iso (Kd.pair Kd.string (Kd.int .u64)) (fun x : S13 => (x.f0, x.f1))
def rd_T13 (xs : List S13) (i : Int) : S13 := xs.getD i.toNat z13

/-! #### struct type 14 -/
structure S14 where
  f0 : ByteArray
  f1 : Int
def z14 : S14 := ⟨(⟨#[]⟩ : ByteArray), (0 : Int)⟩
def k14 : Kd S14 := Kd.iso (Kd.pair Kd.string (Kd.int .u64)) (fun x : S14 => (x.f0, x.f1))
def rd_T14 (xs : List S14) (i : Int) : S14 := xs.getD i.toNat z14

def rd_L11 (xs : List (List Int)) (i : Int) : (List Int) := xs.getD i.toNat ([] : List Int)

def rd_L12 (xs : List (List (List Int))) (i : Int) : (List (List Int)) := xs.getD i.toNat ([] : List (List Int))

def rd_L13 (xs : List (List Int)) (i : Int) : (List Int) := xs.getD i.toNat ([] : List Int)

def rd_L14 (xs : List (List ByteArray)) (i : Int) : (List ByteArray) := xs.getD i.toNat ([] : List ByteArray)

/-! #### struct type 81 -/
structure S81 where
  f0 : ByteArray
  f1 : (List Int)
  f2 : ByteArray
def z81 : S81 := ⟨(⟨#[]⟩ : ByteArray), ([] : List Int), (⟨#[]⟩ : ByteArray)⟩
def k81 : Kd S81 := Kd.iso (Kd.pair Kd.string (Kd.pair (Kd.slice 24 (Kd.int .u32)) Kd.string)) (fun x : S81 => (x.f0, x.f1, x.f2))
def rd_T81 (xs : List S81) (i : Int) : S81 := xs.getD i.toNat z81

def rd_L16 (xs : List (List S81)) (i : Int) : (List S81) := xs.getD i.toNat ([] : List S81)

/-! #### struct type 80 -/
structure S80 where
  f0 : ByteArray
  f1 : (List Int)
  f2 : ByteArray
def z80 : S80 := ⟨(⟨#[]⟩ : ByteArray), ([] : List Int), (⟨#[]⟩ : ByteArray)⟩
def k80 : Kd S80 := Kd.iso (Kd.pair Kd.string (Kd.pair (Kd.slice 24 (Kd.int .u32)) Kd.string)) (fun x : S80 => (x.f0, x.f1, x.f2))
def rd_T80 (xs : List S80) (i : Int) : S80 := xs.getD i.toNat z80

/-! #### struct type 128 -/
structure S128 where
  f0 : Int
  f1 : Int
def z128 : S128 := ⟨(0 : Int), (0 : Int)⟩
def k128 : Kd S128 := Kd.iso (Kd.pair (Kd.int .u8) (Kd.int .u8)) (fun x : S128 => (x.f0, x.f1))
def rd_T128 (xs : List S128) (i : Int) : S128 := xs.getD i.toNat z128

/-! #### struct type 129 -/
structure S129 where
  f0 : Int
  f1 : Int
def z129 : S129 := ⟨(0 : Int), (0 : Int)⟩
def k129 : Kd S129 := Kd.iso (Kd.pair (Kd.int .u8) (Kd.int .u8)) (fun x : S129 => (x.f0, x.f1))
def rd_T129 (xs : List S129) (i : Int) : S129 := xs.getD i.toNat z129

end Go.Proofs.YtlhnaplmphdhlaaDoor.Q
end
section
namespace Go.Proofs.YtlhnaplmphdhlaaDoor.Q
open Go.RowKit Go.Proofs.YtlhnaplmphdhlaaDoorW.PrintWords Go.Proofs.YtlhnaplmphdhlaaDoorW.PrintLast Go.Proofs.YtlhnaplmphdhlaaDoorW.PrintMore
theorem Addr_add_zero (a : Addr) : a.add 0 = a := by
  cases a with | mk b o s => unfold Addr.add; split <;> simp_all
/-- Where a cut from 'lo' on begins. -/
def cutAt (A : Option Addr) (cap lo sz : Nat) : Option Addr := if cap = lo then A else A.map (·.add (lo * sz))
theorem cutAt_own {g cap lo sz : Nat} (h : lo < cap) : cutAt (some ⟨g, 0, none⟩) cap lo sz = some ⟨g, lo * sz, none⟩ := by
  unfold cutAt
  rw [if_neg (by omega)]
  simp [add_plain]
section
variable {P : Program} {t e : TypeId} {sz : Nat}
theorem run_size (hi : (P.info? e).map (·.size) = some sz) (W : World) : (sizeOf e).run P W = .ok sz W := by
  obtain ⟨i, h1, h2⟩ := Option.map_eq_some_iff.1 hi
  subst h2
  rw [run_sizeOf W h1]; simp [Program.cellsOf, h1]
end
theorem C_cut {α : Type} {d : Kd α} {w : World} {A : Option Addr} {n c : Nat} {xs : List α} (h : d.C w A n xs) (hc : n ≤ c) (lo m : Nat) (hm : lo + m ≤ n) : d.C w (cutAt A c lo d.sz) m ((xs.drop lo).take m) := by
  have hl : xs.length = n := h.1
  refine ⟨by simp [hl]; omega, by have := h.2.1; omega, fun hp => ?_⟩
  obtain ⟨ad, rfl, hcell⟩ := h.2.2 (by omega)
  refine ⟨ad.add (lo * d.sz), by unfold cutAt; rw [if_neg (by omega)]; rfl, fun j p hj => ?_⟩
  have hjm : j < m := by
    have := (List.getElem?_eq_some_iff.1 hj).1
    simp at this; omega
  have hj' : xs[lo + j]? = some p := by
    rw [List.getElem?_take, if_pos hjm, List.getElem?_drop] at hj
    exact hj
  obtain ⟨cs, h1, h2, h3⟩ := hcell (lo + j) p hj'
  refine ⟨cs, h1, h2, fun i u hu => ?_⟩
  have := h3 i u hu
  rw [show (lo + j) * d.sz + i = lo * d.sz + (j * d.sz + i) by rw [Nat.add_mul]; omega] at this
  rw [add_add]
  exact this
theorem reps_scalar {α : Type} {enc : α → Value} {R : α → List Value → Prop} (hR : ∀ x c, R x c → c = [enc x]) {xs : List α} {inner : List Value} (h : Reps R 1 xs inner) : inner = xs.map enc := by
  have hl : inner.length = xs.length := by have := h.1; omega
  apply List.ext_getElem
  · rw [hl, List.length_map]
  · intro i h1 h2
    have h3 : i < xs.length := by omega
    have := hR _ _ (h.2 i _ (List.getElem?_eq_getElem h3))
    have h4 : ((inner.drop (i * 1)).take 1)[0]? = some (enc xs[i]) := by rw [this]; rfl
    rw [List.getElem?_take, if_pos (by omega), List.getElem?_drop, Nat.mul_one, Nat.add_zero, List.getElem?_eq_getElem h1] at h4
    rw [List.getElem_map]
    exact Option.some.inj h4
theorem reps_scalar_mk {α : Type} {enc : α → Value} {R : α → List Value → Prop} (hR : ∀ x, R x [enc x]) (xs : List α) : Reps R 1 xs (xs.map enc) := by
  refine ⟨by simp, fun j p hj => ?_⟩
  obtain ⟨hjl, rfl⟩ := List.getElem?_eq_some_iff.1 hj
  have : ((xs.map enc).drop (j * 1)).take 1 = [enc xs[j]] := by
    rw [Nat.mul_one, List.drop_eq_getElem_cons (by simpa using hjl)]
    simp
  rw [this]
  exact hR _
/-! copy -/
section
variable {P : Program} {ops : Array Oper} {rest : List Oper} {o : Oper} {a : Act} {Q : Exit → Act → World → Prop}
end
/-! rows whose elements lead nowhere -/
section
variable {α : Type} {d : Kd α} {e base : Nat} {ok : Nat → Prop} {W w1 : World} {v : Value} {xs : List α}
end
end Go.Proofs.YtlhnaplmphdhlaaDoor.Q
end
section
namespace Go.Proofs.YtlhnaplmphdhlaaDoor.Q
open Go.RowKit Go.Proofs.YtlhnaplmphdhlaaDoorW.PrintWords Go.Proofs.YtlhnaplmphdhlaaDoorW.PrintLast Go.Proofs.YtlhnaplmphdhlaaDoorW.PrintMore
set_option linter.unusedVariables false
set_option linter.unusedSimpArgs false

attribute [local go_sem] max2_int min2_int max_two min_two max_three min_three max_four min_four
/-! ### prop_number: function 48 -/
def prop_number.f (l0 : List Int) : Option (Int) := if 0 < (l0.length : Int) then (if 1 < (l0.length : Int) then (if 2 < (l0.length : Int) then (if 3 < (l0.length : Int) then (some (Go.bits .or .u32 (Go.bits .or .u32 (Go.bits .or .u32 ((((rd l0 0) % 4294967296) * 16777216) % 4294967296) ((((rd l0 1) % 4294967296) * 65536) % 4294967296)) ((((rd l0 2) % 4294967296) * 256) % 4294967296)) ((rd l0 3) % 4294967296))) else (none)) else (none)) else (none)) else (none)
set_option maxHeartbeats 8000000 in
set_option maxRecDepth 100000 in
theorem prop_number.calls (A0 : Option Addr) (c0 : Nat) (l0 : List Int) (r : Int) (w : World) (hr0 : Kd.C (Kd.int .u8) w A0 l0.length l0) (hc0 : l0.length ≤ c0) (h : prop_number.f l0 = some r) :
    Calls Tryd.prog 48 #[.slice A0 l0.length c0] w fun e w' => e = .returned (.int .u32 r) ∧ Drawn0 w w' := by
  have HR0 := Aside0.mk hr0
  have HC0 := Aside0.mk hc0
  clear hr0 hc0
  have H : (if 0 < (l0.length : Int) then (if 1 < (l0.length : Int) then (if 2 < (l0.length : Int) then (if 3 < (l0.length : Int) then (some (Go.bits .or .u32 (Go.bits .or .u32 (Go.bits .or .u32 ((((rd l0 0) % 4294967296) * 16777216) % 4294967296) ((((rd l0 1) % 4294967296) * 65536) % 4294967296)) ((((rd l0 2) % 4294967296) * 256) % 4294967296)) ((rd l0 3) % 4294967296))) else (none)) else (none)) else (none)) else (none)) = some r := h
  clear h
  by_cases c2 : 0 < (l0.length : Int)
  · rw [if_pos c2] at H
    have c2b0 : decide (0 < (l0.length : Int)) = true := decide_eq_true c2
    have c2b1 : decide (0 < l0.length) = true := decide_eq_true (by omega)
    clear c2
    by_cases c3 : 1 < (l0.length : Int)
    · rw [if_pos c3] at H
      have c3b0 : decide (1 < (l0.length : Int)) = true := decide_eq_true c3
      have c3b1 : decide (1 < l0.length) = true := decide_eq_true (by omega)
      clear c3
      by_cases c4 : 2 < (l0.length : Int)
      · rw [if_pos c4] at H
        have c4b0 : decide (2 < (l0.length : Int)) = true := decide_eq_true c4
        have c4b1 : decide (2 < l0.length) = true := decide_eq_true (by omega)
        clear c4
        by_cases c5 : 3 < (l0.length : Int)
        · rw [if_pos c5] at H
          have c5b0 : decide (3 < (l0.length : Int)) = true := decide_eq_true c5
          have c5b1 : decide (3 < l0.length) = true := decide_eq_true (by omega)
          clear c5
          obtain rfl := Option.some.inj H
          have p49001 : 0 ≤ (0 : Int) := (by omega)
          have q49001 : 0 < (l0.length : Int) := of_decide_eq_true (by first | (with_reducible assumption) | assumption)
          obtain ⟨ad49001, e49001, hx49001_0⟩ := Kd.at_int HR0.out 0 p49001 q49001
          cases e49001
          have qi49001 : (0 < l0.length) = True := eq_true (by omega)
          (try rw [show ((0 : Int)).toNat = 0 from rfl] at hx49001_0)
          (try rw [Addr.add_zero'] at hx49001_0)
          replace p49001 := eq_true p49001
          replace q49001 := eq_true q49001
          have p49002 : 0 ≤ (1 : Int) := (by omega)
          have q49002 : 1 < (l0.length : Int) := of_decide_eq_true (by first | (with_reducible assumption) | assumption)
          obtain ⟨ad49002, e49002, hx49002_0⟩ := Kd.at_int HR0.out 1 p49002 q49002
          obtain rfl : ad49001 = ad49002 := (by injection e49002)
          (try simp only [show (1 : Int).toNat = 1 from rfl, Nat.reduceMul, Nat.reduceEqDiff, Go.Addr.add, ↓reduceIte] at hx49002_0)
          have qi49002 : (1 < l0.length) = True := eq_true (by omega)
          (try rw [show ((1 : Int)).toNat = 1 from rfl] at hx49002_0)
          replace p49002 := eq_true p49002
          replace q49002 := eq_true q49002
          have p49003 : 0 ≤ (2 : Int) := (by omega)
          have q49003 : 2 < (l0.length : Int) := of_decide_eq_true (by first | (with_reducible assumption) | assumption)
          obtain ⟨ad49003, e49003, hx49003_0⟩ := Kd.at_int HR0.out 2 p49003 q49003
          obtain rfl : ad49001 = ad49003 := (by injection e49003)
          (try simp only [show (2 : Int).toNat = 2 from rfl, Nat.reduceMul, Nat.reduceEqDiff, Go.Addr.add, ↓reduceIte] at hx49003_0)
          have qi49003 : (2 < l0.length) = True := eq_true (by omega)
          (try rw [show ((2 : Int)).toNat = 2 from rfl] at hx49003_0)
          replace p49003 := eq_true p49003
          replace q49003 := eq_true q49003
          have p49004 : 0 ≤ (3 : Int) := (by omega)
          have q49004 : 3 < (l0.length : Int) := of_decide_eq_true (by first | (with_reducible assumption) | assumption)
          obtain ⟨ad49004, e49004, hx49004_0⟩ := Kd.at_int HR0.out 3 p49004 q49004
          obtain rfl : ad49001 = ad49004 := (by injection e49004)
          (try simp only [show (3 : Int).toNat = 3 from rfl, Nat.reduceMul, Nat.reduceEqDiff, Go.Addr.add, ↓reduceIte] at hx49004_0)
          have qi49004 : (3 < l0.length) = True := eq_true (by omega)
          (try rw [show ((3 : Int)).toNat = 3 from rfl] at hx49004_0)
          replace p49004 := eq_true p49004
          replace q49004 := eq_true q49004
          go_enter Tryd.func48, Tryd.ntmps48
          go_wp2
          repeat (go_quiet (fail); try go_wp2)
          go_ret
          exact ⟨by first | rfl | (simp; done) | (simp [*]; done), by repeat (first | exact Drawn0.refl _ | apply Drawn0.step)⟩
        · rw [if_neg c5] at H
          exact absurd H (by simp)
      · rw [if_neg c4] at H
        exact absurd H (by simp)
    · rw [if_neg c3] at H
      exact absurd H (by simp)
  · rw [if_neg c2] at H
    exact absurd H (by simp)

end Go.Proofs.YtlhnaplmphdhlaaDoor.Q
end
section
namespace Go.Proofs.YtlhnaplmphdhlaaDoor.Q
open Go.RowKit Go.Shelf Go.Proofs.YtlhnaplmphdhlaaDoorW.PrintWords Go.Proofs.YtlhnaplmphdhlaaDoorW.PrintLast
attribute [local go_sem] Oper.semAt_some
/-- What the iterator asks of a round: its own two boxes stay. -/
def KpC (Bs Bn : Nat) (W W' : World) : Prop := W.heap.size ≤ W'.heap.size ∧ ∀ i, i = Bs ∨ i = Bn → i < W.heap.size → W'.heap[i]? = W.heap[i]?
theorem KpC.trans {Bs Bn : Nat} {A B C : World} (h : KpC Bs Bn A B) (k : KpC Bs Bn B C) : KpC Bs Bn A C :=
  ⟨Nat.le_trans h.1 k.1, fun i hi hl => (k.2 i hi (Nat.lt_of_lt_of_le hl h.1)).trans (h.2 i hi hl)⟩
theorem KpC.heap {Bs Bn : Nat} {A B : World} (h : KpC Bs Bn A B) {i : Nat} (hi : i = Bs ∨ i = Bn) {o : Obj} (ho : A.heap[i]? = some o) : B.heap[i]? = some o := (h.2 i hi (Array.getElem?_eq_some_iff.1 ho).1).trans ho
/-- The k-th piece. -/
def piece (ad : Addr) (k : Nat) : Value := .slice (some (ad.add (4 * k))) 4 4
set_option maxRecDepth 100000 in
set_option maxHeartbeats 2000000 in
theorem chunk1_in (n : Nat) (hn : 1 ≤ n) (l Bs Bn : Nat) (A : Option Addr) (ad : Addr) (m cap : Nat) (hA : 0 < m → A = some ad) (hreach : 4 * m ≤ 140737488351232) (hcap : 4 * m ≤ cap) (B : Nat) (J Jx : List Nat → World → Prop) (hJ : AbidesFrom B J)
    (hY : ∀ pre x W, J pre W → pre.length < m → YieldAt Fence.wide (n - 1) Tryd.prog l #[piece ad (x % m)] W fun e W' =>
      (e = .returned (.bool true) ∧ J (pre ++ [x]) W' ∧ KpC Bs Bn W W') ∨ (e = .returned (.bool false) ∧ Jx (pre ++ [x]) W'))
    (W : World) (hBs : W.heap[Bs]? = some (.cells #[.slice A (4 * m) cap] 25 (0, 0))) (hBn : W.heap[Bn]? = some (.cells #[.int .i64 4] 3 (0, 0))) (h0 : J [] W) :
    CallsIn Fence.wide n Tryd.prog 69 #[.func (.yield l) #[] #[], .pointer (some ⟨Bs, 0, none⟩), .pointer (some ⟨Bn, 0, none⟩)] W fun e W' => (∃ v, e = .returned v) ∧
      ((∃ ys, ys = List.range m ∧ J ys W') ∨ (∃ pre, (∃ k, k ≤ m ∧ pre = List.range k) ∧ Jx pre W')) := by
  refine callsIn_of_wp Tryd.func69 rfl trivial ?_ rfl
  simp only [Tryd.ntmps69, List.size_toArray, List.length_cons, List.length_nil, Nat.reduceAdd, Nat.reduceSub, Array.replicate_succ, Array.replicate_zero, List.push_toArray, List.append_toArray, List.nil_append, List.cons_append]
  gi_wp2
  gi_loopw [4] (fun i wr => ∃ k : Nat, k ≤ m ∧ i = .int .i64 ((4 * k : Nat) : Int) ∧ J (List.range k) wr ∧ wr.heap[Bs]? = some (.cells #[.slice A (4 * m) cap] 25 (0, 0)) ∧ wr.heap[Bn]? = some (.cells #[.int .i64 4] 3 (0, 0)))
    (fun i _ => 4 * m - (intOf i).toNat)
  case atStart => exact ⟨0, Nat.zero_le _, rfl, h0, hBs, hBn⟩
  case round =>
    obtain ⟨k, hk, rfl, hJs, hs, hnn⟩ := hrel
    have hcs := (blk_cell hs 0).trans rfl
    have hcn := (blk_cell hnn 0).trans rfl
    by_cases hlt : k < m
    · obtain rfl := hA (by omega)
      have d1 : decide (((4 * k : Nat) : Int) < ((4 * m : Nat) : Int)) = true := decide_eq_true (by omega)
      have w1 : wrap64 ((4 * k : Nat) : Int) = ((4 * k : Nat) : Int) := by unfold wrap64; omega
      gi_wp2
      gi_quiet (fail)
      have hJq : J (List.range k) (wr.drewN nq) := hJ _ _ _ none hJs (grown_of_below (pw_below_drewN (Below.refl _ _) nq) none) (fun r e => by cases e)
      have hsq : (wr.drewN nq).heap[Bs]? = some (.cells #[.slice (some ad) (4 * m) cap] 25 (0, 0)) := hs
      have hnq : (wr.drewN nq).heap[Bn]? = some (.cells #[.int .i64 4] 3 (0, 0)) := hnn
      clear hcs hcn hs hnn hJs
      obtain ⟨wq, hwq⟩ : ∃ wq, wq = wr.drewN nq := ⟨_, rfl⟩
      rw [← hwq] at hJq hsq hnq ⊢
      clear hwq
      have hcs := (blk_cell hsq 0).trans rfl
      have hcn := (blk_cell hnq 0).trans rfl
      obtain ⟨fn, tmps, assign, body, hy, hR⟩ := hY _ k wq hJq (by rw [List.length_range]; exact hlt)
      rw [Nat.mod_eq_of_lt hlt] at hy
      simp only [piece] at hy
      gi_wp2
      refine hR.mono ?_
      rintro e W3 (⟨rfl, hJ3, hk3⟩ | ⟨rfl, hJx3⟩)
      · have hs3 := hk3.heap (.inl rfl) hsq
        have hn3 := hk3.heap (.inr rfl) hnq
        have hcs3 := (blk_cell hs3 0).trans rfl
        have hcn3 := (blk_cell hn3 0).trans rfl
        have w2 : wrap64 (((4 * k : Nat) : Int) + 4) = ((4 * (k + 1) : Nat) : Int) := by unfold wrap64; omega
        clear hcs hcn
        gi_wp2
        go_roundw
        case rel => exact ⟨k + 1, by omega, rfl, by rw [List.range_succ]; exact hJ3, hs3, hn3⟩
        case measure => simp [intOf]; omega
      · gi_wp2
        refine bodyPost_ret (results_none rfl _ _ _) rfl ?_
        exact ⟨⟨_, rfl⟩, .inr ⟨_, ⟨k + 1, by omega, List.range_succ.symm⟩, hJx3⟩⟩
    · obtain rfl : k = m := by omega
      have d1 : decide (((4 * k : Nat) : Int) < ((4 * k : Nat) : Int)) = false := decide_eq_false (by omega)
      gi_wp2
      go_end0
      exact ⟨⟨_, rfl⟩, .inl ⟨_, rfl, hJs⟩⟩
theorem chunk_stops (n : Nat) (hn : 1 ≤ n) (Bs Bn : Nat) (A : Option Addr) (ad : Addr) (m cap : Nat) (hA : 0 < m → A = some ad) (hreach : 4 * m ≤ 140737488351232) (hcap : 4 * m ≤ cap) (w : World)
    (hBs : w.heap[Bs]? = some (.cells #[.slice A (4 * m) cap] 25 (0, 0))) (hBn : w.heap[Bn]? = some (.cells #[.int .i64 4] 3 (0, 0))) :
    SeqStopsK Fence.wide n Tryd.prog 69 #[.pointer (some ⟨Bs, 0, none⟩), .pointer (some ⟨Bn, 0, none⟩)] (fun k : Nat => #[piece ad (k % m)]) (KpC Bs Bn) (fun ys => ys = List.range m) (fun pre => ∃ k, k ≤ m ∧ pre = List.range k) m w := fun l J Jx W hW hJ _ hY h0 =>
  chunk1_in n hn l Bs Bn A ad m cap hA hreach hcap _ J Jx hJ hY W (blk_below hBs hW) (blk_below hBn hW) h0
set_option maxHeartbeats 1000000 in
theorem chunk_in (n : Nat) (A : Option Addr) (len cap : Nat) (w : World) :
    CallsIn Fence.wide n Tryd.prog 47 #[.slice A len cap, .int .i64 4] w fun e w' => e = .returned (.func (.func 69) #[] #[.pointer (some ⟨w.heap.size, 0, none⟩), .pointer (some ⟨w.heap.size + 1, 0, none⟩)]) ∧ w' = (w.alloc (.cells #[.slice A len cap] 25)).alloc (.cells #[.int .i64 4] 3) := by
  refine callsIn_of_wp Tryd.func47 rfl trivial ?_ rfl
  simp only [Tryd.ntmps47, List.size_toArray, List.length_cons, List.length_nil, Nat.reduceAdd, Nat.reduceSub, Array.replicate_succ, Array.replicate_zero, List.push_toArray, List.append_toArray, List.nil_append, List.cons_append]
  gi_wp2
  go_ret
  exact ⟨by simp, rfl⟩
end Go.Proofs.YtlhnaplmphdhlaaDoor.Q
end
section
namespace Go.Proofs.YtlhnaplmphdhlaaDoor.Q
open Go.RowKit Go.Proofs.YtlhnaplmphdhlaaDoorW.PrintWords Go.Proofs.YtlhnaplmphdhlaaDoorW.PrintLast
section
variable {P : Program} {ops : Array Oper} {Q : Exit → Act → World → Prop} {md : Region.Mode} {n lr : Nat}
theorem rowsIn_wide {row : String} {args : Array Value} {w : World} {R : Value → World → Prop} (h : Rows P row args w R) : RowsIn (Fence.wide.inRound lr) n P row args w R :=
  fun c cs _ => let ⟨v, w', r, s⟩ := h c cs; ⟨v, w', r, stepsIn_wide.2 s⟩
theorem oper_in {o : Oper} {a : Act} {w : World} {K : Act → World → Prop} (hnd : ∀ c, o.op ≠ .defer c) (h : o.wp P a w K Q) : o.wpIn (Fence.wide.inRound lr) n P a w K Q := by
  refine ⟨fun _ _ => trivial, ?_⟩
  rw [Oper.semAt_plain _ _ _ hnd]
  unfold Oper.wp at h
  generalize (execOp a.eval o).run P w = r at h ⊢
  cases r with
  | ok x w' =>
    cases x with
    | value v => exact h
    | skip => exact h
    | defer d => exact h
    | enter f args => exact ⟨(fun hd => by cases hd), CallsIn.inRound lr (callsIn_wide.2 h)⟩
    | row row args => exact ⟨(fun hd => by cases hd), rowsIn_wide h⟩
    | _ => exact h.elim
  | halt x w' =>
    cases x with
    | panic v => exact h
    | _ => exact h.elim
theorem op_in {i : Nat} {a : Act} {w : World} {K : Act → World → Prop} (hnd : ∀ (i : Nat) (o : Oper), ops[i]? = some o → ∀ c, o.op ≠ .defer c) (hlo : ¬ LetsOut Q) (h : wpOp P ops Q i K a w) : wpOpIn (Fence.wide.inRound lr) n P ops Q i K a w := by
  unfold wpOp at h
  unfold wpOpIn
  cases ho : ops[i]? with
  | none => rw [ho] at h; exact h
  | some o =>
    rw [ho] at h
    dsimp only at h ⊢
    split
    · rename_i hw
      rw [if_pos hw] at h
      rcases h with h | ⟨_, h⟩
      · exact oper_in (hnd i o ho) h
      · exact absurd h hlo
    · rename_i hw
      rw [if_neg hw] at h
      exact ⟨fun _ _ => trivial, h⟩
theorem any_in (hnd : ∀ (i : Nat) (o : Oper), ops[i]? = some o → ∀ c, o.op ≠ .defer c) (hlo : ¬ LetsOut Q) : ∀ (fuel : Nat) (listed : Array Bool) (a : Act) (w : World), wpAny P md ops Q fuel listed a w → wpAnyIn (Fence.wide.inRound lr) n P md ops Q fuel listed a w
  | 0, _, _, _, h => h
  | fuel + 1, _, _, _, h => ⟨h.1, fun i hi => wpOpIn_mono (fun a w h => any_in hnd hlo fuel _ a w h) (op_in hnd hlo (h.2 i hi))⟩
def noDefer (o : Oper) : Bool := match o.op with | .defer _ => false | _ => true
theorem noDefer_spec (h : ops.all noDefer = true) : ∀ (i : Nat) (o : Oper), ops[i]? = some o → ∀ c, o.op ≠ .defer c := fun i o ho c hc => by
  have := Array.all_eq_true_iff_forall_mem.1 h o (Array.mem_of_getElem? ho)
  unfold noDefer at this
  rw [hc] at this
  cases this
theorem start_in {S : World → Prop} {ds : List Nat} {id m : Nat} {a : Act} {w : World} (l : Array Bool) (hm : P.follows .mixedOrders = true) (hn : ops.size = m) (hl : Array.replicate m false = l) (hS : S w.drew) (hnd : ops.all noDefer = true) (hlo : ¬ LetsOut Q)
    (h : S w.drew → wpAnyLast P .any ops Q S ds m l a w.drew) : (Code.region id ops true).wpIn (Fence.wide.inRound lr) n P Q a w := by
  subst hn
  subst hl
  exact wpIn_region_any hm (any_in (noDefer_spec hnd) hlo _ _ _ _ (wpAny_of_last _ _ _ _ (h hS)))
end
end Go.Proofs.YtlhnaplmphdhlaaDoor.Q
end
section
namespace Go.Proofs.YtlhnaplmphdhlaaDoor.Q
open Go.RowKit Go.Shelf Go.Proofs.YtlhnaplmphdhlaaDoorW.PrintWords Go.Proofs.YtlhnaplmphdhlaaDoorW.PrintLast
attribute [local go_sem] Oper.semAt_some
def nv_numF (l : List Int) : Int := Go.bits .or .u32 (Go.bits .or .u32 (Go.bits .or .u32 ((((rd l 0) % 4294967296) * 16777216) % 4294967296) ((((rd l 1) % 4294967296) * 65536) % 4294967296)) ((((rd l 2) % 4294967296) * 256) % 4294967296)) ((rd l 3) % 4294967296)
theorem number_eq (l : List Int) (h : l.length = 4) : prop_number.f l = some (nv_numF l) := by
  unfold prop_number.f
  rw [if_pos (by omega), if_pos (by omega), if_pos (by omega), if_pos (by omega)]
  rfl
def fourAt (l : List Int) (k : Nat) : List Int := (l.drop (4 * k)).take 4
def numsF (l : List Int) (m : Nat) (ks : List Nat) : List Int := ks.map fun k => nv_numF (fourAt l (k % m))
theorem numsF_snoc (l : List Int) (m : Nat) (ks : List Nat) (k : Nat) : numsF l m (ks ++ [k]) = numsF l m ks ++ [nv_numF (fourAt l (k % m))] := by simp [numsF]
theorem numsF_len (l : List Int) (m : Nat) (ks : List Nat) : (numsF l m ks).length = ks.length := by simp [numsF]
theorem info24k : (Tryd.prog.info? 24).map (fun i => (i.zero, i.size, i.bytes)) = some (some (.int .u32 0), 1, 4) := by kernel_rfl
theorem piece_C {w : World} {ad : Addr} {n c : Nat} {l : List Int} (h : Kd.C (Kd.int .u8) w (some ad) n l) (hc : n ≤ c) (k : Nat) (hk : 4 * k + 4 ≤ n) (hlt : 4 * k < c) : Kd.C (Kd.int .u8) w (some (ad.add (4 * k))) 4 (fourAt l k) := by
  have h2 := C_cut h hc (4 * k) 4 hk
  unfold cutAt at h2
  rw [if_neg (by omega)] at h2
  have e : 4 * k * (Kd.int .u8).sz = 4 * k := Nat.mul_one _
  rw [e] at h2
  exact h2
theorem event_stepN {P : Program} {ops : Array Oper} {o : Oper} {a : Act} {Q : Exit → Act → World → Prop} {Kc : Act → World → Prop} {N : Option Tmp} {W w1 : World} {v : Value} (hw : Region.wanted o (yielded ops a.tmps) = true) (hN : o.dst = N) (hrun : (execOp a.eval o).run P W = .ok (.value v) w1) (h : Kc (a.put N v) w1) :
    if Region.wanted o (yielded ops a.tmps) = true then Oper.wp P o a W Kc Q else Kc (a.put N undef) W := by
  subst hN
  exact event_step hw hrun h
theorem skip_stepN {P : Program} {ops : Array Oper} {o : Oper} {a : Act} {Q : Exit → Act → World → Prop} {Kc : Act → World → Prop} {N : Option Tmp} {W w1 : World} (hw : Region.wanted o (yielded ops a.tmps) = true) (hN : o.dst = N) (hrun : (execOp a.eval o).run P W = .ok .skip w1) (h : Kc (a.put N undef) w1) :
    if Region.wanted o (yielded ops a.tmps) = true then Oper.wp P o a W Kc Q else Kc (a.put N undef) W := by
  subst hN
  rw [if_pos hw]
  unfold Oper.wp
  rw [hrun]
  exact h
set_option maxRecDepth 100000 in
set_option maxHeartbeats 2000000 in
theorem ints_calls (A : Option Addr) (c m : Nat) (l : List Int) (w : World) (hl : l.length = 4 * m) (hr : Kd.C (Kd.int .u8) w A l.length l) (hc : l.length ≤ c) (hm : m ≤ 1000000) :
    Calls Tryd.prog 24 #[.slice A l.length c] w fun e W' => ∃ v, e = .returned (.tuple #[v, .int .i64 0]) ∧ W'.ownsRow w.heap.size 24 1 v m ((numsF l m (List.range m)).map (Value.int .u32)) ∧ Below w.heap.size w W' := by
  refine (callsIn_wide (n := 5)).1 ?_
  obtain ⟨i0, hi, hz0, hz1, hz2⟩ := info_parts info24k
  obtain ⟨ad, hA⟩ : ∃ ad, 0 < m → A = some ad := by
    cases m with
    | zero => exact ⟨⟨0, 0, none⟩, fun h => by omega⟩
    | succ m =>
      obtain ⟨ad, h, _⟩ := hr.2.2 (by omega)
      exact ⟨ad, fun _ => h⟩
  have d0 : ((l.length : Int) % 4 != 0) = false := by rw [hl]; simp
  have HL := Aside0.mk hl
  clear hl
  refine callsIn_of_wp_marks Tryd.func24 rfl trivial ?_ rfl
  simp only [Tryd.ntmps24, List.size_toArray, List.length_cons, List.length_nil, Nat.reduceAdd, Nat.reduceSub, Array.replicate_succ, Array.replicate_zero, List.push_toArray, List.append_toArray, List.nil_append, List.cons_append]
  gi_wp2_with (refine ⟨trivial, ?_⟩; gi_at_call 47; refine (chunk_in _ _ _ _ _).mono ?_; rintro e w' ⟨rfl, rfl⟩)
  have hl := HL.out
  have bO := Boxed.new w 36 (.slice none 0 0)
  obtain ⟨W0, hW0⟩ : ∃ W0, W0 = ((w.alloc (.cells #[.slice none 0 0] 36)).alloc (.cells #[.slice A l.length c] 25)).alloc (.cells #[.int .i64 4] 3) := ⟨_, rfl⟩
  have hbs : Boxed W0 (w.heap.size + 1) 25 (.slice A l.length c) := by
    rw [hW0]
    have h := (Boxed.new (w.alloc (.cells #[.slice none 0 0] 36)) 25 (.slice A l.length c)).alloc (.cells #[.int .i64 4] 3)
    rw [World.size_alloc] at h
    exact h
  have hbn : Boxed W0 (w.heap.size + 1 + 1) 3 (.int .i64 4) := by
    rw [hW0]
    have h := Boxed.new ((w.alloc (.cells #[.slice none 0 0] 36)).alloc (.cells #[.slice A l.length c] 25)) 3 (.int .i64 4)
    rw [World.size_alloc, World.size_alloc] at h
    exact h
  have hbo : Boxed W0 w.heap.size 36 (.slice none 0 0) := by rw [hW0]; exact (bO.alloc _).alloc _
  have hB0 : Below w.heap.size w W0 := by rw [hW0]; exact below_alloc (below_alloc (below_alloc (Below.refl _ _) _) _) _
  have hs0 : W0.heap.size = w.heap.size + 3 := by rw [hW0]; simp
  rw [← hW0]
  clear hW0
  refine wpIn_rangeFunc_ownF rfl (by omega) (gf := 69) (lb := #[.pointer (some ⟨w.heap.size + 1, 0, none⟩), .pointer (some ⟨w.heap.size + 1 + 1, 0, none⟩)]) rfl trivial (enters_of Tryd.func69 (by kernel_rfl) rfl)
    (chunk_stops 4 (by omega) (w.heap.size + 1) (w.heap.size + 1 + 1) A ad m c hA (by omega) (by omega) W0 (by rw [← hl]; exact hbs) hbn) (fun h k => h.trans k)
    (fun W i o o' hi ho _ _ => ⟨by simp, fun j hj hlt => World.putObj_heap_other (by rcases hj with rfl | rfl <;> omega)⟩) (Below.refl _ _) (fun _ => rfl)
    (fun pre W => (∃ v, Boxed W w.heap.size 36 v ∧ W.ownsRow w.heap.size 24 1 v pre.length ((numsF l m pre).map (Value.int .u32)) ∧ True) ∧ (Boxed W (w.heap.size + 1) 25 (.slice A l.length c) ∧ Boxed W (w.heap.size + 1 + 1) 3 (.int .i64 4)) ∧ Below w.heap.size w W)
    (fun _ _ _ => False)
    (OwnFrom.and (Own.from (holdsRow_own w.heap.size w.heap.size 36 24 1 (fun pre => pre.length) (fun pre => (numsF l m pre).map (Value.int .u32)) (fun _ _ => True)) _) (OwnFrom.and (OwnFrom.and (Own.from (boxed_own _ _ _) _) (Own.from (boxed_own _ _ _) _)) (ownFrom_below (Nat.le_refl _) (by omega))))
    (fun _ _ _ _ _ hs _ _ => hs)
    ⟨⟨_, hbo, World.ownsRow_nil _ _ _ _, trivial⟩, ⟨hbs, hbn⟩, hB0⟩
    (fun k => { tmps := #[.slice A l.length c, undef, .slice none 0 0, .int .i64 0, .pointer (some ⟨w.heap.size, 0, none⟩), piece ad (k % m), .slice A l.length c, .int .i64 l.length, .int .i64 ((l.length : Int) % 4), .bool false, .slice A l.length c, .func (.func 69) #[] #[.pointer (some ⟨w.heap.size + 1, 0, none⟩), .pointer (some ⟨w.heap.size + 1 + 1, 0, none⟩)], piece ad (k % m), undef, undef, undef, undef, undef, undef], defers := [] }) ?assign ?body ?done ?stop
  case assign =>
    intro l' x W K hK
    clear hl
    gi_wp2
    exact hK
  case body =>
    rintro l' pre k W ⟨⟨v, hv, hrow, _⟩, ⟨hb1, hb2⟩, hB⟩ hlt
    obtain rfl := hA (by omega)
    have hkm : k % m < m := Nat.mod_lt _ (by omega)
    have HNum := Aside0.mk (show ∀ X : World, Below w.heap.size w X → Calls Tryd.prog 48 #[piece ad (k % m)] X (fun e w' => e = .returned (.int .u32 (nv_numF (fourAt l (k % m)))) ∧ Drawn0 X w') from fun X hX => by
      have hC := piece_C (Kd.C_below hr hX) hc (k % m) (by omega) (by omega)
      have h4 : (fourAt l (k % m)).length = 4 := by unfold fourAt; rw [List.length_take, List.length_drop]; omega
      unfold piece
      have h := prop_number.calls (some (ad.add (4 * (k % m)))) 4 (fourAt l (k % m)) (nv_numF (fourAt l (k % m))) X (by rw [h4]; exact hC) (by omega) (number_eq _ h4)
      rw [h4] at h
      exact h)
    clear hl hs0
    have hcv := hv.cell
    gi_wp2
    refine start_in (m := 6) (S := fun w' => w'.cell? ⟨w.heap.size, 0, none⟩ = some v) (ds := [4, 5]) #[false, false, false, false, false, false] (by kernel_rfl) rfl rfl hcv (by kernel_rfl) (fun ⟨_, _, h⟩ => h) (fun hHeld => ?_)
    refine take_ (i := 0) (N := some 13) (v := v) (a' := ?_) #[true, false, false, false, false, false] rfl rfl (by kernel_rfl) (fun _ _ _ h => h) (Or.inl ⟨by rfl, ?_⟩) hHeld ?_ ?_
    rotate_left
    rotate_left
    · simp only [Act.put, List.setIfInBounds_toArray, List.set_cons_zero, List.set_cons_succ]
      rfl
    rotate_left
    · rintro w' s0
      go_simp
    refine pure_ (i := 1) (N := some 14) (v := ?_) (a' := ?_) #[true, true, false, false, false, false] rfl rfl (by kernel_rfl) (fun _ _ _ h => h) (Or.inl ⟨by rfl, ?_⟩) ?_ ?_
    rotate_left
    · intro w'
      go_simp
      with_reducible rfl
    rotate_left
    · simp only [Act.put, List.setIfInBounds_toArray, List.set_cons_zero, List.set_cons_succ]
      rfl
    refine one_ (i := 2) (N := some 15) #[true, true, true, false, false, false] rfl rfl (by kernel_rfl) (by decide) (fun K hK => ?_)
    refine goes_ Tryd.func48 (by kernel_rfl) rfl #[piece ad (k % m)] (by rfl) rfl rfl (by first | rfl | (simp only [List.map_toArray, List.map_cons, List.map_nil]; rfl)) ?_
    refine (HNum.out _ (below_drew hB)).mono ?_
    rintro e w2 ⟨rfl, hd⟩
    obtain ⟨⟨nn, rfl⟩⟩ := hd
    refine ⟨_, rfl, hK.out _ _ hcv (fun hHeld => ?_)⟩
    clear hK K
    simp only [Act.put, List.setIfInBounds_toArray, List.set_cons_zero, List.set_cons_succ]
    obtain ⟨X, hX⟩ : ∃ X, X = W.drew.drewN nn := ⟨_, rfl⟩
    have hvX : Boxed X w.heap.size 36 v := by rw [hX]; exact hv
    have hb1X : Boxed X (w.heap.size + 1) 25 (.slice (some ad) l.length c) := by rw [hX]; exact hb1
    have hb2X : Boxed X (w.heap.size + 1 + 1) 3 (.int .i64 4) := by rw [hX]; exact hb2
    have hrowX : X.ownsRow w.heap.size 24 1 v pre.length ((numsF l m pre).map (Value.int .u32)) := by rw [hX]; exact hrow
    have hBX : Below w.heap.size w X := by rw [hX]; exact pw_below_drewN (below_drew hB) nn
    have hKX : KeepsOthers W X := by rw [hX]; exact ⟨Nat.le_refl _, fun _ _ h _ => h⟩
    have hCX : KpC (w.heap.size + 1) (w.heap.size + 1 + 1) W X := by rw [hX]; exact ⟨Nat.le_refl _, fun _ _ _ => rfl⟩
    rw [← hX] at hHeld ⊢
    clear hX
    refine one_ (i := 3) (N := some 16) #[true, true, true, true, false, false] rfl rfl (by kernel_rfl) (by decide) (fun K hK => ?_)
    refine event_stepN (by rfl) rfl (v := .slice (some ⟨X.heap.size, 0, none⟩) 1 1) (w1 := X.alloc (.cells #[.int .u32 (nv_numF (fourAt l (k % m)))] 24)) (by first | (go_simp; done) | (go_simp; rfl)) (hK.out _ _ (hvX.alloc _).cell (fun hHeld => ?_))
    clear hK K
    simp only [Act.put, List.setIfInBounds_toArray, List.set_cons_zero, List.set_cons_succ]
    refine last_ (i := 4) (N := some 17) #[true, true, true, true, true, false] rfl rfl (by kernel_rfl) (by decide) (fun K hK => ?_)
    have HRX : Kd.R (Kd.int .u32) 24 X w.heap.size (fun _ => True) v (numsF l m pre) := Kd.R_of_own (by rw [numsF_len]; exact hrowX) (fun _ _ => trivial)
    refine Kd.R_append_step (Kd.int .u32) (w0 := w) w.heap.size (by rfl) (.tmp 13) (.tmp 16) 36 24 (.int .u32 0) 4 rfl Tryd.underlying36 info24k rfl (by decide) (by decide) v (numsF l m pre) (nv_numF (fourAt l (k % m))) [.int .u32 (nv_numF (fourAt l (k % m)))] (fun _ => True) (fun _ => False) rfl rfl rfl (fun _ h => h.elim) (fun _ _ => trivial) HRX hBX hBX.size (by rw [numsF_len]; omega) ?_
    intro v1 w1 ho hb hg hat
    refine hK.out _ _ ?_
    clear hK K
    simp only [Act.put, List.getElem_toArray, List.getElem_cons_succ, List.getElem_cons_zero, List.setIfInBounds_toArray, List.set_cons_zero, List.set_cons_succ]
    have hv1 : Boxed w1 w.heap.size 36 v := hvX.kept hg (hvX.not_row (by decide) hrowX)
    have hbs1 := hb1X.kept hg (hb1X.not_row (by decide) hrowX)
    have hbn1 := hb2X.kept hg (hb2X.not_row (by decide) hrowX)
    have hown1 := Kd.own_of_R ho
    have hne := hv1.not_row (by decide) hown1
    have hc1 := hv1.cell
    have hf1 := hv1.frozen
    refine last_ (i := 5) (N := none) #[true, true, true, true, true, true] rfl rfl (by kernel_rfl) (by decide) (fun K hK => ?_)
    refine skip_stepN (by rfl) rfl (w1 := w1.setCell ⟨w.heap.size, 0, none⟩ v1) ?_ (hK.out _ _ ?_)
    · obtain ⟨Av, cv, rfl⟩ := Kd.R_slice ho
      first | (go_simp; done) | (go_simp; rfl)
    clear hK K
    refine done_ (n := 0) (by kernel_rfl) ?_
    have hk2 : KeepsOthers W (w1.setCell ⟨w.heap.size, 0, none⟩ v1) := by
      refine (hKX.trans ?_).trans (KeepsOthers.setCell _ _ _)
      exact KeepsOthers.of_grownBy hg (fun j o hj hjo => by obtain ⟨cc, hcc⟩ := own_typed hrowX j hj; rw [hcc] at hjo; cases hjo; rfl)
    refine ⟨hk2, ⟨hk2.size, fun i hi _ => ?_⟩, ⟨v1, hv1.set v1, ?_, trivial⟩, ⟨hbs1.other (by omega) v1, hbn1.other (by omega) v1⟩, below_set hb (Nat.le_refl _)⟩
    · rcases hi with rfl | rfl
      · exact (show _ = _ from hbs1.other (by omega) v1).trans (show _ = _ from hb1).symm
      · exact (show _ = _ from hbn1.other (by omega) v1).trans (show _ = _ from hb2).symm
    · have h := hown1.kept (grownBy_setCell' w1 w.heap.size v1) (.inr hne.symm)
      rw [numsF_snoc, List.map_append, List.length_append]
      rw [List.length_append, numsF_len] at h
      simpa [encs] using h
  case done =>
    rintro D ys W hD rfl ⟨⟨v, hv, hrow, _⟩, _, hB⟩ hK
    have hc := hv.cell
    gi_wp2
    refine ⟨by simp, .inl ⟨_, _, rfl, run_takeDeferred hK, ?_⟩⟩
    have hrow2 := ownsRow_putObj hrow (.deferred none) hK rfl
    rw [List.length_range] at hrow2
    exact ⟨_, results_tmp2 rfl _ _ _, v, rfl, hrow2, hB.trans (belowK_b (w := w) (Nat.le_refl _) W D _ _ (by omega) hK rfl rfl)⟩
  case stop =>
    rintro D c pre W _ _ h _
    exact h.elim
theorem numsF_range (l : List Int) (m : Nat) : numsF l m (List.range m) = (List.range m).map fun k => nv_numF (fourAt l k) := by
  unfold numsF
  apply List.map_congr_left
  intro k hk
  rw [Nat.mod_eq_of_lt (List.mem_range.1 hk)]
/-- All numbers of bytes. -/
def allNums (l : List Int) : List Int := (List.range (l.length / 4)).map fun k => nv_numF (fourAt l k)
def prop_Ints.f (l : List Int) : Option (List Int × Int) := if l.length % 4 = 0 then (if l.length ≤ 4000000 then some (allNums l, 0) else none) else some ([], 15)
set_option maxHeartbeats 1000000 in
set_option maxRecDepth 100000 in
theorem prop_Ints.calls (A0 : Option Addr) (c0 : Nat) (l0 : List Int) (r1 : List Int) (r2 : Int) (w : World) (hr0 : Kd.C (Kd.int .u8) w A0 l0.length l0) (hc0 : l0.length ≤ c0) (h : prop_Ints.f l0 = some (r1, r2)) :
    Calls Tryd.prog 24 #[.slice A0 l0.length c0] w fun e w' => ∃ v0_ : Value, e = .returned (.tuple #[v0_, .int .i64 r2]) ∧ Kd.R (Kd.int .u32) 24 w' w.heap.size (fun _ => True) v0_ r1 ∧ Below w.heap.size w w' := by
  unfold prop_Ints.f at h
  by_cases h4 : l0.length % 4 = 0
  · rw [if_pos h4] at h
    by_cases hb : l0.length ≤ 4000000
    · rw [if_pos hb] at h
      obtain ⟨rfl, rfl⟩ := Prod.mk.inj (Option.some.inj h)
      refine (ints_calls A0 c0 (l0.length / 4) l0 w (by omega) hr0 hc0 (by omega)).mono ?_
      rintro e w' ⟨v, rfl, ho, hb⟩
      refine ⟨v, rfl, Kd.R_of_own (xs := allNums l0) ?_ (fun _ _ => trivial), hb⟩
      rw [numsF_range] at ho
      have hl : (allNums l0).length = l0.length / 4 := by unfold allNums; rw [List.length_map, List.length_range]
      rw [hl]
      exact ho
    · rw [if_neg hb] at h
      cases h
  · rw [if_neg h4] at h
    obtain ⟨rfl, rfl⟩ := Prod.mk.inj (Option.some.inj h)
    have d0 : ((l0.length : Int) % 4 != 0) = true := bne_iff_ne.2 (by omega)
    clear h h4 hr0 hc0
    go_enter Tryd.func24, Tryd.ntmps24
    go_wp2
    go_ret2
    exact ⟨_, rfl, Kd.R_nil _ _ _ _ _, Below.refl _ _⟩
end Go.Proofs.YtlhnaplmphdhlaaDoor.Q
end
