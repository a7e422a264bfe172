/- slices.Chunk at four bytes: what its iterator hands on. -/
import Derived.RangeFuncNested
import Derived.RangeFuncBound
import Derived.RangeFuncCalls
import Derived.RangeFuncLeaves
import Derived.Shelf.Abstract
import Derived.WalkKit
import Derived.OwnWalkIn
import Derived.TacticsInMore
import Derived.LoopNIn
import Derived.LoopIn
import Derived.Maps.AppendAt
import Derived.Sort.QuietIn
import Derived.Test.YtnbomjfpnpmllaaHWords
import Derived.Test.YtnbomjfpnpmllaaQPropNumber
namespace Go.Proofs.Ytnbomjfpnpmllaa.Q
open Go.RowKit Go.Shelf Go.Proofs.YtnbomjfpnpmllaaW.PrintWords Go.Proofs.YtnbomjfpnpmllaaW.PrintLast
attribute [local go_sem] Oper.semAt_some
/-- What the iterator asks of a round: its own two boxes stay. -/
def KpC (Bs Bn : Nat) (W W' : World) : Prop := W.heap.size ≤ W'.heap.size ∧ ∀ i, i = Bs ∨ i = Bn → i < W.heap.size → W'.heap[i]? = W.heap[i]?
theorem KpC.refl (Bs Bn : Nat) (W : World) : KpC Bs Bn W W := ⟨Nat.le_refl _, fun _ _ _ => rfl⟩
theorem KpC.trans {Bs Bn : Nat} {A B C : World} (h : KpC Bs Bn A B) (k : KpC Bs Bn B C) : KpC Bs Bn A C :=
  ⟨Nat.le_trans h.1 k.1, fun i hi hl => (k.2 i hi (Nat.lt_of_lt_of_le hl h.1)).trans (h.2 i hi hl)⟩
theorem KpC.heap {Bs Bn : Nat} {A B : World} (h : KpC Bs Bn A B) {i : Nat} (hi : i = Bs ∨ i = Bn) {o : Obj} (ho : A.heap[i]? = some o) : B.heap[i]? = some o := (h.2 i hi (Array.getElem?_eq_some_iff.1 ho).1).trans ho
/-- The k-th piece. -/
def piece (ad : Addr) (k : Nat) : Value := .slice (some (ad.add (4 * k))) 4 4
set_option maxRecDepth 100000 in
set_option maxHeartbeats 2000000 in
theorem chunk1_in (n : Nat) (hn : 1 ≤ n) (l Bs Bn : Nat) (A : Option Addr) (ad : Addr) (m cap : Nat) (hA : 0 < m → A = some ad) (hreach : 4 * m ≤ 140737488351232) (hcap : 4 * m ≤ cap) (B : Nat) (J Jx : List Nat → World → Prop) (hJ : AbidesFrom B J)
    (hY : ∀ pre x W, J pre W → pre.length < m → YieldAt Fence.wide (n - 1) Try.prog l #[piece ad (x % m)] W fun e W' =>
      (e = .returned (.bool true) ∧ J (pre ++ [x]) W' ∧ KpC Bs Bn W W') ∨ (e = .returned (.bool false) ∧ Jx (pre ++ [x]) W'))
    (W : World) (hBs : W.heap[Bs]? = some (.cells #[.slice A (4 * m) cap] 27 (0, 0))) (hBn : W.heap[Bn]? = some (.cells #[.int .i64 4] 3 (0, 0))) (h0 : J [] W) :
    CallsIn Fence.wide n Try.prog 50 #[.func (.yield l) #[] #[], .pointer (some ⟨Bs, 0, none⟩), .pointer (some ⟨Bn, 0, none⟩)] W fun e W' => (∃ v, e = .returned v) ∧
      ((∃ ys, ys = List.range m ∧ J ys W') ∨ (∃ pre, (∃ k, k ≤ m ∧ pre = List.range k) ∧ Jx pre W')) := by
  refine callsIn_of_wp Try.func50 rfl trivial ?_ rfl
  simp only [Try.ntmps50, List.size_toArray, List.length_cons, List.length_nil, Nat.reduceAdd, Nat.reduceSub, Array.replicate_succ, Array.replicate_zero, List.push_toArray, List.append_toArray, List.nil_append, List.cons_append]
  gi_wp2
  gi_loopw [4] (fun i wr => ∃ k : Nat, k ≤ m ∧ i = .int .i64 ((4 * k : Nat) : Int) ∧ J (List.range k) wr ∧ wr.heap[Bs]? = some (.cells #[.slice A (4 * m) cap] 27 (0, 0)) ∧ wr.heap[Bn]? = some (.cells #[.int .i64 4] 3 (0, 0)))
    (fun i _ => 4 * m - (intOf i).toNat)
  case atStart => exact ⟨0, Nat.zero_le _, rfl, h0, hBs, hBn⟩
  case round =>
    obtain ⟨k, hk, rfl, hJs, hs, hnn⟩ := hrel
    have hcs := (blk_cell hs 0).trans rfl
    have hcn := (blk_cell hnn 0).trans rfl
    by_cases hlt : k < m
    · obtain rfl := hA (by omega)
      have d1 : decide (((4 * k : Nat) : Int) < ((4 * m : Nat) : Int)) = true := decide_eq_true (by omega)
      have w1 : wrap64 ((4 * k : Nat) : Int) = ((4 * k : Nat) : Int) := by unfold wrap64; omega
      gi_wp2
      gi_quiet (fail)
      have hJq : J (List.range k) (wr.drewN nq) := hJ _ _ _ none hJs (grown_of_below (pw_below_drewN (Below.refl _ _) nq) none) (fun r e => by cases e)
      have hsq : (wr.drewN nq).heap[Bs]? = some (.cells #[.slice (some ad) (4 * m) cap] 27 (0, 0)) := hs
      have hnq : (wr.drewN nq).heap[Bn]? = some (.cells #[.int .i64 4] 3 (0, 0)) := hnn
      clear hcs hcn hs hnn hJs
      obtain ⟨wq, hwq⟩ : ∃ wq, wq = wr.drewN nq := ⟨_, rfl⟩
      rw [← hwq] at hJq hsq hnq ⊢
      clear hwq
      have hcs := (blk_cell hsq 0).trans rfl
      have hcn := (blk_cell hnq 0).trans rfl
      obtain ⟨fn, tmps, assign, body, hy, hR⟩ := hY _ k wq hJq (by rw [List.length_range]; exact hlt)
      rw [Nat.mod_eq_of_lt hlt] at hy
      simp only [piece] at hy
      gi_wp2
      refine hR.mono ?_
      rintro e W3 (⟨rfl, hJ3, hk3⟩ | ⟨rfl, hJx3⟩)
      · have hs3 := hk3.heap (.inl rfl) hsq
        have hn3 := hk3.heap (.inr rfl) hnq
        have hcs3 := (blk_cell hs3 0).trans rfl
        have hcn3 := (blk_cell hn3 0).trans rfl
        have w2 : wrap64 (((4 * k : Nat) : Int) + 4) = ((4 * (k + 1) : Nat) : Int) := by unfold wrap64; omega
        clear hcs hcn
        gi_wp2
        go_roundw
        case rel => exact ⟨k + 1, by omega, rfl, by rw [List.range_succ]; exact hJ3, hs3, hn3⟩
        case measure => simp [intOf]; omega
      · gi_wp2
        refine bodyPost_ret (results_none rfl _ _ _) rfl ?_
        exact ⟨⟨_, rfl⟩, .inr ⟨_, ⟨k + 1, by omega, List.range_succ.symm⟩, hJx3⟩⟩
    · obtain rfl : k = m := by omega
      have d1 : decide (((4 * k : Nat) : Int) < ((4 * k : Nat) : Int)) = false := decide_eq_false (by omega)
      gi_wp2
      go_end0
      exact ⟨⟨_, rfl⟩, .inl ⟨_, rfl, hJs⟩⟩
theorem chunk_stops (n : Nat) (hn : 1 ≤ n) (Bs Bn : Nat) (A : Option Addr) (ad : Addr) (m cap : Nat) (hA : 0 < m → A = some ad) (hreach : 4 * m ≤ 140737488351232) (hcap : 4 * m ≤ cap) (w : World)
    (hBs : w.heap[Bs]? = some (.cells #[.slice A (4 * m) cap] 27 (0, 0))) (hBn : w.heap[Bn]? = some (.cells #[.int .i64 4] 3 (0, 0))) :
    SeqStopsK Fence.wide n Try.prog 50 #[.pointer (some ⟨Bs, 0, none⟩), .pointer (some ⟨Bn, 0, none⟩)] (fun k : Nat => #[piece ad (k % m)]) (KpC Bs Bn) (fun ys => ys = List.range m) (fun pre => ∃ k, k ≤ m ∧ pre = List.range k) m w := fun l J Jx W hW hJ _ hY h0 =>
  chunk1_in n hn l Bs Bn A ad m cap hA hreach hcap _ J Jx hJ hY W (blk_below hBs hW) (blk_below hBn hW) h0
set_option maxHeartbeats 1000000 in
theorem chunk_in (n : Nat) (A : Option Addr) (len cap : Nat) (w : World) :
    CallsIn Fence.wide n Try.prog 42 #[.slice A len cap, .int .i64 4] w fun e w' => e = .returned (.func (.func 50) #[] #[.pointer (some ⟨w.heap.size, 0, none⟩), .pointer (some ⟨w.heap.size + 1, 0, none⟩)]) ∧ w' = (w.alloc (.cells #[.slice A len cap] 27)).alloc (.cells #[.int .i64 4] 3) := by
  refine callsIn_of_wp Try.func42 rfl trivial ?_ rfl
  simp only [Try.ntmps42, List.size_toArray, List.length_cons, List.length_nil, Nat.reduceAdd, Nat.reduceSub, Array.replicate_succ, Array.replicate_zero, List.push_toArray, List.append_toArray, List.nil_append, List.cons_append]
  gi_wp2
  go_ret
  exact ⟨by simp, rfl⟩
end Go.Proofs.Ytnbomjfpnpmllaa.Q
