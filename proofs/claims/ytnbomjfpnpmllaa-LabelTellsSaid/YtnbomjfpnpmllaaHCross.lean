/- label.cross: the exclusive or of all numbers of two bytes. -/
import Derived.Test.YtnbomjfpnpmllaaHArr
namespace Go.Proofs.Ytnbomjfpnpmllaa.Q
open Go.RowKit Go.Proofs.YtnbomjfpnpmllaaW.PrintWords Go.Proofs.YtnbomjfpnpmllaaW.PrintLast
def xorB (a b : Int) : Int := bits .xor .u8 a b
def crossAt (l : List Int) : Nat → Int × Int
  | 0 => (0, 0)
  | i + 1 => if i % 2 = 0 then (xorB (crossAt l i).1 (l.getD i 0), (crossAt l i).2) else ((crossAt l i).1, xorB (crossAt l i).2 (l.getD i 0))
def crossF (l : List Int) : Int × Int := crossAt l l.length
theorem cross_even (l : List Int) (i : Nat) (h : i % 2 = 0) : crossAt l (i + 1) = (xorB (crossAt l i).1 (l.getD i 0), (crossAt l i).2) := by rw [crossAt, if_pos h]
theorem cross_odd (l : List Int) (i : Nat) (h : ¬ i % 2 = 0) : crossAt l (i + 1) = ((crossAt l i).1, xorB (crossAt l i).2 (l.getD i 0)) := by rw [crossAt, if_neg h]
theorem size52 : (Try.prog.info? 52).map (·.size) = some 2 := by kernel_rfl
theorem results_one {P : Program} {fn : Func} {p : Tmp} {ty : TypeId} (h : fn.results = #[.cell p ty]) (tmps : Array Value) (w : World) (ad : Addr) (hp : tmps.getD p undef = .pointer (some ad)) (cs : List Value) (d : TypeDesc) (hc : ∀ j v, cs[j]? = some v → w.cell? (ad.add j) = some v)
    (hu : P.underlying ty = some d) (hd : d.isRow = true) (hi : (P.info? ty).map (·.size) = some cs.length) : (results fn tmps).run P w = .ok (.agg cs.toArray) w := by
  have e : (results fn tmps).run P w = ((asAddr (tmps.getD p undef)).run P w).andThen fun a w₁ => (loadVar ty a).run P w₁ := by
    simp only [results, h]
    simp
  rw [e, hp]
  simp [asAddr, run_loadVar_any w ad ty cs d hc hu hd hi]
set_option maxHeartbeats 4000000 in
set_option maxRecDepth 100000 in
theorem cross_calls (A : Option Addr) (c : Nat) (l : List Int) (w : World) (hC : Kd.C (Kd.int .u8) w A l.length l) (hl : l.length ≤ 140737488351232) :
    Calls Try.prog 25 #[.slice A l.length c] w fun e w' => e = .returned (.agg #[.int .u8 (crossF l).1, .int .u8 (crossF l).2]) ∧ Below w.heap.size w w' := by
  have HC := Aside0.mk hC
  have HL := Aside0.mk hl
  clear hC hl
  go_enter Try.func25, Try.ntmps25
  go_wp2_with (first
    | ((with_reducible refine gate_dst (N := 2) rfl ?_); refine box_event ?hg (N := 2) ?hd (cs := #[.int .u8 0, .int .u8 0]) (t := 52) ?hr ?_; (case hd => rfl); (case hg => rfl); (case hr => first | (go_simp; done) | (go_simp; rfl)); intro gb hg w1 hbox hb; have BK := Aside0.mk hbox; have HB := Aside0.mk hb; have GB := Aside0.mk (show w.heap.size ≤ gb from hg ▸ Nat.le_refl _); clear hbox hb hg))
  go_loopg [7] l.length (fun kq v7 w' => ∃ (i : Int) (x y : Int), v7 = .int .i64 i ∧ Aside0 (0 ≤ i ∧ i + kq = l.length) ∧ Aside0 (crossAt l i.toNat = (x, y)) ∧ Aside0 (w'.heap[gb]? = some (.cells #[.int .u8 x, .int .u8 y] 52 (0, 0))) ∧ Aside0 (Below w.heap.size w w'))
  case atStart => exact ⟨0, 0, 0, rfl, ⟨by omega, by omega⟩, ⟨rfl⟩, BK, HB⟩
  case round =>
    clear BK HB
    obtain ⟨i, x, y, rfl, HI, HX, BK, HB⟩ := hrel
    cases gk with
    | zero =>
      have hlt : decide (i < (l.length : Int)) = false := decide_eq_false (by have := HI.out; omega)
      have hf := HX.out
      rw [show i.toNat = l.length by have := HI.out; omega] at hf
      have hc0 := (blk_cell BK.out 0).trans rfl
      have hc1 := (blk_cell BK.out 1).trans rfl
      have hf0 := blk_frozen BK.out 0
      have hf1 := blk_frozen BK.out 1
      have HF := Aside0.mk hf
      clear hf
      go_wp2
      have hB2 := blk_put (blk_put BK.out 0 (.int .u8 x) rfl) 1 (.int .u8 y) rfl
      refine bodyPost_ret (v := .agg #[.int .u8 x, .int .u8 y]) ?_ rfl ⟨?_, below_set (below_set HB.out GB.out) GB.out⟩
      · refine results_one (p := 2) (ty := 52) rfl _ _ ⟨gb, 0, none⟩ rfl [.int .u8 x, .int .u8 y] (.array 2 5) (fun j v h => ?_) Try.underlying52 rfl size52
        rw [Addr.add_mid, Nat.zero_add, blk_cell hB2]
        simpa using h
      · unfold crossF
        rw [HF.out]
    | succ k1 =>
      have hi := HI.out
      have hL := HL.out
      have hlt : decide (i < (l.length : Int)) = true := decide_eq_true (by omega)
      have p1 : (0 ≤ i) = True := eq_true (by omega)
      have p2 : (i < (l.length : Int)) = True := eq_true (by omega)
      have hw2 : wrap64 (i + 1) = i + 1 := by unfold wrap64; omega
      obtain ⟨ad, eA, hx⟩ := Kd.at_int (Kd.C_below HC.out HB.out) i (by omega) (by omega)
      cases eA
      have hc0 := (blk_cell BK.out 0).trans rfl
      have hc1 := (blk_cell BK.out 1).trans rfl
      have hf0 := blk_frozen BK.out 0
      have hf1 := blk_frozen BK.out 1
      by_cases hev : i.toNat % 2 = 0
      · have hm : Int.tmod i 2 = 0 := by rw [Int.tmod_eq_emod_of_nonneg hi.1]; omega
        have hm2 : i % 2 = 0 := by omega
        have he := cross_even l i.toNat hev
        rw [HX.out, show i.toNat + 1 = (i + 1).toNat by omega] at he
        have HE := Aside0.mk he
        have HI1 := Aside0.mk hi
        clear hi hL he hev
        go_wp2
        go_roundg k1
        case measure => omega
        case rel =>
          have hi := HI1.out
          exact ⟨i + 1, _, _, rfl, ⟨by omega, by omega⟩, HE, ⟨blk_put BK.out 0 _ rfl⟩, ⟨below_set HB.out GB.out⟩⟩
      · have hm : Int.tmod i 2 = 1 := by rw [Int.tmod_eq_emod_of_nonneg hi.1]; omega
        have hm2 : i % 2 = 1 := by omega
        have he := cross_odd l i.toNat hev
        rw [HX.out, show i.toNat + 1 = (i + 1).toNat by omega] at he
        have HE := Aside0.mk he
        have HI1 := Aside0.mk hi
        clear hi hL he hev
        go_wp2
        go_roundg k1
        case measure => omega
        case rel =>
          have hi := HI1.out
          exact ⟨i + 1, _, _, rfl, ⟨by omega, by omega⟩, HE, ⟨blk_put BK.out 1 _ rfl⟩, ⟨below_set HB.out GB.out⟩⟩
end Go.Proofs.Ytnbomjfpnpmllaa.Q
