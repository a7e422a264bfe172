/- slices.ContainsFunc at 'is it no zero?'. -/
import Derived.Test.YtnbomjfpnpmllaaHWords
namespace Go.Proofs.Ytnbomjfpnpmllaa.Q
open Go.RowKit Go.Proofs.YtnbomjfpnpmllaaW.PrintWords Go.Proofs.YtnbomjfpnpmllaaW.PrintLast
def anyNZ (l : List Int) : Bool := l.any fun x => x != 0
theorem light_calls (x : Int) (w : World) : Calls Try.prog 27 #[.int .u8 x] w fun e w' => e = .returned (.bool (x != 0)) ∧ w' = w := by
  go_enter Try.func27, Try.ntmps27
  go_wp2
  go_ret
  exact ⟨rfl, rfl⟩
set_option maxHeartbeats 2000000 in
set_option maxRecDepth 100000 in
theorem indexLight_calls (A : Option Addr) (c : Nat) (l : List Int) (w : World) (hC : Kd.C (Kd.int .u8) w A l.length l) (hl : l.length ≤ 140737488351232) :
    Calls Try.prog 41 #[.slice A l.length c, .func (.func 27) #[] #[]] w fun e w' => ∃ r : Int, e = .returned (.int .i64 r) ∧ (decide (0 ≤ r) = anyNZ l) ∧ Below w.heap.size w w' := by
  have HC := Aside0.mk hC
  have HL := Aside0.mk hl
  clear hC hl
  go_enter Try.func41, Try.ntmps41
  go_wp2
  go_loopg [8] l.length (fun kq v8 w' => ∃ i : Int, v8 = .int .i64 i ∧ Aside0 (0 ≤ i ∧ i + kq = l.length) ∧ Aside0 (anyNZ (l.take i.toNat) = false) ∧ Aside0 (Below w.heap.size w w'))
  case atStart => exact ⟨0, rfl, ⟨by omega, by omega⟩, ⟨rfl⟩, ⟨Below.refl _ _⟩⟩
  case round =>
    obtain ⟨i, rfl, HI, HZ, HB⟩ := hrel
    cases gk with
    | zero =>
      have hlt : decide (i < (l.length : Int)) = false := decide_eq_false (by have := HI.out; omega)
      go_wp2
      go_ret
      have hz := HZ.out
      rw [List.take_of_length_le (by have := HI.out; omega)] at hz
      exact ⟨-1, rfl, by rw [hz]; rfl, HB.out⟩
    | succ k1 =>
      have hi := HI.out
      have hL := HL.out
      have hlt : decide (i < (l.length : Int)) = true := decide_eq_true (by omega)
      have p1 : (0 ≤ i) = True := eq_true (by omega)
      have p2 : (i < (l.length : Int)) = True := eq_true (by omega)
      have hw : IntKind.i64.wrap (i + 1) = i + 1 := (i64_w _).trans (by unfold wrap64; omega)
      have hw2 : wrap64 (i + 1) = i + 1 := by unfold wrap64; omega
      obtain ⟨ad, eA, hx⟩ := Kd.at_int (Kd.C_below HC.out HB.out) i (by omega) (by omega)
      cases eA
      have hsn : anyNZ (l.take (i + 1).toNat) = (anyNZ (l.take i.toNat) || (rd l i != 0)) := by
        rw [show (i + 1).toNat = i.toNat + 1 by omega, List.take_succ_eq_append_getElem (show i.toNat < l.length by omega)]
        unfold anyNZ
        rw [List.any_append]
        simp [rd, List.getD_eq_getElem?_getD, List.getElem?_eq_getElem (show i.toNat < l.length by omega)]
      have HSN := Aside0.mk hsn
      have HIN := Aside0.mk (show (rd l i != 0) = true → anyNZ l = true from fun h => by
        unfold anyNZ
        rw [List.any_eq_true]
        refine ⟨rd l i, ?_, h⟩
        simp [rd, List.getD_eq_getElem?_getD, List.getElem?_eq_getElem (show i.toNat < l.length by omega)])
      clear hsn hi hL
      by_cases hz : (rd l i != 0) = true
      · go_wp2_with (first
          | (go_at_call 27; (with_reducible refine (light_calls _ _).mono ?_); rintro e w2 ⟨rfl, rfl⟩))
        go_ret
        have hi := HI.out
        exact ⟨i, rfl, by rw [HIN.out hz]; exact decide_eq_true hi.1, HB.out⟩
      · have hz2 : (rd l i != 0) = false := by simpa using hz
        go_wp2_with (first
          | (go_at_call 27; (with_reducible refine (light_calls _ _).mono ?_); rintro e w2 ⟨rfl, rfl⟩))
        go_roundg k1
        case measure => omega
        case rel =>
          have hi := HI.out
          exact ⟨i + 1, rfl, ⟨by omega, by omega⟩, ⟨by rw [HSN.out, HZ.out, hz2]; rfl⟩, HB⟩
set_option maxHeartbeats 2000000 in
theorem containsLight_calls (A : Option Addr) (c : Nat) (l : List Int) (w : World) (hC : Kd.C (Kd.int .u8) w A l.length l) (hl : l.length ≤ 140737488351232) :
    Calls Try.prog 28 #[.slice A l.length c, .func (.func 27) #[] #[]] w fun e w' => e = .returned (.bool (anyNZ l)) ∧ Below w.heap.size w w' := by
  have HI := Aside0.mk (indexLight_calls A c l w hC hl)
  clear hC hl
  go_enter Try.func28, Try.ntmps28
  go_wp2_with (first
    | (go_at_call 41; (with_reducible refine HI.out.mono ?_); rintro e w2 ⟨r, rfl, hr, hb⟩; have HR := Aside0.mk hr; have HB := Aside0.mk hb; clear hr hb))
  go_ret
  exact ⟨by rw [HR.out]; rfl, HB.out⟩
end Go.Proofs.Ytnbomjfpnpmllaa.Q
