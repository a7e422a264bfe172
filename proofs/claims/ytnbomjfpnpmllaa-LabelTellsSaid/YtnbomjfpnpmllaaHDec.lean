/- The reference's DecodeInt, of bytes that are read. -/
import Derived.Test.YtnbomjfpnpmllaaHPart
set_option linter.unusedSimpArgs false
set_option linter.unusedVariables false
namespace Go.Proofs.Ytnbomjfpnpmllaa.Q
open Go.RowKit Go.Proofs.YtnbomjfpnpmllaaW.PrintWords Go.Proofs.YtnbomjfpnpmllaaW.PrintLast Go.Proofs.YtnbomjfpnpmllaaW.PrintMore
def decAt (l : List Int) : Nat → Int
  | 0 => 0
  | i + 1 => (decAt l i * 256 % 4294967296 + rd l i % 4294967296) % 4294967296
def numB (l : List Int) : Int := decAt l 4
set_option maxHeartbeats 4000000 in
set_option maxRecDepth 100000 in
theorem dec_at (A : Option Addr) (c n : Nat) (l : List Int) (w : World) (hC : Kd.C (Kd.int .u8) w A n l) (hn : 4 ≤ n) (hnc : n ≤ c) :
    Calls Try.prog 30 #[.slice A n c] w fun e w' => ∃ v : Value, e = .returned (.tuple #[.int .u32 (numB l), v, .int .i64 0]) ∧ Below w.heap.size w w' := by
  have hl : l.length = n := hC.1
  have hn63 : n ≤ 9223372036854775807 := hC.2.1
  have HC := Aside0.mk hC
  have HN := Aside0.mk (And.intro hn hnc)
  have hlt0 : decide ((n : Int) < 4) = false := decide_eq_false (by omega)
  obtain ⟨R, hR⟩ : ∃ R, R = numB l := ⟨_, rfl⟩
  have HR := Aside0.mk hR
  rw [← hR]
  have HN63 := Aside0.mk hn63
  have HL := Aside0.mk hl
  clear hC hn hnc hl hR hn63
  go_enter Try.func30, Try.ntmps30
  go_wp2
  go_loopg [5, 6] 4 (fun kq v5 v6 w' => ∃ (i x : Int), v6 = .int .i64 i ∧ v5 = .int .u32 x ∧ Aside0 (0 ≤ i ∧ i + kq = 4) ∧ Aside0 (x = decAt l i.toNat) ∧ Aside0 (Below w.heap.size w w'))
  case atStart => exact ⟨0, 0, rfl, rfl, ⟨by omega, by omega⟩, ⟨rfl⟩, ⟨Below.refl _ _⟩⟩
  case round =>
    obtain ⟨i, x, rfl, rfl, HI, HX, HB⟩ := hrel
    cases gk with
    | zero =>
      have hi4 : i = 4 := by have := HI.out; omega
      have hlt : decide (i < (4 : Int)) = false := decide_eq_false (by omega)
      have hX := HX.out
      rw [hi4] at hX
      have HRX := Aside0.mk (show R = x by rw [HR.out, hX]; rfl)
      have q1 : ((4 : Int) ≤ (n : Int)) = True := eq_true (by have := HN.out; omega)
      clear hX hi4 HX
      go_wp2
      refine start_ (n := 6) (S := fun _ => True) (ds := []) #[false, false, false, false, false, false] (by kernel_rfl) rfl rfl trivial (fun hHeld => ?_)
      refine pure_ (i := 0) (N := some 22) (v := ?_) (a' := ?_) #[true, false, false, false, false, false] rfl rfl (by kernel_rfl) (fun _ _ _ h => h) (Or.inl ⟨by rfl, ?_⟩) ?_ ?_
      rotate_left
      · intro w'
        go_simp
        with_reducible rfl
      rotate_left
      · simp only [Act.put, List.setIfInBounds_toArray, List.set_cons_zero, List.set_cons_succ]
        rfl
      refine pure_ (i := 1) (N := some 23) (v := ?_) (a' := ?_) #[true, true, false, false, false, false] rfl rfl (by kernel_rfl) (fun _ _ _ h => h) (Or.inl ⟨by rfl, ?_⟩) ?_ ?_
      rotate_left
      · intro w'
        go_simp
        with_reducible rfl
      rotate_left
      · simp only [Act.put, List.setIfInBounds_toArray, List.set_cons_zero, List.set_cons_succ]
        rfl
      refine pure_ (i := 2) (N := some 24) (v := ?_) (a' := ?_) #[true, true, true, false, false, false] rfl rfl (by kernel_rfl) (fun _ _ _ h => h) (Or.inl ⟨by rfl, ?_⟩) ?_ ?_
      rotate_left
      · intro w'
        go_simp
        with_reducible rfl
      rotate_left
      · simp only [Act.put, List.setIfInBounds_toArray, List.set_cons_zero, List.set_cons_succ]
        rfl
      refine pure_ (i := 3) (N := some 2) (v := ?_) (a' := ?_) #[true, true, true, true, false, false] rfl rfl (by kernel_rfl) (fun _ _ _ h => h) (Or.inl ⟨by rfl, ?_⟩) ?_ ?_
      rotate_left
      · intro w'
        go_simp
        with_reducible rfl
      rotate_left
      · simp only [Act.put, List.setIfInBounds_toArray, List.set_cons_zero, List.set_cons_succ]
        rfl
      refine pure_ (i := 4) (N := some 3) (v := ?_) (a' := ?_) #[true, true, true, true, true, false] rfl rfl (by kernel_rfl) (fun _ _ _ h => h) (Or.inl ⟨by rfl, ?_⟩) ?_ ?_
      rotate_left
      · intro w'
        go_simp
        with_reducible rfl
      rotate_left
      · simp only [Act.put, List.setIfInBounds_toArray, List.set_cons_zero, List.set_cons_succ]
        rfl
      refine pure_ (i := 5) (N := some 4) (v := ?_) (a' := ?_) #[true, true, true, true, true, true] rfl rfl (by kernel_rfl) (fun _ _ _ h => h) (Or.inl ⟨by rfl, ?_⟩) ?_ ?_
      rotate_left
      · intro w'
        go_simp
        with_reducible rfl
      rotate_left
      · simp only [Act.put, List.setIfInBounds_toArray, List.set_cons_zero, List.set_cons_succ]
        rfl
      refine done_ (n := 0) (by kernel_rfl) ?_
      go_wp2
      all_goals exact bodyPost_ret (results_tmp3 rfl _ _ _) rfl ⟨⟨_, by rw [HRX.out]; rfl⟩, pw_below_drewN HB.out 1⟩
    | succ k1 =>
      have hi := HI.out
      have hlt : decide (i < (4 : Int)) = true := decide_eq_true (by omega)
      have hw2 : wrap64 (i + 1) = i + 1 := by unfold wrap64; omega
      have hN := HN.out
      have p1 : (0 ≤ i) = True := eq_true (by omega)
      have p2 : (i < (n : Int)) = True := eq_true (by omega)
      obtain ⟨ad, eA, hx⟩ := Kd.at_int (Kd.C_below HC.out HB.out) i (by omega) (by omega)
      cases eA
      have hD : decAt l (i + 1).toNat = (x * 256 % 4294967296 + rd l i % 4294967296) % 4294967296 := by
        rw [show (i + 1).toNat = i.toNat + 1 by omega, decAt, HX.out, show ((i.toNat : Nat) : Int) = i by omega]
      have HD := Aside0.mk hD
      have HI1 := Aside0.mk hi
      clear hi hN hD
      go_wp2
      go_roundg k1
      case measure => omega
      case rel =>
        have hi := HI1.out
        exact ⟨i + 1, _, congrArg (Value.int .i64) hw2, rfl, ⟨by omega, by omega⟩, ⟨HD.out.symm⟩, HB⟩
end Go.Proofs.Ytnbomjfpnpmllaa.Q
