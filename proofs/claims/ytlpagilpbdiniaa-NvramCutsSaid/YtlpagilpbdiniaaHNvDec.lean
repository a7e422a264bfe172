/- What the reference's DecodeInt answers of four bytes or more that are read. -/
import Derived.Test.YtlpagilpbdiniaaHNvArr
namespace Go.Proofs.Ytlpagilpbdiniaa.Q
open Go.RowKit Go.Proofs.YtlpagilpbdiniaaW.PrintWords Go.Proofs.YtlpagilpbdiniaaW.PrintLast Go.Proofs.YtlpagilpbdiniaaW.PrintMore
def beStep (x c : Int) : Int := (x * 256 % 4294967296 + c % 4294967296) % 4294967296
def beF (l : List Int) : Int := (l.take 4).foldl beStep 0
set_option maxHeartbeats 4000000 in
set_option maxRecDepth 100000 in
theorem decode_calls (A0 : Option Addr) (c0 : Nat) (l0 : List Int) (w : World) (hr0 : Kd.C (Kd.int .u8) w A0 l0.length l0) (_hc0 : l0.length ≤ c0) (hl : 4 ≤ l0.length) :
    Calls Try.prog 33 #[.slice A0 l0.length c0] w fun e w' => ∃ v : Value, e = .returned (.tuple #[.int .u32 (beF l0), v, .int .i64 0]) ∧ Below w.heap.size w w' := by
  have HR0 := Aside0.mk hr0
  have HL := Aside0.mk hl
  have hm := Kd.C_max hr0
  have hlt0 : decide ((l0.length : Int) < 4) = false := decide_eq_false (by omega)
  have hcut : ∀ W : World, (Instr.slice 22 (.slice A0 l0.length c0) (some (.int .i64 4)) none none).run Try.prog W = .ok (.slice (cutAt A0 c0 4 1) (l0.length - 4) (c0 - 4)) W := run_cut_lo (P := Try.prog) (sz := 1) Try.underlying22 (by kernel_rfl) A0 l0.length c0 4 (by omega) (by omega)
  obtain ⟨R, hR⟩ : ∃ R, R = beF l0 := ⟨_, rfl⟩
  rw [← hR]
  have HRR := Aside0.mk hR
  clear hr0 hl hR
  go_enter Try.func33, Try.ntmps33
  go_wp2
  go_loopg [5, 6] 4 (fun kq v5 v6 w' => ∃ i : Int, v6 = .int .i64 i ∧ v5 = .int .u32 ((l0.take i.toNat).foldl beStep 0) ∧ Aside0 (0 ≤ i ∧ i + kq = 4) ∧ Aside0 (Below w.heap.size w w'))
  case atStart => exact ⟨0, rfl, rfl, ⟨by omega, by omega⟩, ⟨Below.refl _ _⟩⟩
  case round =>
    obtain ⟨i, rfl, rfl, HI, HB⟩ := hrel
    cases gk with
    | zero =>
      have hi4 : i = 4 := by have := HI.out; omega
      subst hi4
      have hR := HRR.out
      have hR2 : (l0.take (4 : Int).toNat).foldl beStep 0 = R := hR.symm
      rw [hR2]
      clear hR hR2
      have hlt : decide ((4 : Int) < 4) = false := rfl
      go_wp2
      refine start_ (n := 6) (S := fun _ => True) (ds := []) #[false, false, false, false, false, false] (by kernel_rfl) rfl rfl trivial (fun hHeld => ?_)
      refine pure_ (i := 0) (N := some 22) (v := ?_) (a' := ?_) #[true, false, false, false, false, false] rfl rfl (by kernel_rfl) (fun _ _ _ h => h) (Or.inl ⟨by rfl, ?_⟩) ?_ ?_
      rotate_left
      · intro w'
        go_simp
        with_reducible rfl
      rotate_left
      · simp only [Act.put, List.setIfInBounds_toArray, List.set_cons_zero, List.set_cons_succ]
        rfl
      refine pure_ (i := 1) (N := some 23) (v := ?_) (a' := ?_) #[true, true, false, false, false, false] rfl rfl (by kernel_rfl) (fun _ _ _ h => h) (Or.inl ⟨by rfl, ?_⟩) ?_ ?_
      rotate_left
      · intro w'
        go_simp
        with_reducible rfl
      rotate_left
      · simp only [Act.put, List.setIfInBounds_toArray, List.set_cons_zero, List.set_cons_succ]
        rfl
      refine pure_ (i := 2) (N := some 24) (v := ?_) (a' := ?_) #[true, true, true, false, false, false] rfl rfl (by kernel_rfl) (fun _ _ _ h => h) (Or.inl ⟨by rfl, ?_⟩) ?_ ?_
      rotate_left
      · intro w'
        go_simp
        with_reducible rfl
      rotate_left
      · simp only [Act.put, List.setIfInBounds_toArray, List.set_cons_zero, List.set_cons_succ]
        rfl
      refine pure_ (i := 3) (N := some 2) (v := ?_) (a' := ?_) #[true, true, true, true, false, false] rfl rfl (by kernel_rfl) (fun _ _ _ h => h) (Or.inl ⟨by rfl, ?_⟩) ?_ ?_
      rotate_left
      · intro w'
        go_simp
        with_reducible rfl
      rotate_left
      · simp only [Act.put, List.setIfInBounds_toArray, List.set_cons_zero, List.set_cons_succ]
        rfl
      refine pure_ (i := 4) (N := some 3) (v := ?_) (a' := ?_) #[true, true, true, true, true, false] rfl rfl (by kernel_rfl) (fun _ _ _ h => h) (Or.inl ⟨by rfl, ?_⟩) ?_ ?_
      rotate_left
      · intro w'
        go_simp
        with_reducible rfl
      rotate_left
      · simp only [Act.put, List.setIfInBounds_toArray, List.set_cons_zero, List.set_cons_succ]
        rfl
      refine pure_ (i := 5) (N := some 4) (v := ?_) (a' := ?_) #[true, true, true, true, true, true] rfl rfl (by kernel_rfl) (fun _ _ _ h => h) (Or.inl ⟨by rfl, ?_⟩) ?_ ?_
      rotate_left
      · intro w'
        go_simp
        with_reducible rfl
      rotate_left
      · simp only [Act.put, List.setIfInBounds_toArray, List.set_cons_zero, List.set_cons_succ]
        rfl
      refine done_ (n := 0) (by kernel_rfl) ?_
      go_wp2
      go_ret3
      exact ⟨_, rfl, below_drew HB.out⟩
    | succ k1 =>
      have hi := HI.out
      have hll := HL.out
      have hlt : decide (i < 4) = true := decide_eq_true (by omega)
      have hwr : IntKind.i64.wrap (i + 1) = i + 1 := (i64_w _).trans (by unfold wrap64; omega)
      obtain ⟨ad, ea, hx0⟩ := Kd.at_int (Kd.C_below HR0.out HB.out) i (by omega) (by omega)
      cases ea
      have p1 : (0 ≤ i) = True := eq_true (by omega)
      have p2 : (i < (l0.length : Int)) = True := eq_true (by omega)
      have hst : (l0.take (i + 1).toNat).foldl beStep 0 = beStep ((l0.take i.toNat).foldl beStep 0) (rd l0 i) := by
        rw [show (i + 1).toNat = i.toNat + 1 by omega, List.take_succ_eq_append_getElem (show i.toNat < l0.length by omega), List.foldl_append]
        simp [rd, List.getD_eq_getElem?_getD, List.getElem?_eq_getElem (show i.toNat < l0.length by omega)]
      have HST := Aside0.mk hst
      clear hi hll hst
      go_wp2
      go_roundg k1
      case measure => omega
      case rel => exact ⟨i + 1, rfl, by rw [HST.out]; rfl, ⟨by have := HI.out; omega, by have := HI.out; omega⟩, HB⟩
end Go.Proofs.Ytlpagilpbdiniaa.Q
