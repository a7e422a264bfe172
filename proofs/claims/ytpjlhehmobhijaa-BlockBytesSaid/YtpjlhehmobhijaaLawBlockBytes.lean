/- The law BlockBytes, called with whatever arguments, answers true and leaves each argument as it read; no condition. -/
import Derived.Test.YtpjlhehmobhijaaRows
import Derived.Test.YtpjlhehmobhijaaHBytesW
import Derived.Test.YtpjlhehmobhijaaHOpen
import Derived.WalkKit
import Derived.ProofKit
import Derived.OpenShut
import Derived.ShutString
import Derived.ChangeOld
import Derived.Below
import Derived.SizedLaws
namespace Go.Proofs.Ytpjlhehmobhijaa.blockBytes
open Go.ChangeShapes Go.WideShapes Go.ChangeAt Go.RowKit Go.Proofs.Ytpjlhehmobhijaa.Q Go.Proofs.YtpjlhehmobhijaaW.PrintWords
open Go.ChangeMaps (open_string shut_string)
set_option linter.unusedVariables false
set_option linter.unusedSimpArgs false
theorem own : ownKnob Try.prog.godebug = none := by kernel_rfl
theorem laidOut : laidOutB Try.prog = true := by kernel_rfl
set_option maxRecDepth 100000 in
theorem lifted (os : Os) (started : os.Started) (H : Type) (enc : TypeId × Value → H) :
    ReturnsInHanded {} Try.checked os 6 .any (Rows.blockBytesSpec.pre6 enc Try.prog Try.f6 Rows.blockBytesRow.domain false) (Rows.blockBytesSpec.post enc Try.prog Try.f6 false true false false) := by
  refine returnsInHanded_of_change_sized (C := Try.checked) own started (by kernel_rfl) Try.func6
    (ChangeSpec.witness6 (enc := enc) (C := Try.checked) false ⟨#[], #[.slice none 0 0, .agg #[.int .i64 0, .int .i64 0], .slice none 0 0], []⟩ 8 (by kernel_rfl) (by kernel_rfl) (by kernel_rfl) (by kernel_rfl)) ?_
  intro W base args ds gs before hval0 hW hcnd hsz0 _
  have hsz : (DataW.weightsEach Try.prog (Try.f6.params.toList ++ Rows.blockBytesSpec.plain.varTypes Try.prog) (ds ++ gs)).all (· ≤ reachBytes) = true := hsz0
  have hval : ∀ (j : Nat) t v, Try.f6.params[j]? = some t → args[j]? = some v → Value.okWide Try.prog W .any base t v := hval0
  have hW' := hW
  obtain ⟨p, q, hA0, hV, rfl, hfz, hnd⟩ := hW
  have hA : DataW.TrodAll enc Try.prog W 0 (fun _ => true) true Try.f6.params.toList args.toList ds p := hA0
  rw [Try.params6] at hA hval hsz
  obtain ⟨v0, vs0, d0, ds0, p0, q0, hargs, rfl, rfl, h0, r0⟩ := trodAll_cons hA
  obtain ⟨v1, vs1, d1, ds1, p1, q1, rfl, rfl, rfl, h1, r1⟩ := trodAll_cons r0
  obtain ⟨v2, vs2, d2, ds2, p2, q2, rfl, rfl, rfl, h2, r2⟩ := trodAll_cons r1
  obtain ⟨rfl, rfl, rfl⟩ := trodAll_nil r2
  obtain rfl : args = #[v0, v1, v2] := by cases args; simp_all
  obtain ⟨rfl, rfl⟩ := trodVars_none hV
  have k0 := h0
  have lt0 : ∀ x ∈ p0, x.block < W.heap.size := by obtain ⟨m, hm⟩ := k0; exact DataW.trod_lt m _ _ _ hm
  obtain ⟨a0, len0, cap0, rfl⟩ := okWide_slice Try.underlying30 (hval 0 30 v0 rfl rfl)
  obtain ⟨z0, ⟨A0, c0, hcs0, hl0, hC0⟩, g0⟩ : ∃ z, (Kd.slice 5 (Kd.int .u8)).K W z [.slice a0 len0 cap0] ∧ (z.length * 1 ≤ 140737488351232 ∧ ∀ a ∈ z, (Lit.int .u8 a).wf = true) := by
    obtain ⟨fuel, hf⟩ := h0
    exact (opens_slice Try.underlying30 (by kernel_rfl) 1 (by kernel_rfl) (opens_int Try.underlying5)) enc W fuel _ _ hf (weights_each hsz (j := 0) (t := 30) rfl rfl)
  simp only [List.cons.injEq, Value.slice.injEq, and_true] at hcs0
  obtain ⟨rfl, rfl, rfl⟩ := hcs0
  have k1 := h1
  have lt1 : ∀ x ∈ p1, x.block < W.heap.size := by obtain ⟨m, hm⟩ := k1; exact DataW.trod_lt m _ _ _ hm
  obtain ⟨cs1, rfl⟩ := okWide_array Try.underlying38 (hval 1 38 v1 rfl rfl)
  obtain ⟨z1, hz1, hr1, g1⟩ : ∃ z : List Int, z.length = 2 ∧ Reps ((Kd.int .i64).K W) (Kd.int .i64).sz z cs1.toList ∧ ∀ a ∈ z, (Lit.int .i64 a).wf = true := by
    obtain ⟨fuel, hf⟩ := h1
    exact opens_array Try.underlying38 (by kernel_rfl) (by kernel_rfl) (opens_int Try.underlying3) enc W fuel _ _ hf (weights_each hsz (j := 1) (t := 38) rfl rfl)
  have hcs1 := reps_scalar (enc := Value.int .i64) (fun _ _ h => h) hr1
  obtain ⟨x1_0, x1_1, rfl⟩ : ∃ x1_0 x1_1, z1 = [x1_0, x1_1] := by
    match z1, hz1 with
    | [x1_0, x1_1], _ => exact ⟨x1_0, x1_1, rfl⟩
  obtain rfl : cs1 = #[.int .i64 x1_0, .int .i64 x1_1] := Array.ext' hcs1
  have k2 := h2
  have lt2 : ∀ x ∈ p2, x.block < W.heap.size := by obtain ⟨m, hm⟩ := k2; exact DataW.trod_lt m _ _ _ hm
  obtain ⟨a2, len2, cap2, rfl⟩ := okWide_slice Try.underlying30 (hval 2 30 v2 rfl rfl)
  obtain ⟨z2, ⟨A2, c2, hcs2, hl2, hC2⟩, g2⟩ : ∃ z, (Kd.slice 5 (Kd.int .u8)).K W z [.slice a2 len2 cap2] ∧ (z.length * 1 ≤ 140737488351232 ∧ ∀ a ∈ z, (Lit.int .u8 a).wf = true) := by
    obtain ⟨fuel, hf⟩ := h2
    exact (opens_slice Try.underlying30 (by kernel_rfl) 1 (by kernel_rfl) (opens_int Try.underlying5)) enc W fuel _ _ hf (weights_each hsz (j := 2) (t := 30) rfl rfl)
  simp only [List.cons.injEq, Value.slice.injEq, and_true] at hcs2
  obtain ⟨rfl, rfl, rfl⟩ := hcs2
  clear hA0 hval0 hsz0 hsz
  refine (Q.blockBytes_row _ _ z0 hC0 hl0 g0 x1_0 x1_1 g1 _ _ z2 hC2 hl2 g2).mono fun e W' ⟨he, bel⟩ => ?_
  subst he
  exact ⟨_, rfl, _, _, _, [], _, [], hW', trodAll_mk1 (shut_bool Try.underlying4 _), (trodAll_cons_mk (Below.trod laidOut (by kernel_rfl) (of_decide_eq_true (by kernel_rfl)) k0 bel lt0) (trodAll_cons_mk (Below.trod laidOut (by kernel_rfl) (of_decide_eq_true (by kernel_rfl)) k1 bel lt1) (trodAll_cons_mk (Below.trod laidOut (by kernel_rfl) (of_decide_eq_true (by kernel_rfl)) k2 bel lt2) trodAll_mk0))), rfl, bel.frame _, fun h => by cases h⟩
theorem over : Rows.blockBytesRow.holds Try.pinned (OpenSpec.ofChange Rows.blockBytesSpec) :=
  OpenClaim.holds_of_wide 6 Try.f6 rfl rfl rfl rfl rfl rfl rfl ⟨rfl, rfl, rfl, rfl, rfl⟩ rfl rfl rfl rfl rfl (by kernel_rfl) Try.func6 (by kernel_rfl)
    (of_decide_eq_true (by kernel_rfl)) (by unfold Func.isWrapper; first | (rw [if_pos (by decide +kernel)]; kernel_rfl) | (rw [if_neg (by decide +kernel)]; exact ⟨rfl, rfl⟩))
    (fun os started H enc _ => lifted os started H enc)
theorem proved : Rows.BlockBytesSaid := over
#print axioms proved
end Go.Proofs.Ytpjlhehmobhijaa.blockBytes
namespace Go.Proofs.Ytpjlhehmobhijaa
/-- The row, under a short name, for the claim. -/
theorem blockBytes_holds : Rows.BlockBytesSaid := blockBytes.proved
end Go.Proofs.Ytpjlhehmobhijaa
