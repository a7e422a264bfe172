/- The law BlockRuns, called with whatever arguments, answers true and leaves each argument as it read; no condition. -/
import Derived.Test.YtpjlhehmobhijaaRows
import Derived.Test.YtpjlhehmobhijaaHRunsP
import Derived.Test.YtpjlhehmobhijaaHOpen
import Derived.WalkKit
import Derived.ProofKit
import Derived.OpenShut
import Derived.ShutString
import Derived.ChangeOld
import Derived.Below
import Derived.SizedLaws
namespace Go.Proofs.Ytpjlhehmobhijaa.blockRuns
open Go.ChangeShapes Go.WideShapes Go.ChangeAt Go.RowKit Go.Proofs.Ytpjlhehmobhijaa.Q Go.Proofs.YtpjlhehmobhijaaW.PrintWords
open Go.ChangeMaps (open_string shut_string)
set_option linter.unusedVariables false
set_option linter.unusedSimpArgs false
theorem own : ownKnob Try.prog.godebug = none := by kernel_rfl
theorem laidOut : laidOutB Try.prog = true := by kernel_rfl
def good43 (x : S43) : Prop := (Lit.int .i64 x.f0).wf = true ∧ (x.f1.length * 1 ≤ 140737488351232 ∧ ∀ a ∈ x.f1, (Lit.int .u8 a).wf = true)
theorem opens_S43 : Opens Try.prog 43 k43 good43 := by
  have h := opens_struct (d := (Kd.pair (Kd.int .i64) (Kd.slice 5 (Kd.int .u8)))) Try.underlying43 (by kernel_rfl) (opens_more rfl (by kernel_rfl) (opens_int Try.underlying3) (opens_one rfl (by kernel_rfl) (opens_slice Try.underlying30 (by kernel_rfl) 1 (by kernel_rfl) (opens_int Try.underlying5))))
  exact opens_iso (fun x : S43 => (x.f0, x.f1)) (fun p => ⟨p.1, p.2⟩) (fun _ => rfl) h
set_option maxRecDepth 100000 in
theorem lifted (os : Os) (started : os.Started) (H : Type) (enc : TypeId × Value → H) :
    ReturnsInHanded {} Try.checked os 7 .any (Rows.blockRunsSpec.pre6 enc Try.prog Try.f7 Rows.blockRunsRow.domain false) (Rows.blockRunsSpec.post enc Try.prog Try.f7 false true false false) := by
  refine returnsInHanded_of_change_sized (C := Try.checked) own started (by kernel_rfl) Try.func7
    (ChangeSpec.witness6 (enc := enc) (C := Try.checked) false ⟨#[], #[.int .u8 0, .slice none 0 0, .agg #[.int .i64 0, .int .i64 0]], []⟩ 8 (by kernel_rfl) (by kernel_rfl) (by kernel_rfl) (by kernel_rfl)) ?_
  intro W base args ds gs before hval0 hW hcnd hsz0 _
  have hsz : (DataW.weightsEach Try.prog (Try.f7.params.toList ++ Rows.blockRunsSpec.plain.varTypes Try.prog) (ds ++ gs)).all (· ≤ reachBytes) = true := hsz0
  have hval : ∀ (j : Nat) t v, Try.f7.params[j]? = some t → args[j]? = some v → Value.okWide Try.prog W .any base t v := hval0
  have hW' := hW
  obtain ⟨p, q, hA0, hV, rfl, hfz, hnd⟩ := hW
  have hA : DataW.TrodAll enc Try.prog W 0 (fun _ => true) true Try.f7.params.toList args.toList ds p := hA0
  rw [Try.params7] at hA hval hsz
  obtain ⟨v0, vs0, d0, ds0, p0, q0, hargs, rfl, rfl, h0, r0⟩ := trodAll_cons hA
  obtain ⟨v1, vs1, d1, ds1, p1, q1, rfl, rfl, rfl, h1, r1⟩ := trodAll_cons r0
  obtain ⟨v2, vs2, d2, ds2, p2, q2, rfl, rfl, rfl, h2, r2⟩ := trodAll_cons r1
  obtain ⟨rfl, rfl, rfl⟩ := trodAll_nil r2
  obtain rfl : args = #[v0, v1, v2] := by cases args; simp_all
  obtain ⟨rfl, rfl⟩ := trodVars_none hV
  obtain ⟨a0, rfl, rfl, rfl, w0⟩ := open_int Try.underlying5 (hval 0 5 v0 rfl rfl) h0
  have k1 := h1
  have lt1 : ∀ x ∈ p1, x.block < W.heap.size := by obtain ⟨m, hm⟩ := k1; exact DataW.trod_lt m _ _ _ hm
  obtain ⟨a1, len1, cap1, rfl⟩ := okWide_slice Try.underlying41 (hval 1 41 v1 rfl rfl)
  obtain ⟨z1, ⟨A1, c1, hcs1, hl1, hC1⟩, g1⟩ : ∃ z, (Kd.slice 43 k43).K W z [.slice a1 len1 cap1] ∧ (z.length * 32 ≤ 140737488351232 ∧ ∀ a ∈ z, good43 a) := by
    obtain ⟨fuel, hf⟩ := h1
    exact (opens_slice Try.underlying41 (by kernel_rfl) 32 (by kernel_rfl) opens_S43) H enc W fuel _ _ hf (weights_each hsz (j := 1) (t := 41) rfl rfl)
  simp only [List.cons.injEq, Value.slice.injEq, and_true] at hcs1
  obtain ⟨rfl, rfl, rfl⟩ := hcs1
  have k2 := h2
  have lt2 : ∀ x ∈ p2, x.block < W.heap.size := by obtain ⟨m, hm⟩ := k2; exact DataW.trod_lt m _ _ _ hm
  obtain ⟨cs2, rfl⟩ := okWide_array Try.underlying38 (hval 2 38 v2 rfl rfl)
  obtain ⟨z2, hz2, hr2, g2⟩ : ∃ z : List Int, z.length = 2 ∧ Reps ((Kd.int .i64).K W) (Kd.int .i64).sz z cs2.toList ∧ ∀ a ∈ z, (Lit.int .i64 a).wf = true := by
    obtain ⟨fuel, hf⟩ := h2
    exact opens_array Try.underlying38 (by kernel_rfl) (by kernel_rfl) (opens_int Try.underlying3) enc W fuel _ _ hf (weights_each hsz (j := 2) (t := 38) rfl rfl)
  have hcs2 := reps_scalar (enc := Value.int .i64) (fun _ _ h => h) hr2
  obtain ⟨x2_0, x2_1, rfl⟩ : ∃ x2_0 x2_1, z2 = [x2_0, x2_1] := by
    match z2, hz2 with
    | [x2_0, x2_1], _ => exact ⟨x2_0, x2_1, rfl⟩
  obtain rfl : cs2 = #[.int .i64 x2_0, .int .i64 x2_1] := Array.ext' hcs2
  clear hA0 hval0 hsz0 hsz
  refine (Q.blockRuns_row a0 w0 _ _ z1 hC1 hl1 g1 x2_0 x2_1 g2).mono fun e W' ⟨he, bel⟩ => ?_
  subst he
  exact ⟨_, rfl, _, _, _, [], _, [], hW', trodAll_mk1 (shut_bool Try.underlying4 _), (trodAll_cons_mk (shut_int Try.underlying5 w0) (trodAll_cons_mk (Below.trod laidOut (by kernel_rfl) (of_decide_eq_true (by kernel_rfl)) k1 bel lt1) (trodAll_cons_mk (Below.trod laidOut (by kernel_rfl) (of_decide_eq_true (by kernel_rfl)) k2 bel lt2) trodAll_mk0))), rfl, bel.frame _, fun h => by cases h⟩
theorem over : Rows.blockRunsRow.holds Try.pinned (OpenSpec.ofChange Rows.blockRunsSpec) :=
  OpenClaim.holds_of_wide 7 Try.f7 rfl rfl rfl rfl rfl rfl rfl ⟨rfl, rfl, rfl, rfl, rfl⟩ rfl rfl rfl rfl rfl (by kernel_rfl) Try.func7 (by kernel_rfl)
    (of_decide_eq_true (by kernel_rfl)) (by unfold Func.isWrapper; first | (rw [if_pos (by decide +kernel)]; kernel_rfl) | (rw [if_neg (by decide +kernel)]; exact ⟨rfl, rfl⟩))
    (fun os started H enc _ => lifted os started H enc)
theorem proved : Rows.BlockRunsSaid := over
#print axioms proved
end Go.Proofs.Ytpjlhehmobhijaa.blockRuns
namespace Go.Proofs.Ytpjlhehmobhijaa
/-- The row, under a short name, for the claim. -/
theorem blockRuns_holds : Rows.BlockRunsSaid := blockRuns.proved
end Go.Proofs.Ytpjlhehmobhijaa
