/- The law LabelApart, called with whatever arguments, answers true and leaves each argument as it read; no condition. -/
import Derived.Test.YtnbomjfpnpmllaaRows
import Derived.Test.YtnbomjfpnpmllaaMApart5
import Derived.WalkKit
import Derived.ProofKit
import Derived.OpenShut
import Derived.ShutString
import Derived.ChangeOld
import Derived.Below
import Derived.SizedLaws
namespace Go.Proofs.Ytnbomjfpnpmllaa.labelApart
open Go.ChangeShapes Go.WideShapes Go.ChangeAt Go.RowKit Go.Proofs.Ytnbomjfpnpmllaa.Q Go.Proofs.YtnbomjfpnpmllaaW.PrintWords
open Go.ChangeMaps (open_string shut_string)
set_option linter.unusedVariables false
set_option linter.unusedSimpArgs false
theorem own : ownKnob Try.prog.godebug = none := by kernel_rfl
theorem laidOut : laidOutB Try.prog = true := by kernel_rfl
def good41 (x : S41) : Prop := x.f0.size ≤ 140737488351232 ∧ (Lit.int .i64 x.f1).wf = true ∧ (Lit.int .i64 x.f2).wf = true
theorem opens_S41 : Opens Try.prog 41 k41 good41 := by
  have h := opens_struct (d := (Kd.pair Kd.string (Kd.pair (Kd.int .i64) (Kd.int .i64)))) Try.underlying41 (by kernel_rfl) (opens_more rfl (by kernel_rfl) (opens_string Try.underlying9) (opens_more rfl (by kernel_rfl) (opens_int Try.underlying3) (opens_one rfl (by kernel_rfl) (opens_int Try.underlying3))))
  exact opens_iso (fun x : S41 => (x.f0, x.f1, x.f2)) (fun p => ⟨p.1, p.2.1, p.2.2⟩) (fun _ => rfl) h
set_option maxRecDepth 100000 in
theorem lifted (os : Os) (started : os.Started) (H : Type) (enc : TypeId × Value → H) :
    ReturnsInHanded {} Try.checked os 8 .any (Rows.labelApartSpec.pre6 enc Try.prog Try.f8 Rows.labelApartRow.domain false) (Rows.labelApartSpec.post enc Try.prog Try.f8 false true false false) := by
  refine returnsInHanded_of_change_sized (C := Try.checked) own started (by kernel_rfl) Try.func8
    (ChangeSpec.witness6 (enc := enc) (C := Try.checked) false ⟨#[], #[.slice none 0 0, .agg #[.string ByteArray.empty, .int .i64 0, .int .i64 0, .string ByteArray.empty, .int .i64 0, .int .i64 0], .slice none 0 0], []⟩ 8 (by kernel_rfl) (by kernel_rfl) (by kernel_rfl) (by kernel_rfl)) ?_
  intro W base args ds gs before hval0 hW hcnd hsz0 _
  have hsz : (DataW.weightsEach Try.prog (Try.f8.params.toList ++ Rows.labelApartSpec.plain.varTypes Try.prog) (ds ++ gs)).all (· ≤ reachBytes) = true := hsz0
  have hval : ∀ (j : Nat) t v, Try.f8.params[j]? = some t → args[j]? = some v → Value.okWide Try.prog W .any base t v := hval0
  have hW' := hW
  obtain ⟨p, q, hA0, hV, rfl, hfz, hnd⟩ := hW
  have hA : DataW.TrodAll enc Try.prog W 0 (fun _ => true) true Try.f8.params.toList args.toList ds p := hA0
  rw [Try.params8] at hA hval hsz
  obtain ⟨v0, vs0, d0, ds0, p0, q0, hargs, rfl, rfl, h0, r0⟩ := trodAll_cons hA
  obtain ⟨v1, vs1, d1, ds1, p1, q1, rfl, rfl, rfl, h1, r1⟩ := trodAll_cons r0
  obtain ⟨v2, vs2, d2, ds2, p2, q2, rfl, rfl, rfl, h2, r2⟩ := trodAll_cons r1
  obtain ⟨rfl, rfl, rfl⟩ := trodAll_nil r2
  obtain rfl : args = #[v0, v1, v2] := by cases args; simp_all
  obtain ⟨rfl, rfl⟩ := trodVars_none hV
  have k0 := h0
  have lt0 : ∀ x ∈ p0, x.block < W.heap.size := by obtain ⟨m, hm⟩ := k0; exact DataW.trod_lt m _ _ _ hm
  obtain ⟨a0, len0, cap0, rfl⟩ := okWide_slice Try.underlying27 (hval 0 27 v0 rfl rfl)
  obtain ⟨z0, ⟨A0, c0, hcs0, hl0, hC0⟩, g0⟩ : ∃ z, (Kd.slice 5 (Kd.int .u8)).K W z [.slice a0 len0 cap0] ∧ (z.length * 1 ≤ 140737488351232 ∧ ∀ a ∈ z, (Lit.int .u8 a).wf = true) := by
    obtain ⟨fuel, hf⟩ := h0
    exact (opens_slice Try.underlying27 (by kernel_rfl) 1 (by kernel_rfl) (opens_int Try.underlying5)) H enc W fuel _ _ hf (weights_each hsz (j := 0) (t := 27) rfl rfl)
  simp only [List.cons.injEq, Value.slice.injEq, and_true] at hcs0
  obtain ⟨rfl, rfl, rfl⟩ := hcs0
  have k1 := h1
  have lt1 : ∀ x ∈ p1, x.block < W.heap.size := by obtain ⟨m, hm⟩ := k1; exact DataW.trod_lt m _ _ _ hm
  obtain ⟨cs1, rfl⟩ := okWide_array Try.underlying49 (hval 1 49 v1 rfl rfl)
  obtain ⟨z1, hz1, hr1, g1⟩ : ∃ z : List S41, z.length = 2 ∧ Reps (k41.K W) k41.sz z cs1.toList ∧ ∀ a ∈ z, good41 a := by
    obtain ⟨fuel, hf⟩ := h1
    exact opens_array Try.underlying49 (by kernel_rfl) (by kernel_rfl) opens_S41 enc W fuel _ _ hf (weights_each hsz (j := 1) (t := 49) rfl rfl)
  have k2 := h2
  have lt2 : ∀ x ∈ p2, x.block < W.heap.size := by obtain ⟨m, hm⟩ := k2; exact DataW.trod_lt m _ _ _ hm
  obtain ⟨a2, len2, cap2, rfl⟩ := okWide_slice Try.underlying27 (hval 2 27 v2 rfl rfl)
  obtain ⟨z2, ⟨A2, c2, hcs2, hl2, hC2⟩, g2⟩ : ∃ z, (Kd.slice 5 (Kd.int .u8)).K W z [.slice a2 len2 cap2] ∧ (z.length * 1 ≤ 140737488351232 ∧ ∀ a ∈ z, (Lit.int .u8 a).wf = true) := by
    obtain ⟨fuel, hf⟩ := h2
    exact (opens_slice Try.underlying27 (by kernel_rfl) 1 (by kernel_rfl) (opens_int Try.underlying5)) H enc W fuel _ _ hf (weights_each hsz (j := 2) (t := 27) rfl rfl)
  simp only [List.cons.injEq, Value.slice.injEq, and_true] at hcs2
  obtain ⟨rfl, rfl, rfl⟩ := hcs2
  clear hA0 hval0 hsz0 hsz
  refine (Q.labelApart_row _ _ z0 hC0 hl0 g0 cs1 z1 hz1 hr1 g1 _ _ z2 hC2 hl2 g2).mono fun e W' ⟨he, bel⟩ => ?_
  subst he
  exact ⟨_, rfl, _, _, _, [], _, [], hW', trodAll_mk1 (shut_bool Try.underlying4 _), (trodAll_cons_mk (Below.trod laidOut (by kernel_rfl) (of_decide_eq_true (by kernel_rfl)) k0 bel lt0) (trodAll_cons_mk (Below.trod laidOut (by kernel_rfl) (of_decide_eq_true (by kernel_rfl)) k1 bel lt1) (trodAll_cons_mk (Below.trod laidOut (by kernel_rfl) (of_decide_eq_true (by kernel_rfl)) k2 bel lt2) trodAll_mk0))), rfl, bel.frame _, fun h => by cases h⟩
theorem over : Rows.labelApartRow.holds Try.pinned (OpenSpec.ofChange Rows.labelApartSpec) :=
  OpenClaim.holds_of_wide 8 Try.f8 rfl rfl rfl rfl rfl rfl rfl ⟨rfl, rfl, rfl, rfl, rfl⟩ rfl rfl rfl rfl rfl (by kernel_rfl) Try.func8 (by kernel_rfl)
    (of_decide_eq_true (by kernel_rfl)) (by unfold Func.isWrapper; first | (rw [if_pos (by decide +kernel)]; kernel_rfl) | (rw [if_neg (by decide +kernel)]; exact ⟨rfl, rfl⟩))
    (fun os started H enc _ => lifted os started H enc)
theorem proved : Rows.LabelApartSaid := over
#print axioms proved
end Go.Proofs.Ytnbomjfpnpmllaa.labelApart
namespace Go.Proofs.Ytnbomjfpnpmllaa
/-- The row, under a short name, for the claim. -/
theorem labelApart_holds : Rows.LabelApartSaid := labelApart.proved
end Go.Proofs.Ytnbomjfpnpmllaa
