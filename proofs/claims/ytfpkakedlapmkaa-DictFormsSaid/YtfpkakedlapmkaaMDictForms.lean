/- The law DictForms, called with whatever arguments, answers true and leaves each argument as it read; no condition. -/
import Derived.Test.YtfpkakedlapmkaaRows
import Derived.Test.YtfpkakedlapmkaaMDictForms9
import Derived.WalkKit
import Derived.ProofKit
import Derived.OpenShut
import Derived.ShutString
import Derived.ChangeOld
import Derived.Below
import Derived.SizedLaws
namespace Go.Proofs.Ytfpkakedlapmkaa.dictForms
open Go.ChangeShapes Go.WideShapes Go.ChangeAt Go.RowKit Go.Proofs.Ytfpkakedlapmkaa.Q Go.Proofs.YtfpkakedlapmkaaW.PrintWords
open Go.ChangeMaps (open_string shut_string)
set_option linter.unusedVariables false
set_option linter.unusedSimpArgs false
theorem own : ownKnob Try.prog.godebug = none := by kernel_rfl
theorem laidOut : laidOutB Try.prog = true := by kernel_rfl
def good69 (x : S69) : Prop := (Lit.int .i64 x.f0).wf = true ∧ (Lit.int .u32 x.f1).wf = true
theorem opens_S69 : Opens Try.prog 69 k69 good69 := by
 have h := opens_struct (d := (Kd.pair (Kd.int .i64) (Kd.int .u32))) Try.underlying69 (by kernel_rfl) (opens_more rfl (by kernel_rfl) (opens_int Try.underlying3) (opens_one rfl (by kernel_rfl) (opens_int Try.underlying28)))
 exact opens_iso (fun x : S69 => (x.f0, x.f1)) (fun p => ⟨p.1, p.2⟩) (fun _ => rfl) h
def good51 (x : S51) : Prop := x.f0.size ≤ 140737488351232 ∧ (Lit.int .i64 x.f1).wf = true ∧ (Lit.int .i64 x.f2).wf = true ∧ (Lit.int .u32 x.f3).wf = true ∧ (x.f4.length * 16 ≤ 140737488351232 ∧ ∀ a ∈ x.f4, good69 a)
theorem opens_S51 : Opens Try.prog 51 k51 good51 := by
 have h := opens_struct (d := (Kd.pair Kd.string (Kd.pair (Kd.int .i64) (Kd.pair (Kd.int .i64) (Kd.pair (Kd.int .u32) (Kd.slice 69 k69)))))) Try.underlying51 (by kernel_rfl) (opens_more rfl (by kernel_rfl) (opens_string Try.underlying9) (opens_more rfl (by kernel_rfl) (opens_int Try.underlying3) (opens_more rfl (by kernel_rfl) (opens_int Try.underlying3) (opens_more rfl (by kernel_rfl) (opens_int Try.underlying28) (opens_one rfl (by kernel_rfl) (opens_slice Try.underlying43 (by kernel_rfl) 16 (by kernel_rfl) opens_S69))))))
 exact opens_iso (fun x : S51 => (x.f0, x.f1, x.f2, x.f3, x.f4)) (fun p => ⟨p.1, p.2.1, p.2.2.1, p.2.2.2.1, p.2.2.2.2⟩) (fun _ => rfl) h
def good106 (x : S106) : Prop := x.f0.size ≤ 140737488351232 ∧ (x.f1.length * 1 ≤ 140737488351232 ∧ ∀ a ∈ x.f1, (Lit.int .u8 a).wf = true)
theorem opens_S106 : Opens Try.prog 106 k106 good106 := by
 have h := opens_struct (d := (Kd.pair Kd.string (Kd.slice 5 (Kd.int .u8)))) Try.underlying106 (by kernel_rfl) (opens_more rfl (by kernel_rfl) (opens_string Try.underlying9) (opens_one rfl (by kernel_rfl) (opens_slice Try.underlying25 (by kernel_rfl) 1 (by kernel_rfl) (opens_int Try.underlying5))))
 exact opens_iso (fun x : S106 => (x.f0, x.f1)) (fun p => ⟨p.1, p.2⟩) (fun _ => rfl) h
def good91 (x : S91) : Prop := x.f0.size ≤ 140737488351232 ∧ (x.f1.length * 4 ≤ 140737488351232 ∧ ∀ a ∈ x.f1, (Lit.int .u32 a).wf = true) ∧ (Lit.int .i64 x.f2).wf = true ∧ (x.f3.length * 40 ≤ 140737488351232 ∧ ∀ a ∈ x.f3, good106 a) ∧ (x.f4.length * 4 ≤ 140737488351232 ∧ ∀ a ∈ x.f4, (Lit.int .u32 a).wf = true)
theorem opens_S91 : Opens Try.prog 91 k91 good91 := by
 have h := opens_struct (d := (Kd.pair Kd.string (Kd.pair (Kd.slice 28 (Kd.int .u32)) (Kd.pair (Kd.int .i64) (Kd.pair (Kd.slice 106 k106) (Kd.slice 28 (Kd.int .u32))))))) Try.underlying91 (by kernel_rfl) (opens_more rfl (by kernel_rfl) (opens_string Try.underlying9) (opens_more rfl (by kernel_rfl) (opens_slice Try.underlying24 (by kernel_rfl) 4 (by kernel_rfl) (opens_int Try.underlying28)) (opens_more rfl (by kernel_rfl) (opens_int Try.underlying3) (opens_more rfl (by kernel_rfl) (opens_slice Try.underlying89 (by kernel_rfl) 40 (by kernel_rfl) opens_S106) (opens_one rfl (by kernel_rfl) (opens_slice Try.underlying24 (by kernel_rfl) 4 (by kernel_rfl) (opens_int Try.underlying28)))))))
 exact opens_iso (fun x : S91 => (x.f0, x.f1, x.f2, x.f3, x.f4)) (fun p => ⟨p.1, p.2.1, p.2.2.1, p.2.2.2.1, p.2.2.2.2⟩) (fun _ => rfl) h
def good82 (x : S82) : Prop := (Lit.int .i64 x.f0).wf = true ∧ (Lit.int .i64 x.f1).wf = true ∧ x.f2.size ≤ 140737488351232 ∧ (x.f3.length * 4 ≤ 140737488351232 ∧ ∀ a ∈ x.f3, (Lit.int .u32 a).wf = true)
theorem opens_S82 : Opens Try.prog 82 k82 good82 := by
 have h := opens_struct (d := (Kd.pair (Kd.int .i64) (Kd.pair (Kd.int .i64) (Kd.pair Kd.string (Kd.slice 28 (Kd.int .u32)))))) Try.underlying82 (by kernel_rfl) (opens_more rfl (by kernel_rfl) (opens_int Try.underlying3) (opens_more rfl (by kernel_rfl) (opens_int Try.underlying3) (opens_more rfl (by kernel_rfl) (opens_string Try.underlying9) (opens_one rfl (by kernel_rfl) (opens_slice Try.underlying24 (by kernel_rfl) 4 (by kernel_rfl) (opens_int Try.underlying28))))))
 exact opens_iso (fun x : S82 => (x.f0, x.f1, x.f2, x.f3)) (fun p => ⟨p.1, p.2.1, p.2.2.1, p.2.2.2⟩) (fun _ => rfl) h
def good32 (x : S32) : Prop := (x.f0.length * 4 ≤ 140737488351232 ∧ ∀ a ∈ x.f0, (Lit.int .u32 a).wf = true) ∧ (x.f1.length * 1 ≤ 140737488351232 ∧ ∀ a ∈ x.f1, (Lit.int .u8 a).wf = true) ∧ (x.f2.length * 64 ≤ 140737488351232 ∧ ∀ a ∈ x.f2, good51 a) ∧ (x.f3.length * 8 ≤ 140737488351232 ∧ ∀ a ∈ x.f3, (Lit.int .i64 a).wf = true) ∧ (Lit.int .u32 x.f4).wf = true ∧ (x.f5.length * 96 ≤ 140737488351232 ∧ ∀ a ∈ x.f5, good91 a) ∧ (Lit.int .i64 x.f6).wf = true ∧ (x.f7.length * 56 ≤ 140737488351232 ∧ ∀ a ∈ x.f7, good82 a) ∧ (Lit.int .i64 x.f8).wf = true ∧ x.f9.size ≤ 140737488351232
theorem opens_S32 : Opens Try.prog 32 k32 good32 := by
 have h := opens_struct (d := (Kd.pair (Kd.slice 28 (Kd.int .u32)) (Kd.pair (Kd.slice 5 (Kd.int .u8)) (Kd.pair (Kd.slice 51 k51) (Kd.pair (Kd.slice 3 (Kd.int .i64)) (Kd.pair (Kd.int .u32) (Kd.pair (Kd.slice 91 k91) (Kd.pair (Kd.int .i64) (Kd.pair (Kd.slice 82 k82) (Kd.pair (Kd.int .i64) Kd.string)))))))))) Try.underlying32 (by kernel_rfl) (opens_more rfl (by kernel_rfl) (opens_slice Try.underlying24 (by kernel_rfl) 4 (by kernel_rfl) (opens_int Try.underlying28)) (opens_more rfl (by kernel_rfl) (opens_slice Try.underlying25 (by kernel_rfl) 1 (by kernel_rfl) (opens_int Try.underlying5)) (opens_more rfl (by kernel_rfl) (opens_slice Try.underlying26 (by kernel_rfl) 64 (by kernel_rfl) opens_S51) (opens_more rfl (by kernel_rfl) (opens_slice Try.underlying27 (by kernel_rfl) 8 (by kernel_rfl) (opens_int Try.underlying3)) (opens_more rfl (by kernel_rfl) (opens_int Try.underlying28) (opens_more rfl (by kernel_rfl) (opens_slice Try.underlying29 (by kernel_rfl) 96 (by kernel_rfl) opens_S91) (opens_more rfl (by kernel_rfl) (opens_int Try.underlying3) (opens_more rfl (by kernel_rfl) (opens_slice Try.underlying30 (by kernel_rfl) 56 (by kernel_rfl) opens_S82) (opens_more rfl (by kernel_rfl) (opens_int Try.underlying3) (opens_one rfl (by kernel_rfl) (opens_string Try.underlying9)))))))))))
 exact opens_iso (fun x : S32 => (x.f0, x.f1, x.f2, x.f3, x.f4, x.f5, x.f6, x.f7, x.f8, x.f9)) (fun p => ⟨p.1, p.2.1, p.2.2.1, p.2.2.2.1, p.2.2.2.2.1, p.2.2.2.2.2.1, p.2.2.2.2.2.2.1, p.2.2.2.2.2.2.2.1, p.2.2.2.2.2.2.2.2.1, p.2.2.2.2.2.2.2.2.2⟩) (fun _ => rfl) h
set_option maxRecDepth 100000 in
theorem lifted (os : Os) (started : os.Started) (H : Type) (enc : TypeId × Value → H) :
  ReturnsInHanded {} Try.checked os 6 .any (Rows.dictFormsSpec.pre6 enc Try.prog Try.f6 Rows.dictFormsRow.domain false) (Rows.dictFormsSpec.post enc Try.prog Try.f6 false true false false) := by
 refine returnsInHanded_of_change_sized (C := Try.checked) own started (by kernel_rfl) Try.func6
  (ChangeSpec.witness6 (enc := enc) (C := Try.checked) false ⟨#[], #[.agg #[.slice none 0 0, .slice none 0 0, .slice none 0 0, .slice none 0 0, .int .u32 0, .slice none 0 0, .int .i64 0, .slice none 0 0, .int .i64 0, .string ByteArray.empty]], []⟩ 8 (by kernel_rfl) (by kernel_rfl) (by kernel_rfl) (by kernel_rfl)) ?_
 intro W base args ds gs before hval0 hW hcnd hsz0 _
 have hsz : (DataW.weightsEach Try.prog (Try.f6.params.toList ++ Rows.dictFormsSpec.plain.varTypes Try.prog) (ds ++ gs)).all (· ≤ reachBytes) = true := hsz0
 have hval : ∀ (j : Nat) t v, Try.f6.params[j]? = some t → args[j]? = some v → Value.okWide Try.prog W .any base t v := hval0
 have hW' := hW
 obtain ⟨p, q, hA0, hV, rfl, hfz, hnd⟩ := hW
 have hA : DataW.TrodAll enc Try.prog W 0 (fun _ => true) true Try.f6.params.toList args.toList ds p := hA0
 rw [Try.params6] at hA hval hsz
 obtain ⟨v0, vs0, d0, ds0, p0, q0, hargs, rfl, rfl, h0, r0⟩ := trodAll_cons hA
 obtain ⟨rfl, rfl, rfl⟩ := trodAll_nil r0
 obtain rfl : args = #[v0] := by cases args; simp_all
 obtain ⟨rfl, rfl⟩ := trodVars_none hV
 have k0 := h0
 have lt0 : ∀ x ∈ p0, x.block < W.heap.size := by obtain ⟨m, hm⟩ := k0; exact DataW.trod_lt m _ _ _ hm
 obtain ⟨cs0, rfl, _⟩ := okWide_struct Try.underlying32 (hval 0 32 v0 rfl rfl)
 obtain ⟨z0, hz0, g0⟩ : ∃ z : S32, k32.K W z cs0.toList ∧ good32 z := by
  obtain ⟨fuel, hf⟩ := h0
  exact opens_S32 H enc W fuel _ _ hf (weights_each hsz (j := 0) (t := 32) rfl rfl)
 clear hA0 hval0 hsz0 hsz
 refine (Q.dictForms_rowT cs0 z0 hz0 g0).mono fun e W' ⟨he, bel⟩ => ?_
 subst he
 exact ⟨_, rfl, _, _, _, [], _, [], hW', trodAll_mk1 (shut_bool Try.underlying4 _), (trodAll_cons_mk (Below.trod laidOut (by kernel_rfl) (of_decide_eq_true (by kernel_rfl)) k0 bel lt0) trodAll_mk0), rfl, bel.frame _, fun h => by cases h⟩
theorem over : Rows.dictFormsRow.holds Try.pinned (OpenSpec.ofChange Rows.dictFormsSpec) :=
 OpenClaim.holds_of_wide 6 Try.f6 rfl rfl rfl rfl rfl rfl rfl ⟨rfl, rfl, rfl, rfl, rfl⟩ rfl rfl rfl rfl rfl (by kernel_rfl) Try.func6 (by kernel_rfl)
  (of_decide_eq_true (by kernel_rfl)) (by unfold Func.isWrapper; first | (rw [if_pos (by decide +kernel)]; kernel_rfl) | (rw [if_neg (by decide +kernel)]; exact ⟨rfl, rfl⟩))
  (fun os started H enc _ => lifted os started H enc)
theorem proved : Rows.DictFormsSaid := over
#print axioms proved
end Go.Proofs.Ytfpkakedlapmkaa.dictForms
namespace Go.Proofs.Ytfpkakedlapmkaa
/-- The row, under a short name, for the claim. -/
theorem dictForms_holds : Rows.DictFormsSaid := dictForms.proved
end Go.Proofs.Ytfpkakedlapmkaa
