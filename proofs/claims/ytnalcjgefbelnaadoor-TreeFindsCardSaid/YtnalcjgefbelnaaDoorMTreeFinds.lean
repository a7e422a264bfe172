/- The law TreeFinds, called with whatever arguments, answers true and leaves each argument as it read; no condition. -/
import Derived.SevenTiedAt
import Derived.Test.YtnalcjgefbelnaaDoorCards
import Derived.Test.YtnalcjgefbelnaaDoorTie
import Derived.Test.YtnalcjgefbelnaaDoorMTreeFinds2
import Derived.Test.YtnalcjgefbelnaaDoorRows
import Derived.Test.YtnalcjgefbelnaaDoorMTreeFinds8
import Derived.WalkKit
import Derived.ProofKit
import Derived.OpenShut
import Derived.ShutString
import Derived.ChangeOld
import Derived.Below
import Derived.SizedLaws
namespace Go.Proofs.YtnalcjgefbelnaaDoor.treeFinds
open Go.ChangeShapes Go.WideShapes Go.ChangeAt Go.RowKit Go.Proofs.YtnalcjgefbelnaaDoor.Q Go.Proofs.YtnalcjgefbelnaaDoorW.PrintWords
open Go.ChangeMaps (open_string shut_string)
set_option linter.unusedVariables false
set_option linter.unusedSimpArgs false
theorem own : ownKnob Tryd.prog.godebug = none := by kernel_rfl
theorem laidOut : laidOutB Tryd.prog = true := by kernel_rfl
def good53 (x : S53) : Prop := x.f0.size ≤ 140737488351232 ∧ (x.f1.length * 1 ≤ 140737488351232 ∧ ∀ a ∈ x.f1, (Lit.int .u8 a).wf = true)
theorem opens_S53 : Opens Tryd.prog 53 k53 good53 := by
 have h := opens_struct (d := (Kd.pair Kd.string (Kd.slice 5 (Kd.int .u8)))) Tryd.underlying53 (by kernel_rfl) (opens_more rfl (by kernel_rfl) (opens_string Tryd.underlying9) (opens_one rfl (by kernel_rfl) (opens_slice Tryd.underlying28 (by kernel_rfl) 1 (by kernel_rfl) (opens_int Tryd.underlying5))))
 exact opens_iso (fun x : S53 => (x.f0, x.f1)) (fun p => ⟨p.1, p.2⟩) (fun _ => rfl) h
def good44 (x : S44) : Prop := x.f0.size ≤ 140737488351232 ∧ (x.f1.length * 4 ≤ 140737488351232 ∧ ∀ a ∈ x.f1, (Lit.int .u32 a).wf = true) ∧ (Lit.int .i64 x.f2).wf = true ∧ (x.f3.length * 40 ≤ 140737488351232 ∧ ∀ a ∈ x.f3, good53 a) ∧ (x.f4.length * 4 ≤ 140737488351232 ∧ ∀ a ∈ x.f4, (Lit.int .u32 a).wf = true)
theorem opens_S44 : Opens Tryd.prog 44 k44 good44 := by
 have h := opens_struct (d := (Kd.pair Kd.string (Kd.pair (Kd.slice 66 (Kd.int .u32)) (Kd.pair (Kd.int .i64) (Kd.pair (Kd.slice 53 k53) (Kd.slice 66 (Kd.int .u32))))))) Tryd.underlying44 (by kernel_rfl) (opens_more rfl (by kernel_rfl) (opens_string Tryd.underlying9) (opens_more rfl (by kernel_rfl) (opens_slice Tryd.underlying31 (by kernel_rfl) 4 (by kernel_rfl) (opens_int Tryd.underlying66)) (opens_more rfl (by kernel_rfl) (opens_int Tryd.underlying3) (opens_more rfl (by kernel_rfl) (opens_slice Tryd.underlying42 (by kernel_rfl) 40 (by kernel_rfl) opens_S53) (opens_one rfl (by kernel_rfl) (opens_slice Tryd.underlying31 (by kernel_rfl) 4 (by kernel_rfl) (opens_int Tryd.underlying66)))))))
 exact opens_iso (fun x : S44 => (x.f0, x.f1, x.f2, x.f3, x.f4)) (fun p => ⟨p.1, p.2.1, p.2.2.1, p.2.2.2.1, p.2.2.2.2⟩) (fun _ => rfl) h
def good49 (x : S49) : Prop := x.f0.size ≤ 140737488351232 ∧ (x.f1.length * 4 ≤ 140737488351232 ∧ ∀ a ∈ x.f1, (Lit.int .u32 a).wf = true) ∧ x.f2.size ≤ 140737488351232
theorem opens_S49 : Opens Tryd.prog 49 k49 good49 := by
 have h := opens_struct (d := (Kd.pair Kd.string (Kd.pair (Kd.slice 66 (Kd.int .u32)) Kd.string))) Tryd.underlying49 (by kernel_rfl) (opens_more rfl (by kernel_rfl) (opens_string Tryd.underlying9) (opens_more rfl (by kernel_rfl) (opens_slice Tryd.underlying31 (by kernel_rfl) 4 (by kernel_rfl) (opens_int Tryd.underlying66)) (opens_one rfl (by kernel_rfl) (opens_string Tryd.underlying9))))
 exact opens_iso (fun x : S49 => (x.f0, x.f1, x.f2)) (fun p => ⟨p.1, p.2.1, p.2.2⟩) (fun _ => rfl) h
set_option maxRecDepth 100000 in
theorem lifted (os : Os) (started : os.Started) (H : Type) (enc : TypeId × Value → H) :
  ReturnsInHanded {} Tryd.checked os 5 .any (fun w args => (Rows.treeFindsSpec.pre enc Tryd.prog Tryd.f5 [] false w args ∧ laidMetH Tryd.prog QB.laidL w) ∧ sizedMet enc Tryd.prog Tryd.f5 (OpenSpec.ofChange Rows.treeFindsSpec) false w args) (Rows.treeFindsSpec.post enc Tryd.prog Tryd.f5 false true false false) := by
 refine returnsInHanded_of_change_and (C := Tryd.checked) (X := fun w _ => laidMetH Tryd.prog QB.laidL w) (fun _ _ _ hh h => h.of_heap hh) own started (by kernel_rfl) Tryd.func5
  (ChangeSpec.witness_shaped (enc := enc) (C := Tryd.checked) (os := os) (X := fun w _ => laidMetH Tryd.prog QB.laidL w) false (World.doorLaid Tryd.prog 24 os) #[.slice none 0 0, .slice none 0 0, .int .i64 0] 8 rfl (World.shaped_of_RefB (by kernel_rfl) (by kernel_rfl)) (by kernel_rfl) (by kernel_rfl) (by kernel_rfl) (QB.door_met os _)) ?_
 intro W base args ds gs before hval0 hW hcnd hsz0 hL _
 have hsz : (DataW.weightsEach Tryd.prog (Tryd.f5.params.toList ++ Rows.treeFindsSpec.plain.varTypes Tryd.prog) (ds ++ gs)).all (· ≤ reachBytes) = true := hsz0
 have hval : ∀ (j : Nat) t v, Tryd.f5.params[j]? = some t → args[j]? = some v → Value.okWide Tryd.prog W .any base t v := hval0
 have hW' := hW
 obtain ⟨p, q, hA0, hV, rfl, hfz, hnd⟩ := hW
 have hA : DataW.TrodAll enc Tryd.prog W 0 (fun _ => true) true Tryd.f5.params.toList args.toList ds p := hA0
 rw [Tryd.params5] at hA hval hsz
 obtain ⟨v0, vs0, d0, ds0, p0, q0, hargs, rfl, rfl, h0, r0⟩ := trodAll_cons hA
 obtain ⟨v1, vs1, d1, ds1, p1, q1, rfl, rfl, rfl, h1, r1⟩ := trodAll_cons r0
 obtain ⟨v2, vs2, d2, ds2, p2, q2, rfl, rfl, rfl, h2, r2⟩ := trodAll_cons r1
 obtain ⟨rfl, rfl, rfl⟩ := trodAll_nil r2
 obtain rfl : args = #[v0, v1, v2] := by cases args; simp_all
 obtain ⟨rfl, rfl⟩ := trodVars_none hV
 have k0 := h0
 have lt0 : ∀ x ∈ p0, x.block < W.heap.size := by obtain ⟨m, hm⟩ := k0; exact DataW.trod_lt m _ _ _ hm
 obtain ⟨a0, len0, cap0, rfl⟩ := okWide_slice Tryd.underlying22 (hval 0 22 v0 rfl rfl)
 obtain ⟨z0, ⟨A0, c0, hcs0, hl0, hC0⟩, g0⟩ : ∃ z, (Kd.slice 44 k44).K W z [.slice a0 len0 cap0] ∧ (z.length * 96 ≤ 140737488351232 ∧ ∀ a ∈ z, good44 a) := by
  obtain ⟨fuel, hf⟩ := h0
  exact (opens_slice Tryd.underlying22 (by kernel_rfl) 96 (by kernel_rfl) opens_S44) H enc W fuel _ _ hf (weights_each hsz (j := 0) (t := 22) rfl rfl)
 simp only [List.cons.injEq, Value.slice.injEq, and_true] at hcs0
 obtain ⟨rfl, rfl, rfl⟩ := hcs0
 have k1 := h1
 have lt1 : ∀ x ∈ p1, x.block < W.heap.size := by obtain ⟨m, hm⟩ := k1; exact DataW.trod_lt m _ _ _ hm
 obtain ⟨a1, len1, cap1, rfl⟩ := okWide_slice Tryd.underlying36 (hval 1 36 v1 rfl rfl)
 obtain ⟨z1, ⟨A1, c1, hcs1, hl1, hC1⟩, g1⟩ : ∃ z, (Kd.slice 49 k49).K W z [.slice a1 len1 cap1] ∧ (z.length * 56 ≤ 140737488351232 ∧ ∀ a ∈ z, good49 a) := by
  obtain ⟨fuel, hf⟩ := h1
  exact (opens_slice Tryd.underlying36 (by kernel_rfl) 56 (by kernel_rfl) opens_S49) H enc W fuel _ _ hf (weights_each hsz (j := 1) (t := 36) rfl rfl)
 simp only [List.cons.injEq, Value.slice.injEq, and_true] at hcs1
 obtain ⟨rfl, rfl, rfl⟩ := hcs1
 obtain ⟨a2, rfl, rfl, rfl, w2⟩ := open_int Tryd.underlying3 (hval 2 3 v2 rfl rfl) h2
 clear hA0 hval0 hsz0 hsz
 refine (Q.treeFinds_row (QB.tabs_of_laid hL) _ _ z0 hC0 hl0 g0 _ _ z1 hC1 hl1 g1 a2 w2).mono fun e W' ⟨he, bel⟩ => ?_
 subst he
 exact ⟨_, rfl, _, _, _, [], _, [], hW', trodAll_mk1 (shut_bool Tryd.underlying4 _), (trodAll_cons_mk (Below.trod laidOut (by kernel_rfl) (of_decide_eq_true (by kernel_rfl)) k0 bel lt0) (trodAll_cons_mk (Below.trod laidOut (by kernel_rfl) (of_decide_eq_true (by kernel_rfl)) k1 bel lt1) (trodAll_cons_mk (shut_int Tryd.underlying3 w2) trodAll_mk0))), rfl, bel.frame _, fun h => by cases h⟩
theorem over : Rows.treeFindsRow.holds Tryd.pinned (OpenSpec.ofChange Rows.treeFindsSpec) :=
 OpenClaim.holds_of_wide 5 Tryd.f5 rfl rfl rfl rfl rfl rfl rfl ⟨rfl, rfl, rfl, rfl, rfl⟩ rfl rfl rfl rfl rfl (by kernel_rfl) Tryd.func5 (by kernel_rfl)
  (of_decide_eq_true (by kernel_rfl)) (by unfold Func.isWrapper; first | (rw [if_pos (by decide +kernel)]; kernel_rfl) | (rw [if_neg (by decide +kernel)]; exact ⟨rfl, rfl⟩))
  (fun os started H enc _ => lifted os started H enc)
theorem proved : Rows.TreeFindsSaid := over
#print axioms proved
end Go.Proofs.YtnalcjgefbelnaaDoor.treeFinds
namespace Go.Proofs.YtnalcjgefbelnaaDoor
/-- The tied card, for the claim. -/
theorem treeFinds_holds : Rows.TreeFindsCardSaid :=
 Claim7.holds_tied_plain_at .later [] [.data, .data, .data] true (true, "985b0ff7bb021169cba39113db63cc890ddc967a55f41fc18c9a34a5296cc34a") false
  treeFinds.proved (fun _ h => by cases h) (by kernel_rfl) (fun _ h => by cases h) treeFinds_row_tie rfl ⟨rfl, rfl⟩ (by kernel_rfl) rfl
  (fun f fn hf hfn => by
   obtain rfl : f = 5 := Option.some.inj ((show Tryd.prog.funcNamed "tinder/tinderlaw08.TreeFinds" = some 5 by kernel_rfl).symm.trans hf) |>.symm
   obtain rfl : fn = Tryd.f5 := (Option.some.inj (Tryd.func5.symm.trans hfn)).symm
   exact ⟨by kernel_rfl, fun j t ht => by
    rw [Tryd.params5] at ht
    have hm : t ∈ [22, 36, 3] := by simpa using Array.mem_of_getElem? ht
    have hall : ([22, 36, 3].all fun u => !Tryd.prog.wantsStandIn u) = true := by kernel_rfl
    exact (show Tryd.prog.wantsStandIn t = false by simpa using List.all_eq_true.1 hall t hm)⟩)
  (by kernel_rfl)
#print axioms treeFinds_holds
end Go.Proofs.YtnalcjgefbelnaaDoor
