/- The law TreeSets, called with whatever arguments, answers true and leaves each argument as it read; no condition. -/
import Derived.SevenTiedAt
import Derived.Test.YtnalcjgefbelnaaDoorCards
import Derived.Test.YtnalcjgefbelnaaDoorTie
import Derived.Test.YtnalcjgefbelnaaDoorMTreeSets2
import Derived.Test.YtnalcjgefbelnaaDoorRows
import Derived.Test.YtnalcjgefbelnaaDoorMTreeSets9
import Derived.WalkKit
import Derived.ProofKit
import Derived.OpenShut
import Derived.ShutString
import Derived.ChangeOld
import Derived.Below
import Derived.SizedLaws
namespace Go.Proofs.YtnalcjgefbelnaaDoor.treeSets
open Go.ChangeShapes Go.WideShapes Go.ChangeAt Go.RowKit Go.Proofs.YtnalcjgefbelnaaDoor.Q Go.Proofs.YtnalcjgefbelnaaDoorW.PrintWords
open Go.ChangeMaps (open_string shut_string)
set_option linter.unusedVariables false
set_option linter.unusedSimpArgs false
theorem own : ownKnob Tryd.prog.godebug = none := by kernel_rfl
theorem laidOut : laidOutB Tryd.prog = true := by kernel_rfl
def good53 (x : S53) : Prop := x.f0.size ≤ 140737488351232 ∧ (x.f1.length * 1 ≤ 140737488351232 ∧ ∀ a ∈ x.f1, (Lit.int .u8 a).wf = true)
theorem opens_S53 : Opens Tryd.prog 53 k53 good53 := by
 have h := opens_struct (d := (Kd.pair Kd.string (Kd.slice 5 (Kd.int .u8)))) Tryd.underlying53 (by kernel_rfl) (opens_more rfl (by kernel_rfl) (opens_string Tryd.underlying9) (opens_one rfl (by kernel_rfl) (opens_slice Tryd.underlying28 (by kernel_rfl) 1 (by kernel_rfl) (opens_int Tryd.underlying5))))
 exact opens_iso (fun x : S53 => (x.f0, x.f1)) (fun p => ⟨p.1, p.2⟩) (fun _ => rfl) h
def good44 (x : S44) : Prop := x.f0.size ≤ 140737488351232 ∧ (x.f1.length * 4 ≤ 140737488351232 ∧ ∀ a ∈ x.f1, (Lit.int .u32 a).wf = true) ∧ (Lit.int .i64 x.f2).wf = true ∧ (x.f3.length * 40 ≤ 140737488351232 ∧ ∀ a ∈ x.f3, good53 a) ∧ (x.f4.length * 4 ≤ 140737488351232 ∧ ∀ a ∈ x.f4, (Lit.int .u32 a).wf = true)
theorem opens_S44 : Opens Tryd.prog 44 k44 good44 := by
 have h := opens_struct (d := (Kd.pair Kd.string (Kd.pair (Kd.slice 66 (Kd.int .u32)) (Kd.pair (Kd.int .i64) (Kd.pair (Kd.slice 53 k53) (Kd.slice 66 (Kd.int .u32))))))) Tryd.underlying44 (by kernel_rfl) (opens_more rfl (by kernel_rfl) (opens_string Tryd.underlying9) (opens_more rfl (by kernel_rfl) (opens_slice Tryd.underlying31 (by kernel_rfl) 4 (by kernel_rfl) (opens_int Tryd.underlying66)) (opens_more rfl (by kernel_rfl) (opens_int Tryd.underlying3) (opens_more rfl (by kernel_rfl) (opens_slice Tryd.underlying42 (by kernel_rfl) 40 (by kernel_rfl) opens_S53) (opens_one rfl (by kernel_rfl) (opens_slice Tryd.underlying31 (by kernel_rfl) 4 (by kernel_rfl) (opens_int Tryd.underlying66)))))))
 exact opens_iso (fun x : S44 => (x.f0, x.f1, x.f2, x.f3, x.f4)) (fun p => ⟨p.1, p.2.1, p.2.2.1, p.2.2.2.1, p.2.2.2.2⟩) (fun _ => rfl) h
def good30 (x : S30) : Prop := (x.f0.length * 96 ≤ 140737488351232 ∧ ∀ a ∈ x.f0, good44 a) ∧ (Lit.int .i64 x.f1).wf = true ∧ x.f2.size ≤ 140737488351232 ∧ (x.f3.length * 1 ≤ 140737488351232 ∧ ∀ a ∈ x.f3, (Lit.int .u8 a).wf = true)
theorem opens_S30 : Opens Tryd.prog 30 k30 good30 := by
 have h := opens_struct (d := (Kd.pair (Kd.slice 44 k44) (Kd.pair (Kd.int .i64) (Kd.pair Kd.string (Kd.slice 5 (Kd.int .u8)))))) Tryd.underlying30 (by kernel_rfl) (opens_more rfl (by kernel_rfl) (opens_slice Tryd.underlying22 (by kernel_rfl) 96 (by kernel_rfl) opens_S44) (opens_more rfl (by kernel_rfl) (opens_int Tryd.underlying3) (opens_more rfl (by kernel_rfl) (opens_string Tryd.underlying9) (opens_one rfl (by kernel_rfl) (opens_slice Tryd.underlying28 (by kernel_rfl) 1 (by kernel_rfl) (opens_int Tryd.underlying5))))))
 exact opens_iso (fun x : S30 => (x.f0, x.f1, x.f2, x.f3)) (fun p => ⟨p.1, p.2.1, p.2.2.1, p.2.2.2⟩) (fun _ => rfl) h
set_option maxRecDepth 100000 in
theorem lifted (os : Os) (started : os.Started) (H : Type) (enc : TypeId × Value → H) :
  ReturnsInHanded {} Tryd.checked os 9 .any (fun w args => (Rows.treeSetsSpec.pre enc Tryd.prog Tryd.f9 [] false w args ∧ laidMetH Tryd.prog QB.laidL w) ∧ sizedMet enc Tryd.prog Tryd.f9 (OpenSpec.ofChange Rows.treeSetsSpec) false w args) (Rows.treeSetsSpec.post enc Tryd.prog Tryd.f9 false true false false) := by
 refine returnsInHanded_of_change_and (C := Tryd.checked) (X := fun w _ => laidMetH Tryd.prog QB.laidL w) (fun _ _ _ hh h => h.of_heap hh) own started (by kernel_rfl) Tryd.func9
  (ChangeSpec.witness_shaped (enc := enc) (C := Tryd.checked) (os := os) (X := fun w _ => laidMetH Tryd.prog QB.laidL w) false (World.doorLaid Tryd.prog 24 os) #[.agg #[.slice none 0 0, .int .i64 0, .string ByteArray.empty, .slice none 0 0]] 8 rfl (World.shaped_of_RefB (by kernel_rfl) (by kernel_rfl)) (by kernel_rfl) (by kernel_rfl) (by kernel_rfl) (QB.door_met os _)) ?_
 intro W base args ds gs before hval0 hW hcnd hsz0 hL _
 have hsz : (DataW.weightsEach Tryd.prog (Tryd.f9.params.toList ++ Rows.treeSetsSpec.plain.varTypes Tryd.prog) (ds ++ gs)).all (· ≤ reachBytes) = true := hsz0
 have hval : ∀ (j : Nat) t v, Tryd.f9.params[j]? = some t → args[j]? = some v → Value.okWide Tryd.prog W .any base t v := hval0
 have hW' := hW
 obtain ⟨p, q, hA0, hV, rfl, hfz, hnd⟩ := hW
 have hA : DataW.TrodAll enc Tryd.prog W 0 (fun _ => true) true Tryd.f9.params.toList args.toList ds p := hA0
 rw [Tryd.params9] at hA hval hsz
 obtain ⟨v0, vs0, d0, ds0, p0, q0, hargs, rfl, rfl, h0, r0⟩ := trodAll_cons hA
 obtain ⟨rfl, rfl, rfl⟩ := trodAll_nil r0
 obtain rfl : args = #[v0] := by cases args; simp_all
 obtain ⟨rfl, rfl⟩ := trodVars_none hV
 have k0 := h0
 have lt0 : ∀ x ∈ p0, x.block < W.heap.size := by obtain ⟨m, hm⟩ := k0; exact DataW.trod_lt m _ _ _ hm
 obtain ⟨cs0, rfl, _⟩ := okWide_struct Tryd.underlying30 (hval 0 30 v0 rfl rfl)
 obtain ⟨z0, hz0, g0⟩ : ∃ z : S30, k30.K W z cs0.toList ∧ good30 z := by
  obtain ⟨fuel, hf⟩ := h0
  exact opens_S30 H enc W fuel _ _ hf (weights_each hsz (j := 0) (t := 30) rfl rfl)
 clear hA0 hval0 hsz0 hsz
 refine (Q.treeSets_row (QB.tabs_of_laid hL) cs0 z0 hz0 g0).mono fun e W' ⟨he, bel⟩ => ?_
 subst he
 exact ⟨_, rfl, _, _, _, [], _, [], hW', trodAll_mk1 (shut_bool Tryd.underlying4 _), (trodAll_cons_mk (Below.trod laidOut (by kernel_rfl) (of_decide_eq_true (by kernel_rfl)) k0 bel lt0) trodAll_mk0), rfl, bel.frame _, fun h => by cases h⟩
theorem over : Rows.treeSetsRow.holds Tryd.pinned (OpenSpec.ofChange Rows.treeSetsSpec) :=
 OpenClaim.holds_of_wide 9 Tryd.f9 rfl rfl rfl rfl rfl rfl rfl ⟨rfl, rfl, rfl, rfl, rfl⟩ rfl rfl rfl rfl rfl (by kernel_rfl) Tryd.func9 (by kernel_rfl)
  (of_decide_eq_true (by kernel_rfl)) (by unfold Func.isWrapper; first | (rw [if_pos (by decide +kernel)]; kernel_rfl) | (rw [if_neg (by decide +kernel)]; exact ⟨rfl, rfl⟩))
  (fun os started H enc _ => lifted os started H enc)
theorem proved : Rows.TreeSetsSaid := over
#print axioms proved
end Go.Proofs.YtnalcjgefbelnaaDoor.treeSets
namespace Go.Proofs.YtnalcjgefbelnaaDoor
/-- The tied card, for the claim. -/
theorem treeSets_holds : Rows.TreeSetsCardSaid :=
 Claim7.holds_tied_plain_at .later [] [.data, .data, .data] true (true, "985b0ff7bb021169cba39113db63cc890ddc967a55f41fc18c9a34a5296cc34a") false
  treeSets.proved (fun _ h => by cases h) (by kernel_rfl) (fun _ h => by cases h) treeSets_row_tie rfl ⟨rfl, rfl⟩ (by kernel_rfl) rfl
  (fun f fn hf hfn => by
   obtain rfl : f = 9 := Option.some.inj ((show Tryd.prog.funcNamed "tinder/tinderlaw08.TreeSets" = some 9 by kernel_rfl).symm.trans hf) |>.symm
   obtain rfl : fn = Tryd.f9 := (Option.some.inj (Tryd.func9.symm.trans hfn)).symm
   exact ⟨by kernel_rfl, fun j t ht => by
    rw [Tryd.params9] at ht
    have hm : t ∈ [30] := by simpa using Array.mem_of_getElem? ht
    have hall : ([30].all fun u => !Tryd.prog.wantsStandIn u) = true := by kernel_rfl
    exact (show Tryd.prog.wantsStandIn t = false by simpa using List.all_eq_true.1 hall t hm)⟩)
  (by kernel_rfl)
#print axioms treeSets_holds
end Go.Proofs.YtnalcjgefbelnaaDoor
