/- The law VarsCut, called with whatever arguments, answers true and leaves each argument as it read; no condition. -/
import Derived.SevenTiedAt
import Derived.Test.YtefhngadeimklaaDoorCards
import Derived.Test.YtefhngadeimklaaDoorTie
import Derived.Test.YtefhngadeimklaaDoorMVarsLoads2
import Derived.Test.YtefhngadeimklaaDoorRows
import Derived.Test.YtefhngadeimklaaDoorMVarsCut1
import Derived.Test.YtefhngadeimklaaDoorMVarsLoads7
import Derived.WalkKit
import Derived.ProofKit
import Derived.OpenShut
import Derived.ShutString
import Derived.ChangeOld
import Derived.Below
import Derived.SizedLaws
namespace Go.Proofs.YtefhngadeimklaaDoor.varsCut
open Go.ChangeShapes Go.WideShapes Go.ChangeAt Go.RowKit Go.Proofs.YtefhngadeimklaaDoor.Q Go.Proofs.YtefhngadeimklaaDoorW.PrintWords
open Go.ChangeMaps (open_string shut_string)
set_option linter.unusedVariables false
set_option linter.unusedSimpArgs false
theorem own : ownKnob Tryd.prog.godebug = none := by kernel_rfl
theorem laidOut : laidOutB Tryd.prog = true := by kernel_rfl
def good40 (x : S40) : Prop := x.f0.size ≤ 140737488351232 ∧ x.f1.size ≤ 140737488351232
theorem opens_S40 : Opens Tryd.prog 40 k40 good40 := by
  have h := opens_struct (d := (Kd.pair Kd.string Kd.string)) Tryd.underlying40 (by kernel_rfl) (opens_more rfl (by kernel_rfl) (opens_string Tryd.underlying9) (opens_one rfl (by kernel_rfl) (opens_string Tryd.underlying9)))
  exact opens_iso (fun x : S40 => (x.f0, x.f1)) (fun p => ⟨p.1, p.2⟩) (fun _ => rfl) h
set_option maxRecDepth 100000 in
theorem lifted (os : Os) (started : os.Started) (H : Type) (enc : TypeId × Value → H) :
    ReturnsInHanded {} Tryd.checked os 10 .any (fun w args => (Rows.varsCutSpec.pre enc Tryd.prog Tryd.f10 [] false w args ∧ laidMetH Tryd.prog Q.laidL w) ∧ sizedMet enc Tryd.prog Tryd.f10 (OpenSpec.ofChange Rows.varsCutSpec) false w args) (Rows.varsCutSpec.post enc Tryd.prog Tryd.f10 false true false false) := by
  refine returnsInHanded_of_change_and (C := Tryd.checked) (X := fun w _ => laidMetH Tryd.prog Q.laidL w) (fun _ _ _ hh h => h.of_heap hh) own started (by kernel_rfl) Tryd.func10
    (ChangeSpec.witness_shaped (enc := enc) (C := Tryd.checked) (os := os) (X := fun w _ => laidMetH Tryd.prog Q.laidL w) false (World.doorLaid Tryd.prog 24 os) #[.slice none 0 0, .slice none 0 0, .int .i64 0] 8 rfl (World.shaped_of_RefB (by kernel_rfl) (by kernel_rfl)) (by kernel_rfl) (by kernel_rfl) (by kernel_rfl) (Q.door_met os _)) ?_
  intro W base args ds gs before hval0 hW hcnd hsz0 hL _
  have hsz : (DataW.weightsEach Tryd.prog (Tryd.f10.params.toList ++ Rows.varsCutSpec.plain.varTypes Tryd.prog) (ds ++ gs)).all (· ≤ reachBytes) = true := hsz0
  have hval : ∀ (j : Nat) t v, Tryd.f10.params[j]? = some t → args[j]? = some v → Value.okWide Tryd.prog W .any base t v := hval0
  have hW' := hW
  obtain ⟨p, q, hA0, hV, rfl, hfz, hnd⟩ := hW
  have hA : DataW.TrodAll enc Tryd.prog W 0 (fun _ => true) true Tryd.f10.params.toList args.toList ds p := hA0
  rw [Tryd.params10] at hA hval hsz
  obtain ⟨v0, vs0, d0, ds0, p0, q0, hargs, rfl, rfl, h0, r0⟩ := trodAll_cons hA
  obtain ⟨v1, vs1, d1, ds1, p1, q1, rfl, rfl, rfl, h1, r1⟩ := trodAll_cons r0
  obtain ⟨v2, vs2, d2, ds2, p2, q2, rfl, rfl, rfl, h2, r2⟩ := trodAll_cons r1
  obtain ⟨rfl, rfl, rfl⟩ := trodAll_nil r2
  obtain rfl : args = #[v0, v1, v2] := by cases args; simp_all
  obtain ⟨rfl, rfl⟩ := trodVars_none hV
  have k0 := h0
  have lt0 : ∀ x ∈ p0, x.block < W.heap.size := by obtain ⟨m, hm⟩ := k0; exact DataW.trod_lt m _ _ _ hm
  obtain ⟨a0, len0, cap0, rfl⟩ := okWide_slice Tryd.underlying42 (hval 0 42 v0 rfl rfl)
  obtain ⟨z0, ⟨A0, c0, hcs0, hl0, hC0⟩, g0⟩ : ∃ z, (Kd.slice 5 (Kd.int .u8)).K W z [.slice a0 len0 cap0] ∧ (z.length * 1 ≤ 140737488351232 ∧ ∀ a ∈ z, (Lit.int .u8 a).wf = true) := by
    obtain ⟨fuel, hf⟩ := h0
    exact (opens_slice Tryd.underlying42 (by kernel_rfl) 1 (by kernel_rfl) (opens_int Tryd.underlying5)) H enc W fuel _ _ hf (weights_each hsz (j := 0) (t := 42) rfl rfl)
  simp only [List.cons.injEq, Value.slice.injEq, and_true] at hcs0
  obtain ⟨rfl, rfl, rfl⟩ := hcs0
  have k1 := h1
  have lt1 : ∀ x ∈ p1, x.block < W.heap.size := by obtain ⟨m, hm⟩ := k1; exact DataW.trod_lt m _ _ _ hm
  obtain ⟨a1, len1, cap1, rfl⟩ := okWide_slice Tryd.underlying22 (hval 1 22 v1 rfl rfl)
  obtain ⟨z1, ⟨A1, c1, hcs1, hl1, hC1⟩, g1⟩ : ∃ z, (Kd.slice 40 k40).K W z [.slice a1 len1 cap1] ∧ (z.length * 32 ≤ 140737488351232 ∧ ∀ a ∈ z, good40 a) := by
    obtain ⟨fuel, hf⟩ := h1
    exact (opens_slice Tryd.underlying22 (by kernel_rfl) 32 (by kernel_rfl) opens_S40) H enc W fuel _ _ hf (weights_each hsz (j := 1) (t := 22) rfl rfl)
  simp only [List.cons.injEq, Value.slice.injEq, and_true] at hcs1
  obtain ⟨rfl, rfl, rfl⟩ := hcs1
  obtain ⟨a2, rfl, rfl, rfl, w2⟩ := open_int Tryd.underlying3 (hval 2 3 v2 rfl rfl) h2
  clear hA0 hval0 hsz0 hsz
  refine (Q.varsCut_row (Q.tabs_of_laid hL) _ _ z0 hC0 hl0 g0 _ _ z1 hC1 hl1 g1 a2 w2).mono fun e W' ⟨he, bel⟩ => ?_
  subst he
  exact ⟨_, rfl, _, _, _, [], _, [], hW', trodAll_mk1 (shut_bool Tryd.underlying4 _), (trodAll_cons_mk (Below.trod laidOut (by kernel_rfl) (of_decide_eq_true (by kernel_rfl)) k0 bel lt0) (trodAll_cons_mk (Below.trod laidOut (by kernel_rfl) (of_decide_eq_true (by kernel_rfl)) k1 bel lt1) (trodAll_cons_mk (shut_int Tryd.underlying3 w2) trodAll_mk0))), rfl, bel.frame _, fun h => by cases h⟩
theorem over : Rows.varsCutRow.holds Tryd.pinned (OpenSpec.ofChange Rows.varsCutSpec) :=
  OpenClaim.holds_of_wide 10 Tryd.f10 rfl rfl rfl rfl rfl rfl rfl ⟨rfl, rfl, rfl, rfl, rfl⟩ rfl rfl rfl rfl rfl (by kernel_rfl) Tryd.func10 (by kernel_rfl)
    (of_decide_eq_true (by kernel_rfl)) (by unfold Func.isWrapper; first | (rw [if_pos (by decide +kernel)]; kernel_rfl) | (rw [if_neg (by decide +kernel)]; exact ⟨rfl, rfl⟩))
    (fun os started H enc _ => lifted os started H enc)
theorem proved : Rows.VarsCutSaid := over
#print axioms proved
end Go.Proofs.YtefhngadeimklaaDoor.varsCut
namespace Go.Proofs.YtefhngadeimklaaDoor
/-- The tied card, for the claim. -/
theorem varsCut_holds : Rows.VarsCutCardSaid :=
  Claim7.holds_tied_plain_at .later [] [.data, .data, .data] true (true, "52f5587dcb6429c6c852b5511f9402b38c63ecd9e885056e285e809b82c5360b") false
    varsCut.proved (fun _ h => by cases h) (by kernel_rfl) (fun _ h => by cases h) varsCut_row_tie rfl ⟨rfl, rfl⟩ (by kernel_rfl) rfl
    (fun f fn hf hfn => by
      obtain rfl : f = 10 := Option.some.inj ((show Tryd.prog.funcNamed "tinder/tinderlaw19.VarsCut" = some 10 by kernel_rfl).symm.trans hf) |>.symm
      obtain rfl : fn = Tryd.f10 := (Option.some.inj (Tryd.func10.symm.trans hfn)).symm
      exact ⟨by kernel_rfl, fun j t ht => by
        rw [Tryd.params10] at ht
        have hm : t ∈ [42, 22, 3] := by simpa using Array.mem_of_getElem? ht
        have hall : ([42, 22, 3].all fun u => !Tryd.prog.wantsStandIn u) = true := by kernel_rfl
        exact (show Tryd.prog.wantsStandIn t = false by simpa using List.all_eq_true.1 hall t hm)⟩)
    (by kernel_rfl)
#print axioms varsCut_holds
end Go.Proofs.YtefhngadeimklaaDoor
