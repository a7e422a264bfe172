/- The law VarsBack, called with whatever arguments, answers true and leaves each argument as it read; no condition. -/
import Derived.SevenTiedAt
import Derived.Deep.DeepHandedRow
import Derived.Deep.DeepWitnessRowRef
import Derived.Lib.LaidTab
import Derived.Test.YtefhngadeimklaaDoorCards
import Derived.Test.YtefhngadeimklaaDoorTie
import Derived.Test.YtefhngadeimklaaDoorMVarsBack1
import Derived.Test.YtefhngadeimklaaDoorRows
import Derived.Test.YtefhngadeimklaaDoorMVarsBack5
import Derived.WalkKit
import Derived.ProofKit
import Derived.OpenShut
import Derived.ShutString
import Derived.ChangeOld
import Derived.Below
import Derived.SizedLaws
namespace Go.Proofs.YtefhngadeimklaaDoor.varsBack
open Go.ChangeShapes Go.WideShapes Go.ChangeAt Go.RowKit Go.Proofs.YtefhngadeimklaaDoor.Q Go.Proofs.YtefhngadeimklaaDoorW.PrintWords
open Go.ChangeMaps (open_string shut_string)
set_option linter.unusedVariables false
set_option linter.unusedSimpArgs false
theorem own : ownKnob Tryd.prog.godebug = none := by kernel_rfl
theorem laidOut : laidOutB Tryd.prog = true := by kernel_rfl
def good40 (x : S40) : Prop := x.f0.size ≤ 140737488351232 ∧ x.f1.size ≤ 140737488351232
theorem opens_S40 : Opens Tryd.prog 40 k40 good40 := by
  have h := opens_struct (d := (Kd.pair Kd.string Kd.string)) Tryd.underlying40 (by kernel_rfl) (opens_more rfl (by kernel_rfl) (opens_string Tryd.underlying9) (opens_one rfl (by kernel_rfl) (opens_string Tryd.underlying9)))
  exact opens_iso (fun x : S40 => (x.f0, x.f1)) (fun p => ⟨p.1, p.2⟩) (fun _ => rfl) h
theorem len_le_bulk {P : Program} {t e : TypeId} (ht : P.underlying t = some (.slice e)) {H : Type} {enc : TypeId × Value → H} {W : World} {fuel : Nat} {a : Option Addr} {len cap : Nat} {d : DataW H} {pl : List MemPlace}
    (h : DataW.trod enc P W 0 (fun _ => true) true fuel t [.slice a len cap] = some (d, pl)) : len ≤ Rows.uptoBulk d := by
  have hall : ∀ l : List (DataW H), l.length ≤ Rows.uptoBulkAll l := by
    intro l
    induction l with
    | nil => simp [Rows.uptoBulkAll]
    | cons x r ih =>
      have : 1 ≤ Rows.uptoBulk x := by
        cases x with
        | lit l => cases l <;> simp [Rows.uptoBulk]
        | nil => simp [Rows.uptoBulk]
        | ptr d => simp [Rows.uptoBulk]
        | slice elems spare => simp [Rows.uptoBulk]
        | agg parts => simp [Rows.uptoBulk]
        | iface t d => simp [Rows.uptoBulk]
        | map es => simp [Rows.uptoBulk]
        | held h => simp [Rows.uptoBulk]
      simp only [Rows.uptoBulkAll, List.length_cons]
      omega
  rcases DataW.trod_slice ht h with ⟨hx, _⟩ | ⟨a, len, cap, elems, rest, n, hcs, hx, hd, h4, hl, hm, hlen, hel, _⟩
  · simp only [List.cons.injEq, Value.slice.injEq, and_true] at hx
    omega
  · simp only [List.cons.injEq, Value.slice.injEq, and_true] at hx
    obtain ⟨_, rfl, rfl⟩ := hx
    injection hd with hd1 hd2
    rw [hd1]
    have := hall (elems.map (·.1))
    rw [List.length_map] at this
    simp only [Rows.uptoBulk]
    omega
theorem reads (os : Os) {H : Type} (enc : TypeId × Value → H) : ∃ places, DataW.whole enc Tryd.prog ((World.doorLaid Tryd.prog 24 os).forCall (fun _ _ => 0) ⟨#[], #[.slice none 0 0, .slice none 0 0], []⟩).memory Tryd.f8.params.toList (Rows.OpenSpec.upto Rows.varsBackSpec).vars false (#[.slice none 0 0, .slice none 0 0] : Array Value).toList 8 = some ([.nil, .nil], [], places) :=
  ⟨[], by kernel_rfl⟩
set_option maxRecDepth 100000 in
theorem lifted (os : Os) (started : os.Started) (H : Type) (enc : TypeId × Value → H) (F : Stop.Interp) :
    ReturnsInHanded {} Tryd.checked os 8 .any ((Rows.OpenSpec.upto Rows.varsBackSpec).preRow enc Tryd.prog Tryd.f8 Rows.varsBackUptoRow.domain false Rows.varsBackUptoRow.laid) (((Rows.OpenSpec.upto Rows.varsBackSpec).at F).post enc Tryd.prog Tryd.f8 false true false false) := by
  obtain ⟨places, hx⟩ := reads os enc
  refine returnsInHanded_of_row (C := Tryd.checked) (s := (Rows.OpenSpec.upto Rows.varsBackSpec)) own started (by kernel_rfl) Tryd.func8
    (witness_row_atRef (enc := enc) (C := Tryd.checked) false (World.doorLaid Tryd.prog 24 os) #[.slice none 0 0, .slice none 0 0] rfl (by kernel_rfl) (by kernel_rfl) (by kernel_rfl)
      (OpenSpec.preRow_of_cond 8 hx (by kernel_rfl) (fun k hk => by cases hk; kernel_rfl) (by kernel_rfl) (Q.door_met os _))) ?_
  intro W base args ds gs before hval0 hW _ hcond hsz0 hL _ _
  have contract : Calls Tryd.prog 8 args W fun e W' => ∃ v, e = .returned v ∧ Rows.varsBackSpec.post enc Tryd.prog Tryd.f8 false true false false W args v W' := by
    have hsz : (DataW.weightsEach Tryd.prog (Tryd.f8.params.toList ++ Rows.varsBackSpec.plain.varTypes Tryd.prog) (ds ++ gs)).all (· ≤ reachBytes) = true := hsz0
    have hval : ∀ (j : Nat) t v, Tryd.f8.params[j]? = some t → args[j]? = some v → Value.okWide Tryd.prog W .any base t v := hval0
    have hW' := hW
    obtain ⟨p, q, hA0, hV, rfl, hfz, hnd⟩ := hW
    have hA : DataW.TrodAll enc Tryd.prog W 0 (fun _ => true) true Tryd.f8.params.toList args.toList ds p := hA0
    rw [Tryd.params8] at hA hval hsz
    obtain ⟨v0, vs0, d0, ds0, p0, q0, hargs, rfl, rfl, h0, r0⟩ := trodAll_cons hA
    obtain ⟨v1, vs1, d1, ds1, p1, q1, rfl, rfl, rfl, h1, r1⟩ := trodAll_cons r0
    obtain ⟨rfl, rfl, rfl⟩ := trodAll_nil r1
    obtain rfl : args = #[v0, v1] := by cases args; simp_all
    obtain ⟨rfl, rfl⟩ := trodVars_none hV
    have hb0 := hcond _ rfl
    have hbulk : Rows.uptoBulkAll ([d0, d1] ++ []) ≤ 1048576 := of_decide_eq_true hb0
    simp only [Rows.uptoBulkAll, List.append_nil] at hbulk
    have k0 := h0
    have lt0 : ∀ x ∈ p0, x.block < W.heap.size := by obtain ⟨m, hm⟩ := k0; exact DataW.trod_lt m _ _ _ hm
    obtain ⟨a0, len0, cap0, rfl⟩ := okWide_slice Tryd.underlying22 (hval 0 22 v0 rfl rfl)
    have u0 : len0 ≤ Rows.uptoBulk d0 := by obtain ⟨fuel, hf⟩ := h0; exact len_le_bulk Tryd.underlying22 hf
    obtain ⟨z0, ⟨A0, c0, hcs0, hl0, hC0⟩, g0⟩ : ∃ z, (Kd.slice 40 k40).K W z [.slice a0 len0 cap0] ∧ (z.length * 32 ≤ 140737488351232 ∧ ∀ a ∈ z, good40 a) := by
      obtain ⟨fuel, hf⟩ := h0
      exact (opens_slice Tryd.underlying22 (by kernel_rfl) 32 (by kernel_rfl) opens_S40) H enc W fuel _ _ hf (weights_each hsz (j := 0) (t := 22) rfl rfl)
    simp only [List.cons.injEq, Value.slice.injEq, and_true] at hcs0
    obtain ⟨rfl, rfl, rfl⟩ := hcs0
    have k1 := h1
    have lt1 : ∀ x ∈ p1, x.block < W.heap.size := by obtain ⟨m, hm⟩ := k1; exact DataW.trod_lt m _ _ _ hm
    obtain ⟨a1, len1, cap1, rfl⟩ := okWide_slice Tryd.underlying42 (hval 1 42 v1 rfl rfl)
    have u1 : len1 ≤ Rows.uptoBulk d1 := by obtain ⟨fuel, hf⟩ := h1; exact len_le_bulk Tryd.underlying42 hf
    obtain ⟨z1, ⟨A1, c1, hcs1, hl1, hC1⟩, g1⟩ : ∃ z, (Kd.slice 5 (Kd.int .u8)).K W z [.slice a1 len1 cap1] ∧ (z.length * 1 ≤ 140737488351232 ∧ ∀ a ∈ z, (Lit.int .u8 a).wf = true) := by
      obtain ⟨fuel, hf⟩ := h1
      exact (opens_slice Tryd.underlying42 (by kernel_rfl) 1 (by kernel_rfl) (opens_int Tryd.underlying5)) H enc W fuel _ _ hf (weights_each hsz (j := 1) (t := 42) rfl rfl)
    simp only [List.cons.injEq, Value.slice.injEq, and_true] at hcs1
    obtain ⟨rfl, rfl, rfl⟩ := hcs1
    clear hA0 hval0 hsz0 hsz
    refine (Q.varsBack_row (Q.tabs_of_laid hL) _ _ z0 hC0 hl0 g0 _ _ z1 hC1 hl1 g1 (by have := hbulk; omega)).mono fun e W' ⟨he, bel⟩ => ?_
    subst he
    exact ⟨_, rfl, _, _, _, [], _, [], hW', trodAll_mk1 (shut_bool Tryd.underlying4 _), (trodAll_cons_mk (Below.trod laidOut (by kernel_rfl) (of_decide_eq_true (by kernel_rfl)) k0 bel lt0) (trodAll_cons_mk (Below.trod laidOut (by kernel_rfl) (of_decide_eq_true (by kernel_rfl)) k1 bel lt1) trodAll_mk0)), rfl, bel.frame _, fun h => by cases h⟩
  exact contract
theorem over : Rows.varsBackUptoRow.holds Tryd.pinned (Rows.OpenSpec.upto Rows.varsBackSpec) :=
  OpenClaim.holds_of_cond 8 Tryd.f8 rfl rfl rfl rfl rfl rfl rfl ⟨rfl, rfl, rfl, rfl, rfl⟩ rfl rfl rfl rfl rfl (by kernel_rfl) Tryd.func8 (by kernel_rfl)
    (of_decide_eq_true (by kernel_rfl)) (by unfold Func.isWrapper; first | (rw [if_pos (by decide +kernel)]; kernel_rfl) | (rw [if_neg (by decide +kernel)]; exact ⟨rfl, rfl⟩))
    (fun os started H enc _ F => by rw [OpenClaim.pre_eq_preRow]; exact lifted os started H enc F)
theorem proved : Rows.VarsBackUptoSaid := over
#print axioms proved
end Go.Proofs.YtefhngadeimklaaDoor.varsBack
namespace Go.Proofs.YtefhngadeimklaaDoor
/-- The tied card, for the claim. -/
theorem varsBack_holds : Rows.VarsBackUptoCardSaid :=
  Claim7.holds_tied_plain_at .later [] [.data, .data, .data] true (true, "52f5587dcb6429c6c852b5511f9402b38c63ecd9e885056e285e809b82c5360b") false
    varsBack.proved (fun _ h => by cases h) (by kernel_rfl) (fun _ h => by cases h) varsBackUpto_row_tie rfl ⟨rfl, rfl⟩ (by kernel_rfl) rfl
    (fun f fn hf hfn => by
      obtain rfl : f = 8 := Option.some.inj ((show Tryd.prog.funcNamed "tinder/tinderlaw19.VarsBack" = some 8 by kernel_rfl).symm.trans hf) |>.symm
      obtain rfl : fn = Tryd.f8 := (Option.some.inj (Tryd.func8.symm.trans hfn)).symm
      exact ⟨by kernel_rfl, fun j t ht => by
        rw [Tryd.params8] at ht
        have hm : t ∈ [22, 42] := by simpa using Array.mem_of_getElem? ht
        have hall : ([22, 42].all fun u => !Tryd.prog.wantsStandIn u) = true := by kernel_rfl
        exact (show Tryd.prog.wantsStandIn t = false by simpa using List.all_eq_true.1 hall t hm)⟩)
    (by kernel_rfl)
#print axioms varsBack_holds
end Go.Proofs.YtefhngadeimklaaDoor
