/- The law PropBack, called with whatever arguments, answers true and leaves each argument as it read; no condition. -/
import Derived.Lay
import Derived.SevenTiedAt
import Derived.Deep.DeepHandedRow
import Derived.Deep.DeepWitnessRowRef
import Derived.Lib.LaidTab
import Derived.Test.YtlhnaplmphdhlaaDoorCards
import Derived.Test.YtlhnaplmphdhlaaDoorTie
import Derived.Test.YtlhnaplmphdhlaaDoorMPropBack3
import Derived.Test.YtlhnaplmphdhlaaDoorRows
import Derived.Test.YtlhnaplmphdhlaaDoorMPropBack4
import Derived.WalkKit
import Derived.ProofKit
import Derived.OpenShut
import Derived.ShutString
import Derived.ChangeOld
import Derived.Below
import Derived.SizedLaws
namespace Go.Proofs.YtlhnaplmphdhlaaDoor.propBack
open Go.ChangeShapes Go.WideShapes Go.ChangeAt Go.RowKit Go.Proofs.YtlhnaplmphdhlaaDoor.Q Go.Proofs.YtlhnaplmphdhlaaDoorW.PrintWords
open Go.ChangeMaps (open_string shut_string)
set_option linter.unusedVariables false
set_option linter.unusedSimpArgs false
theorem own : ownKnob Tryd.prog.godebug = none := by kernel_rfl
theorem laidOut : laidOutB Tryd.prog = true := by kernel_rfl
theorem len_le_bulk {P : Program} {t e : TypeId} (ht : P.underlying t = some (.slice e)) {H : Type} {enc : TypeId × Value → H} {W : World} {fuel : Nat} {a : Option Addr} {len cap : Nat} {d : DataW H} {pl : List MemPlace}
    (h : DataW.trod enc P W 0 (fun _ => true) true fuel t [.slice a len cap] = some (d, pl)) : len ≤ Rows.uptoBulk d := by
  have hall : ∀ l : List (DataW H), l.length ≤ Rows.uptoBulkAll l := by
    intro l
    induction l with
    | nil => simp [Rows.uptoBulkAll]
    | cons x r ih =>
      have : 1 ≤ Rows.uptoBulk x := by
        cases x with
        | lit l => cases l <;> simp [Rows.uptoBulk]
        | nil => simp [Rows.uptoBulk]
        | ptr d => simp [Rows.uptoBulk]
        | slice elems spare => simp [Rows.uptoBulk]
        | agg parts => simp [Rows.uptoBulk]
        | iface t d => simp [Rows.uptoBulk]
        | map es => simp [Rows.uptoBulk]
        | held h => simp [Rows.uptoBulk]
      simp only [Rows.uptoBulkAll, List.length_cons]
      omega
  rcases DataW.trod_slice ht h with ⟨hx, _⟩ | ⟨a, len, cap, elems, rest, n, hcs, hx, hd, h4, hl, hm, hlen, hel, _⟩
  · simp only [List.cons.injEq, Value.slice.injEq, and_true] at hx
    omega
  · simp only [List.cons.injEq, Value.slice.injEq, and_true] at hx
    obtain ⟨_, rfl, rfl⟩ := hx
    injection hd with hd1 hd2
    rw [hd1]
    have := hall (elems.map (·.1))
    rw [List.length_map] at this
    simp only [Rows.uptoBulk]
    omega
theorem reads (os : Os) {H : Type} (enc : TypeId × Value → H) : ∃ places, DataW.whole enc Tryd.prog ((World.laidAll Tryd.prog os QB.laidL).forCall (fun _ _ => 0) ⟨#[], #[.slice none 0 0, .slice none 0 0], []⟩).memory Tryd.f9.params.toList (Rows.OpenSpec.upto Rows.propBackSpec).vars false (#[.slice none 0 0, .slice none 0 0] : Array Value).toList 8 = some ([.nil, .nil], [], places) :=
  ⟨[], by kernel_rfl⟩
set_option maxRecDepth 100000 in
theorem lifted (os : Os) (started : os.Started) (H : Type) (enc : TypeId × Value → H) (F : Stop.Interp) :
    ReturnsInHanded {} Tryd.checked os 9 .any ((Rows.OpenSpec.upto Rows.propBackSpec).preRow enc Tryd.prog Tryd.f9 Rows.propBackUptoRow.domain false Rows.propBackUptoRow.laid) (((Rows.OpenSpec.upto Rows.propBackSpec).at F).post enc Tryd.prog Tryd.f9 false true false false) := by
  obtain ⟨places, hx⟩ := reads os enc
  refine returnsInHanded_of_row (C := Tryd.checked) (s := (Rows.OpenSpec.upto Rows.propBackSpec)) own started (by kernel_rfl) Tryd.func9
    ⟨World.laidAll Tryd.prog os QB.laidL, fun _ _ => 0, ⟨#[], #[.slice none 0 0, .slice none 0 0], []⟩, World.laidAll_os _ _ _, World.shaped_of_ZipB (by kernel_rfl) (by kernel_rfl), (Input.okWide_of_okWideB (base := 0) (show Input.okWideB Tryd.prog ((World.laidAll Tryd.prog os QB.laidL).forCall (fun _ _ => 0) ⟨#[], #[.slice none 0 0, .slice none 0 0], []⟩) 9 ⟨#[], #[.slice none 0 0, .slice none 0 0], []⟩ = true by kernel_rfl)).1, (Input.okWide_of_okWideB (show Input.okWideB Tryd.prog ((World.laidAll Tryd.prog os QB.laidL).forCall (fun _ _ => 0) ⟨#[], #[.slice none 0 0, .slice none 0 0], []⟩) 9 ⟨#[], #[.slice none 0 0, .slice none 0 0], []⟩ = true by kernel_rfl)).2,
      OpenSpec.preRow_of_cond 8 hx (by kernel_rfl) (fun k hk => by cases hk; kernel_rfl) (by kernel_rfl) (by rw [MakeChecks.laidMetH_plain _ _ _ (by kernel_rfl)]; exact laidMet_laidAll _ (by kernel_rfl) (by kernel_rfl)),
      by simp only [Assume.holds]; exact ⟨by simp, by simp, fun _ => Modest.zero, by simp, by simp⟩⟩ ?_
  intro W base args ds gs before hval0 hW _ hcond hsz0 hL hshaped _
  have contract : Calls Tryd.prog 9 args W fun e W' => ∃ v, e = .returned v ∧ Rows.propBackSpec.post enc Tryd.prog Tryd.f9 false true false false W args v W' := by
    have hsz : (DataW.weightsEach Tryd.prog (Tryd.f9.params.toList ++ Rows.propBackSpec.plain.varTypes Tryd.prog) (ds ++ gs)).all (· ≤ reachBytes) = true := hsz0
    have hval : ∀ (j : Nat) t v, Tryd.f9.params[j]? = some t → args[j]? = some v → Value.okWide Tryd.prog W .any base t v := hval0
    have hW' := hW
    obtain ⟨p, q, hA0, hV, rfl, hfz, hnd⟩ := hW
    have hA : DataW.TrodAll enc Tryd.prog W 0 (fun _ => true) true Tryd.f9.params.toList args.toList ds p := hA0
    rw [Tryd.params9] at hA hval hsz
    obtain ⟨v0, vs0, d0, ds0, p0, q0, hargs, rfl, rfl, h0, r0⟩ := trodAll_cons hA
    obtain ⟨v1, vs1, d1, ds1, p1, q1, rfl, rfl, rfl, h1, r1⟩ := trodAll_cons r0
    obtain ⟨rfl, rfl, rfl⟩ := trodAll_nil r1
    obtain rfl : args = #[v0, v1] := by cases args; simp_all
    obtain ⟨rfl, rfl⟩ := trodVars_none hV
    have hb0 := hcond _ rfl
    have hbulk : Rows.uptoBulkAll ([d0, d1] ++ []) ≤ 1048576 := of_decide_eq_true hb0
    simp only [Rows.uptoBulkAll, Rows.uptoBulk, List.append_nil] at hbulk
    have k0 := h0
    have lt0 : ∀ x ∈ p0, x.block < W.heap.size := by obtain ⟨m, hm⟩ := k0; exact DataW.trod_lt m _ _ _ hm
    obtain ⟨a0, len0, cap0, rfl⟩ := okWide_slice Tryd.underlying36 (hval 0 36 v0 rfl rfl)
    have u0 : len0 ≤ Rows.uptoBulk d0 := by obtain ⟨fuel, hf⟩ := h0; exact len_le_bulk Tryd.underlying36 hf
    obtain ⟨z0, ⟨A0, c0, hcs0, hl0, hC0⟩, g0⟩ : ∃ z, (Kd.slice 24 (Kd.int .u32)).K W z [.slice a0 len0 cap0] ∧ (z.length * 4 ≤ 140737488351232 ∧ ∀ a ∈ z, (Lit.int .u32 a).wf = true) := by
      obtain ⟨fuel, hf⟩ := h0
      exact (opens_slice Tryd.underlying36 (by kernel_rfl) 4 (by kernel_rfl) (opens_int Tryd.underlying24)) H enc W fuel _ _ hf (weights_each hsz (j := 0) (t := 36) rfl rfl)
    simp only [List.cons.injEq, Value.slice.injEq, and_true] at hcs0
    obtain ⟨rfl, rfl, rfl⟩ := hcs0
    have k1 := h1
    have lt1 : ∀ x ∈ p1, x.block < W.heap.size := by obtain ⟨m, hm⟩ := k1; exact DataW.trod_lt m _ _ _ hm
    obtain ⟨a1, len1, cap1, rfl⟩ := okWide_slice Tryd.underlying39 (hval 1 39 v1 rfl rfl)
    have u1 : len1 ≤ Rows.uptoBulk d1 := by obtain ⟨fuel, hf⟩ := h1; exact len_le_bulk Tryd.underlying39 hf
    obtain ⟨z1, ⟨A1, c1, hcs1, hl1, hC1⟩, g1⟩ : ∃ z, (Kd.slice 9 Kd.string).K W z [.slice a1 len1 cap1] ∧ (z.length * 16 ≤ 140737488351232 ∧ ∀ a ∈ z, a.size ≤ 140737488351232) := by
      obtain ⟨fuel, hf⟩ := h1
      exact (opens_slice Tryd.underlying39 (by kernel_rfl) 16 (by kernel_rfl) (opens_string Tryd.underlying9)) H enc W fuel _ _ hf (weights_each hsz (j := 1) (t := 39) rfl rfl)
    simp only [List.cons.injEq, Value.slice.injEq, and_true] at hcs1
    obtain ⟨rfl, rfl, rfl⟩ := hcs1
    clear hA0 hval0 hsz0 hsz
    refine (Q.propBack_rowU (QB.tabs_of_laid hL) (Q.cell0 hshaped) _ _ z0 hC0 hl0 g0 _ _ z1 hC1 hl1 g1 (by have := hbulk; omega)).mono fun e W' ⟨he, bel⟩ => ?_
    subst he
    exact ⟨_, rfl, _, _, _, [], _, [], hW', trodAll_mk1 (shut_bool Tryd.underlying4 _), (trodAll_cons_mk (Below.trod laidOut (by kernel_rfl) (of_decide_eq_true (by kernel_rfl)) k0 bel lt0) (trodAll_cons_mk (Below.trod laidOut (by kernel_rfl) (of_decide_eq_true (by kernel_rfl)) k1 bel lt1) trodAll_mk0)), rfl, bel.frame _, fun h => by cases h⟩
  exact contract
theorem over : Rows.propBackUptoRow.holds Tryd.pinned (Rows.OpenSpec.upto Rows.propBackSpec) :=
  OpenClaim.holds_of_cond 9 Tryd.f9 rfl rfl rfl rfl rfl rfl rfl ⟨rfl, rfl, rfl, rfl, rfl⟩ rfl rfl rfl rfl rfl (by kernel_rfl) Tryd.func9 (by kernel_rfl)
    (of_decide_eq_true (by kernel_rfl)) (by unfold Func.isWrapper; first | (rw [if_pos (by decide +kernel)]; kernel_rfl) | (rw [if_neg (by decide +kernel)]; exact ⟨rfl, rfl⟩))
    (fun os started H enc _ F => by rw [OpenClaim.pre_eq_preRow]; exact lifted os started H enc F)
theorem proved : Rows.PropBackUptoSaid := over
#print axioms proved
end Go.Proofs.YtlhnaplmphdhlaaDoor.propBack
namespace Go.Proofs.YtlhnaplmphdhlaaDoor
/-- The tied card, for the claim. -/
theorem propBack_holds : Rows.PropBackUptoCardSaid :=
  Claim7.holds_tied_plain_at .later [] [.data, .data, .data, .data, .pinned] true (true, "5e92ce486aa052508fe4368971e3805b600269a6fd4d00a5f3fbc8457e6da657") false
    propBack.proved (fun _ h => by cases h) (by kernel_rfl) (fun _ h => by cases h) propBackUpto_row_tie rfl ⟨rfl, rfl⟩ (by kernel_rfl) rfl
    (fun f fn hf hfn => by
      obtain rfl : f = 9 := Option.some.inj ((show Tryd.prog.funcNamed "tinder/tinderlaw05.PropBack" = some 9 by kernel_rfl).symm.trans hf) |>.symm
      obtain rfl : fn = Tryd.f9 := (Option.some.inj (Tryd.func9.symm.trans hfn)).symm
      exact ⟨by kernel_rfl, fun j t ht => by
        rw [Tryd.params9] at ht
        have hm : t ∈ [36, 39] := by simpa using Array.mem_of_getElem? ht
        have hall : ([36, 39].all fun u => !Tryd.prog.wantsStandIn u) = true := by kernel_rfl
        exact (show Tryd.prog.wantsStandIn t = false by simpa using List.all_eq_true.1 hall t hm)⟩)
    (by kernel_rfl)
#print axioms propBack_holds
end Go.Proofs.YtlhnaplmphdhlaaDoor
