/- Contracts of Go functions and plain facts, of several texts, one behind the other; no condition. -/
import Derived.Test.YtefhngadeimklaaDoorMVarsGets1
import Derived.Test.YtefhngadeimklaaDoorMVarsGets2
import Derived.Test.YtefhngadeimklaaDoorMVarsGets3
import Derived.ChangeArms
import Derived.OpenShut
import Derived.SizedLaws
section
namespace Go.Proofs.YtefhngadeimklaaDoor.Q
open Go.RowKit Go.Proofs.YtefhngadeimklaaDoorW.PrintWords Go.Proofs.YtefhngadeimklaaDoorW.PrintLast Go.Proofs.YtefhngadeimklaaDoorW.PrintMore
set_option linter.unusedVariables false
set_option linter.unusedSimpArgs false

attribute [local go_sem] max2_int min2_int max_two min_two max_three min_three max_four min_four
/-! ### tinderlaw19_VarsForms: function 4 -/
mutual
def tinderlaw19_VarsForms.j0 : Nat → List ByteArray → List ByteArray → Bool → Option (Bool)
  | 0, _, _, _ => none
  | k + 1, x13, x14, x66 => if x66 = true then (some false) else (tinderlaw19_VarsForms.l0 k x13 x14 0)
def tinderlaw19_VarsForms.l0 : Nat → List ByteArray → List ByteArray → Int → Option (Bool)
  | 0, _, _, _ => none
  | k + 1, x13, x14, x15 => if x15 < (x13.length : Int) then (if 0 ≤ x15 then (if x15 < (x14.length : Int) then (if (rdOf ByteArray.empty x13 x15).toList = (rdOf ByteArray.empty x14 x15).toList then (tinderlaw19_VarsForms.l0 k x13 x14 (wrap64 (x15 + 1))) else (some false)) else (none)) else (none)) else (some true)
end
def tinderlaw19_VarsForms.f (k : Nat) (a0 : ByteArray) (a1 : ByteArray) : Option (Bool) := (tinderlaw19_alive.f).bind fun t5001 => (if t5001 = true then ((vars_Form.f k a0 a1).bind fun bt5002 => ((tinderref19_Form.f k a0 a1).bind fun bt5004 => ((vars_Default.f k a0).bind fun bt5006 => ((tinderref19_Default.f k a0).bind fun bt5008 => ((vars_Names.f k).bind fun t5010 => ((tinderref19_Names.f k).bind fun t5013 => (if bt5002.1.toList = bt5004.1.toList then (if bt5002.2 = bt5004.2 then (if bt5006.1.toList = bt5008.1.toList then (if bt5006.2 = bt5008.2 then (tinderlaw19_VarsForms.j0 k t5010 t5013 ((t5010.length : Int) != (t5013.length : Int))) else (tinderlaw19_VarsForms.j0 k t5010 t5013 true)) else (tinderlaw19_VarsForms.j0 k t5010 t5013 true)) else (tinderlaw19_VarsForms.j0 k t5010 t5013 true)) else (tinderlaw19_VarsForms.j0 k t5010 t5013 true)))))))) else (some false))
theorem tinderlaw19_VarsForms.mono_l : ∀ k, (∀ y0 y1 y2, LeO (tinderlaw19_VarsForms.j0 k y0 y1 y2) (tinderlaw19_VarsForms.j0 (k + 1) y0 y1 y2)) ∧ (∀ y0 y1 y2, LeO (tinderlaw19_VarsForms.l0 k y0 y1 y2) (tinderlaw19_VarsForms.l0 (k + 1) y0 y1 y2))
  | 0 => ⟨fun _ _ _ r h => by simp [tinderlaw19_VarsForms.j0] at h, fun _ _ _ r h => by simp [tinderlaw19_VarsForms.l0] at h⟩
  | k + 1 => by
    obtain ⟨ih0, ih1⟩ := tinderlaw19_VarsForms.mono_l k
    refine ⟨?_, ?_⟩
    · intro y0 y1 y2
      unfold tinderlaw19_VarsForms.j0
      repeat' first
      | (with_reducible exact ih0 _ _ _)
      | (with_reducible exact ih1 _ _ _)
      | (with_reducible exact tinderref19_Default.mono _ _)
      | (with_reducible exact tinderref19_Form.mono _ _ _)
      | (with_reducible exact tinderref19_Names.mono _)
      | (with_reducible exact vars_Default.mono _ _)
      | (with_reducible exact vars_Form.mono _ _ _)
      | (with_reducible exact vars_Names.mono _)
      | (with_reducible exact LeO.refl _)
      | (with_reducible exact LeO.none _)
      | (with_reducible refine LeO.ite ?_ ?_)
      | (with_reducible refine LeO.bind ?_ (fun _ => ?_))
      | exact ih0 _ _ _
      | exact ih1 _ _ _
      | exact tinderref19_Default.mono _ _
      | exact tinderref19_Form.mono _ _ _
      | exact tinderref19_Names.mono _
      | exact vars_Default.mono _ _
      | exact vars_Form.mono _ _ _
      | exact vars_Names.mono _
      | exact LeO.none _
      | refine LeO.ite ?_ ?_
      | refine LeO.bind ?_ (fun _ => ?_)
    · intro y0 y1 y2
      unfold tinderlaw19_VarsForms.l0
      repeat' first
      | (with_reducible exact ih0 _ _ _)
      | (with_reducible exact ih1 _ _ _)
      | (with_reducible exact tinderref19_Default.mono _ _)
      | (with_reducible exact tinderref19_Form.mono _ _ _)
      | (with_reducible exact tinderref19_Names.mono _)
      | (with_reducible exact vars_Default.mono _ _)
      | (with_reducible exact vars_Form.mono _ _ _)
      | (with_reducible exact vars_Names.mono _)
      | (with_reducible exact LeO.refl _)
      | (with_reducible exact LeO.none _)
      | (with_reducible refine LeO.ite ?_ ?_)
      | (with_reducible refine LeO.bind ?_ (fun _ => ?_))
      | exact ih0 _ _ _
      | exact ih1 _ _ _
      | exact tinderref19_Default.mono _ _
      | exact tinderref19_Form.mono _ _ _
      | exact tinderref19_Names.mono _
      | exact vars_Default.mono _ _
      | exact vars_Form.mono _ _ _
      | exact vars_Names.mono _
      | exact LeO.none _
      | refine LeO.ite ?_ ?_
      | refine LeO.bind ?_ (fun _ => ?_)
theorem tinderlaw19_VarsForms.mono : ∀ a0 a1 k, LeO (tinderlaw19_VarsForms.f k a0 a1) (tinderlaw19_VarsForms.f (k + 1) a0 a1) := by
  intro a0 a1 k
  obtain ⟨ih0, ih1⟩ := tinderlaw19_VarsForms.mono_l k
  unfold tinderlaw19_VarsForms.f
  repeat' first
      | (with_reducible exact ih0 _ _ _)
      | (with_reducible exact ih1 _ _ _)
      | (with_reducible exact tinderref19_Default.mono _ _)
      | (with_reducible exact tinderref19_Form.mono _ _ _)
      | (with_reducible exact tinderref19_Names.mono _)
      | (with_reducible exact vars_Default.mono _ _)
      | (with_reducible exact vars_Form.mono _ _ _)
      | (with_reducible exact vars_Names.mono _)
      | (with_reducible exact LeO.refl _)
      | (with_reducible exact LeO.none _)
      | (with_reducible refine LeO.ite ?_ ?_)
      | (with_reducible refine LeO.bind ?_ (fun _ => ?_))
      | exact ih0 _ _ _
      | exact ih1 _ _ _
      | exact tinderref19_Default.mono _ _
      | exact tinderref19_Form.mono _ _ _
      | exact tinderref19_Names.mono _
      | exact vars_Default.mono _ _
      | exact vars_Form.mono _ _ _
      | exact vars_Names.mono _
      | exact LeO.none _
      | refine LeO.ite ?_ ?_
      | refine LeO.bind ?_ (fun _ => ?_)
set_option maxHeartbeats 8000000 in
set_option maxRecDepth 100000 in
theorem tinderlaw19_VarsForms.calls (k : Nat) (a0 : ByteArray) (a1 : ByteArray) (r : Bool) (w : World) (ht : Tabs w) (h : tinderlaw19_VarsForms.f k a0 a1 = some r) :
    Calls Tryd.prog 4 #[.string a0, .string a1] w fun e w' => e = .returned (.bool r) ∧ Below w.heap.size w w' := by
  have HB := Aside0.mk (Below.refl w.heap.size w)
  have H : ((tinderlaw19_alive.f).bind fun t5001 => (if t5001 = true then ((vars_Form.f k a0 a1).bind fun bt5002 => ((tinderref19_Form.f k a0 a1).bind fun bt5004 => ((vars_Default.f k a0).bind fun bt5006 => ((tinderref19_Default.f k a0).bind fun bt5008 => ((vars_Names.f k).bind fun t5010 => ((tinderref19_Names.f k).bind fun t5013 => (if bt5002.1.toList = bt5004.1.toList then (if bt5002.2 = bt5004.2 then (if bt5006.1.toList = bt5008.1.toList then (if bt5006.2 = bt5008.2 then (tinderlaw19_VarsForms.j0 k t5010 t5013 ((t5010.length : Int) != (t5013.length : Int))) else (tinderlaw19_VarsForms.j0 k t5010 t5013 true)) else (tinderlaw19_VarsForms.j0 k t5010 t5013 true)) else (tinderlaw19_VarsForms.j0 k t5010 t5013 true)) else (tinderlaw19_VarsForms.j0 k t5010 t5013 true)))))))) else (some false))) = some r := h
  clear h
  replace H := Option.bind_eq_some_iff.mp H
  obtain ⟨t5001, A30, H⟩ := H
  replace H : (if t5001 = true then ((vars_Form.f k a0 a1).bind fun bt5002 => ((tinderref19_Form.f k a0 a1).bind fun bt5004 => ((vars_Default.f k a0).bind fun bt5006 => ((tinderref19_Default.f k a0).bind fun bt5008 => ((vars_Names.f k).bind fun t5010 => ((tinderref19_Names.f k).bind fun t5013 => (if bt5002.1.toList = bt5004.1.toList then (if bt5002.2 = bt5004.2 then (if bt5006.1.toList = bt5008.1.toList then (if bt5006.2 = bt5008.2 then (tinderlaw19_VarsForms.j0 k t5010 t5013 ((t5010.length : Int) != (t5013.length : Int))) else (tinderlaw19_VarsForms.j0 k t5010 t5013 true)) else (tinderlaw19_VarsForms.j0 k t5010 t5013 true)) else (tinderlaw19_VarsForms.j0 k t5010 t5013 true)) else (tinderlaw19_VarsForms.j0 k t5010 t5013 true)))))))) else (some false)) = some r := H
  have A3 := Aside0.mk A30
  clear A30
  by_cases c4 : t5001 = true
  · subst c4
    have H1 : ((vars_Form.f k a0 a1).bind fun bt5002 => ((tinderref19_Form.f k a0 a1).bind fun bt5004 => ((vars_Default.f k a0).bind fun bt5006 => ((tinderref19_Default.f k a0).bind fun bt5008 => ((vars_Names.f k).bind fun t5010 => ((tinderref19_Names.f k).bind fun t5013 => (if bt5002.1.toList = bt5004.1.toList then (if bt5002.2 = bt5004.2 then (if bt5006.1.toList = bt5008.1.toList then (if bt5006.2 = bt5008.2 then (tinderlaw19_VarsForms.j0 k t5010 t5013 ((t5010.length : Int) != (t5013.length : Int))) else (tinderlaw19_VarsForms.j0 k t5010 t5013 true)) else (tinderlaw19_VarsForms.j0 k t5010 t5013 true)) else (tinderlaw19_VarsForms.j0 k t5010 t5013 true)) else (tinderlaw19_VarsForms.j0 k t5010 t5013 true)))))))) = some r := by rw [if_pos rfl] at H; exact H
    clear H
    have H := H1
    clear H1
    replace H := Option.bind_eq_some_iff.mp H
    obtain ⟨⟨t5002, t5003⟩, A50, H⟩ := H
    replace H : ((tinderref19_Form.f k a0 a1).bind fun bt5004 => ((vars_Default.f k a0).bind fun bt5006 => ((tinderref19_Default.f k a0).bind fun bt5008 => ((vars_Names.f k).bind fun t5010 => ((tinderref19_Names.f k).bind fun t5013 => (if t5002.toList = bt5004.1.toList then (if t5003 = bt5004.2 then (if bt5006.1.toList = bt5008.1.toList then (if bt5006.2 = bt5008.2 then (tinderlaw19_VarsForms.j0 k t5010 t5013 ((t5010.length : Int) != (t5013.length : Int))) else (tinderlaw19_VarsForms.j0 k t5010 t5013 true)) else (tinderlaw19_VarsForms.j0 k t5010 t5013 true)) else (tinderlaw19_VarsForms.j0 k t5010 t5013 true)) else (tinderlaw19_VarsForms.j0 k t5010 t5013 true))))))) = some r := H
    have A5 := Aside0.mk A50
    clear A50
    replace H := Option.bind_eq_some_iff.mp H
    obtain ⟨⟨t5004, t5005⟩, A60, H⟩ := H
    replace H : ((vars_Default.f k a0).bind fun bt5006 => ((tinderref19_Default.f k a0).bind fun bt5008 => ((vars_Names.f k).bind fun t5010 => ((tinderref19_Names.f k).bind fun t5013 => (if t5002.toList = t5004.toList then (if t5003 = t5005 then (if bt5006.1.toList = bt5008.1.toList then (if bt5006.2 = bt5008.2 then (tinderlaw19_VarsForms.j0 k t5010 t5013 ((t5010.length : Int) != (t5013.length : Int))) else (tinderlaw19_VarsForms.j0 k t5010 t5013 true)) else (tinderlaw19_VarsForms.j0 k t5010 t5013 true)) else (tinderlaw19_VarsForms.j0 k t5010 t5013 true)) else (tinderlaw19_VarsForms.j0 k t5010 t5013 true)))))) = some r := H
    have A6 := Aside0.mk A60
    clear A60
    replace H := Option.bind_eq_some_iff.mp H
    obtain ⟨⟨t5006, t5007⟩, A70, H⟩ := H
    replace H : ((tinderref19_Default.f k a0).bind fun bt5008 => ((vars_Names.f k).bind fun t5010 => ((tinderref19_Names.f k).bind fun t5013 => (if t5002.toList = t5004.toList then (if t5003 = t5005 then (if t5006.toList = bt5008.1.toList then (if t5007 = bt5008.2 then (tinderlaw19_VarsForms.j0 k t5010 t5013 ((t5010.length : Int) != (t5013.length : Int))) else (tinderlaw19_VarsForms.j0 k t5010 t5013 true)) else (tinderlaw19_VarsForms.j0 k t5010 t5013 true)) else (tinderlaw19_VarsForms.j0 k t5010 t5013 true)) else (tinderlaw19_VarsForms.j0 k t5010 t5013 true))))) = some r := H
    have A7 := Aside0.mk A70
    clear A70
    replace H := Option.bind_eq_some_iff.mp H
    obtain ⟨⟨t5008, t5009⟩, A80, H⟩ := H
    replace H : ((vars_Names.f k).bind fun t5010 => ((tinderref19_Names.f k).bind fun t5013 => (if t5002.toList = t5004.toList then (if t5003 = t5005 then (if t5006.toList = t5008.toList then (if t5007 = t5009 then (tinderlaw19_VarsForms.j0 k t5010 t5013 ((t5010.length : Int) != (t5013.length : Int))) else (tinderlaw19_VarsForms.j0 k t5010 t5013 true)) else (tinderlaw19_VarsForms.j0 k t5010 t5013 true)) else (tinderlaw19_VarsForms.j0 k t5010 t5013 true)) else (tinderlaw19_VarsForms.j0 k t5010 t5013 true)))) = some r := H
    have A8 := Aside0.mk A80
    clear A80
    replace H := Option.bind_eq_some_iff.mp H
    obtain ⟨t5010, A90, H⟩ := H
    replace H : ((tinderref19_Names.f k).bind fun t5013 => (if t5002.toList = t5004.toList then (if t5003 = t5005 then (if t5006.toList = t5008.toList then (if t5007 = t5009 then (tinderlaw19_VarsForms.j0 k t5010 t5013 ((t5010.length : Int) != (t5013.length : Int))) else (tinderlaw19_VarsForms.j0 k t5010 t5013 true)) else (tinderlaw19_VarsForms.j0 k t5010 t5013 true)) else (tinderlaw19_VarsForms.j0 k t5010 t5013 true)) else (tinderlaw19_VarsForms.j0 k t5010 t5013 true))) = some r := H
    have A9 := Aside0.mk A90
    clear A90
    replace H := Option.bind_eq_some_iff.mp H
    obtain ⟨t5013, A100, H⟩ := H
    replace H : (if t5002.toList = t5004.toList then (if t5003 = t5005 then (if t5006.toList = t5008.toList then (if t5007 = t5009 then (tinderlaw19_VarsForms.j0 k t5010 t5013 ((t5010.length : Int) != (t5013.length : Int))) else (tinderlaw19_VarsForms.j0 k t5010 t5013 true)) else (tinderlaw19_VarsForms.j0 k t5010 t5013 true)) else (tinderlaw19_VarsForms.j0 k t5010 t5013 true)) else (tinderlaw19_VarsForms.j0 k t5010 t5013 true)) = some r := H
    have A10 := Aside0.mk A100
    clear A100
    have HC11 := Aside0.mk H
    clear H
    go_enter Tryd.func4, Tryd.ntmps4
    go_upto_region 8 with (first | (go_at_call 11; (with_reducible refine (tinderlaw19_alive.calls  true _ ht A3.out).mono ?_); rintro e w12 ⟨rfl, hb⟩; have n0_ := Aside0.mk (below_step (by repeat (first | (with_reducible first | exact HB.out | apply below_alloc | apply pw_below_drewN | apply below_drew1) | exact HB.out)) hb); clear HB; have HB := n0_; clear n0_; (try clear hb); (try clear hb2); (try clear hk); (try clear hi)) | (go_at_call 17; (with_reducible refine (vars_Form.calls k a0 a1 t5002 t5003 _ (Tabs.below ht (by repeat (first | (with_reducible first | exact HB.out | apply below_alloc | apply pw_below_drewN | apply below_drew1 | refine below_set ?_ (Aside0.out (by assumption))) | exact HB.out))) A5.out).mono ?_); rintro e w13 ⟨rfl, hb⟩; have n0_ := Aside0.mk (below_step (by repeat (first | (with_reducible first | exact HB.out | apply below_alloc | apply pw_below_drewN | apply below_drew1) | exact HB.out)) hb); clear HB; have HB := n0_; clear n0_; (try clear hb); (try clear hb2); (try clear hk); (try clear hi)) | (go_at_call 18; (with_reducible refine (tinderref19_Form.calls k a0 a1 t5004 t5005 _ A6.out).mono ?_); rintro e w14 ⟨rfl, hb⟩; have n0_ := Aside0.mk (below_step (by repeat (first | (with_reducible first | exact HB.out | apply below_alloc | apply pw_below_drewN | apply below_drew1) | exact HB.out)) hb); clear HB; have HB := n0_; clear n0_; (try clear hb); (try clear hb2); (try clear hk); (try clear hi)) | (go_at_call 19; (with_reducible refine (vars_Default.calls k a0 t5006 t5007 _ A7.out).mono ?_); rintro e w15 ⟨rfl, hb⟩; have n0_ := Aside0.mk (below_step (by repeat (first | (with_reducible first | exact HB.out | apply below_alloc | apply pw_below_drewN | apply below_drew1) | exact HB.out)) hb); clear HB; have HB := n0_; clear n0_; (try clear hb); (try clear hb2); (try clear hk); (try clear hi)) | (go_at_call 20; (with_reducible refine (tinderref19_Default.calls k a0 t5008 t5009 _ A8.out).mono ?_); rintro e w' ⟨rfl, ⟨nd, rfl⟩⟩; (try first | exact ⟨rfl, _, World.drewN_drewN _ _ _⟩ | exact ⟨rfl, _, Eq.trans (World.drewN_drewN _ _ _) (congrArg (World.drewN _) (Nat.add_assoc _ _ _))⟩)) | (go_at_call 21; (with_reducible refine (vars_Names.calls k  t5010 _ A9.out).mono ?_); rintro e w16 ⟨v5011, rfl, ho0, hb⟩; have n0_ := Aside0.mk (Kd.R_lower ho0 (below_size (by repeat (first | (with_reducible first | exact HB.out | apply below_alloc | apply pw_below_drewN | apply below_drew1) | exact HB.out)))); have n1_ := Aside0.mk (below_step (by repeat (first | (with_reducible first | exact HB.out | apply below_alloc | apply pw_below_drewN | apply below_drew1) | exact HB.out)) hb); clear HB; have HO5012 := n0_; have HB := n1_; clear n0_ n1_; (try clear hb); (try clear hb2); (try clear hk); (try clear hi); (try clear ho0)) | (go_at_call 22; (with_reducible refine (tinderref19_Names.calls k  t5013 _ A10.out).mono ?_); rintro e w17 ⟨v5014, rfl, ho0, hb⟩; have n0_ := Aside0.mk (Kd.R_elder' (by (with_reducible repeat (first | apply Kd.R_alloc | apply Kd.R_drewN | apply Kd.R_drew)); exact HO5012.out) (Kd.R_base ho0) hb); have n1_ := Aside0.mk (Kd.R_lower (Kd.R_new' ho0 (Kd.R_lt (by (with_reducible repeat (first | apply Kd.R_alloc | apply Kd.R_drewN | apply Kd.R_drew)); exact HO5012.out))) (below_size (by repeat (first | (with_reducible first | exact HB.out | apply below_alloc | apply pw_below_drewN | apply below_drew1) | exact HB.out)))); have n2_ := Aside0.mk (below_step (by repeat (first | (with_reducible first | exact HB.out | apply below_alloc | apply pw_below_drewN | apply below_drew1) | exact HB.out)) hb); clear HO5012; clear HB; have HO5012 := n0_; have HO5015 := n1_; have HB := n2_; clear n0_ n1_ n2_; (try clear hb); (try clear hb2); (try clear hk); (try clear hi); (try clear ho0)))
    repeat (go_quiet (first | (go_at_call 11; (with_reducible refine (tinderlaw19_alive.calls  true _ ht A3.out).mono ?_); rintro e w12 ⟨rfl, hb⟩; have n0_ := Aside0.mk (below_step (by repeat (first | (with_reducible first | exact HB.out | apply below_alloc | apply pw_below_drewN | apply below_drew1) | exact HB.out)) hb); clear HB; have HB := n0_; clear n0_; (try clear hb); (try clear hb2); (try clear hk); (try clear hi)) | (go_at_call 17; (with_reducible refine (vars_Form.calls k a0 a1 t5002 t5003 _ (Tabs.below ht (by repeat (first | (with_reducible first | exact HB.out | apply below_alloc | apply pw_below_drewN | apply below_drew1 | refine below_set ?_ (Aside0.out (by assumption))) | exact HB.out))) A5.out).mono ?_); rintro e w13 ⟨rfl, hb⟩; have n0_ := Aside0.mk (below_step (by repeat (first | (with_reducible first | exact HB.out | apply below_alloc | apply pw_below_drewN | apply below_drew1) | exact HB.out)) hb); clear HB; have HB := n0_; clear n0_; (try clear hb); (try clear hb2); (try clear hk); (try clear hi)) | (go_at_call 18; (with_reducible refine (tinderref19_Form.calls k a0 a1 t5004 t5005 _ A6.out).mono ?_); rintro e w14 ⟨rfl, hb⟩; have n0_ := Aside0.mk (below_step (by repeat (first | (with_reducible first | exact HB.out | apply below_alloc | apply pw_below_drewN | apply below_drew1) | exact HB.out)) hb); clear HB; have HB := n0_; clear n0_; (try clear hb); (try clear hb2); (try clear hk); (try clear hi)) | (go_at_call 19; (with_reducible refine (vars_Default.calls k a0 t5006 t5007 _ A7.out).mono ?_); rintro e w15 ⟨rfl, hb⟩; have n0_ := Aside0.mk (below_step (by repeat (first | (with_reducible first | exact HB.out | apply below_alloc | apply pw_below_drewN | apply below_drew1) | exact HB.out)) hb); clear HB; have HB := n0_; clear n0_; (try clear hb); (try clear hb2); (try clear hk); (try clear hi)) | (go_at_call 20; (with_reducible refine (tinderref19_Default.calls k a0 t5008 t5009 _ A8.out).mono ?_); rintro e w' ⟨rfl, ⟨nd, rfl⟩⟩; (try first | exact ⟨rfl, _, World.drewN_drewN _ _ _⟩ | exact ⟨rfl, _, Eq.trans (World.drewN_drewN _ _ _) (congrArg (World.drewN _) (Nat.add_assoc _ _ _))⟩)) | (go_at_call 21; (with_reducible refine (vars_Names.calls k  t5010 _ A9.out).mono ?_); rintro e w16 ⟨v5011, rfl, ho0, hb⟩; have n0_ := Aside0.mk (Kd.R_lower ho0 (below_size (by repeat (first | (with_reducible first | exact HB.out | apply below_alloc | apply pw_below_drewN | apply below_drew1) | exact HB.out)))); have n1_ := Aside0.mk (below_step (by repeat (first | (with_reducible first | exact HB.out | apply below_alloc | apply pw_below_drewN | apply below_drew1) | exact HB.out)) hb); clear HB; have HO5012 := n0_; have HB := n1_; clear n0_ n1_; (try clear hb); (try clear hb2); (try clear hk); (try clear hi); (try clear ho0)) | (go_at_call 22; (with_reducible refine (tinderref19_Names.calls k  t5013 _ A10.out).mono ?_); rintro e w17 ⟨v5014, rfl, ho0, hb⟩; have n0_ := Aside0.mk (Kd.R_elder' (by (with_reducible repeat (first | apply Kd.R_alloc | apply Kd.R_drewN | apply Kd.R_drew)); exact HO5012.out) (Kd.R_base ho0) hb); have n1_ := Aside0.mk (Kd.R_lower (Kd.R_new' ho0 (Kd.R_lt (by (with_reducible repeat (first | apply Kd.R_alloc | apply Kd.R_drewN | apply Kd.R_drew)); exact HO5012.out))) (below_size (by repeat (first | (with_reducible first | exact HB.out | apply below_alloc | apply pw_below_drewN | apply below_drew1) | exact HB.out)))); have n2_ := Aside0.mk (below_step (by repeat (first | (with_reducible first | exact HB.out | apply below_alloc | apply pw_below_drewN | apply below_drew1) | exact HB.out)) hb); clear HO5012; clear HB; have HO5012 := n0_; have HO5015 := n1_; have HB := n2_; clear n0_ n1_ n2_; (try clear hb); (try clear hb2); (try clear hk); (try clear hi); (try clear ho0))); go_upto_region 8 with (first | (go_at_call 11; (with_reducible refine (tinderlaw19_alive.calls  true _ ht A3.out).mono ?_); rintro e w12 ⟨rfl, hb⟩; have n0_ := Aside0.mk (below_step (by repeat (first | (with_reducible first | exact HB.out | apply below_alloc | apply pw_below_drewN | apply below_drew1) | exact HB.out)) hb); clear HB; have HB := n0_; clear n0_; (try clear hb); (try clear hb2); (try clear hk); (try clear hi)) | (go_at_call 17; (with_reducible refine (vars_Form.calls k a0 a1 t5002 t5003 _ (Tabs.below ht (by repeat (first | (with_reducible first | exact HB.out | apply below_alloc | apply pw_below_drewN | apply below_drew1 | refine below_set ?_ (Aside0.out (by assumption))) | exact HB.out))) A5.out).mono ?_); rintro e w13 ⟨rfl, hb⟩; have n0_ := Aside0.mk (below_step (by repeat (first | (with_reducible first | exact HB.out | apply below_alloc | apply pw_below_drewN | apply below_drew1) | exact HB.out)) hb); clear HB; have HB := n0_; clear n0_; (try clear hb); (try clear hb2); (try clear hk); (try clear hi)) | (go_at_call 18; (with_reducible refine (tinderref19_Form.calls k a0 a1 t5004 t5005 _ A6.out).mono ?_); rintro e w14 ⟨rfl, hb⟩; have n0_ := Aside0.mk (below_step (by repeat (first | (with_reducible first | exact HB.out | apply below_alloc | apply pw_below_drewN | apply below_drew1) | exact HB.out)) hb); clear HB; have HB := n0_; clear n0_; (try clear hb); (try clear hb2); (try clear hk); (try clear hi)) | (go_at_call 19; (with_reducible refine (vars_Default.calls k a0 t5006 t5007 _ A7.out).mono ?_); rintro e w15 ⟨rfl, hb⟩; have n0_ := Aside0.mk (below_step (by repeat (first | (with_reducible first | exact HB.out | apply below_alloc | apply pw_below_drewN | apply below_drew1) | exact HB.out)) hb); clear HB; have HB := n0_; clear n0_; (try clear hb); (try clear hb2); (try clear hk); (try clear hi)) | (go_at_call 20; (with_reducible refine (tinderref19_Default.calls k a0 t5008 t5009 _ A8.out).mono ?_); rintro e w' ⟨rfl, ⟨nd, rfl⟩⟩; (try first | exact ⟨rfl, _, World.drewN_drewN _ _ _⟩ | exact ⟨rfl, _, Eq.trans (World.drewN_drewN _ _ _) (congrArg (World.drewN _) (Nat.add_assoc _ _ _))⟩)) | (go_at_call 21; (with_reducible refine (vars_Names.calls k  t5010 _ A9.out).mono ?_); rintro e w16 ⟨v5011, rfl, ho0, hb⟩; have n0_ := Aside0.mk (Kd.R_lower ho0 (below_size (by repeat (first | (with_reducible first | exact HB.out | apply below_alloc | apply pw_below_drewN | apply below_drew1) | exact HB.out)))); have n1_ := Aside0.mk (below_step (by repeat (first | (with_reducible first | exact HB.out | apply below_alloc | apply pw_below_drewN | apply below_drew1) | exact HB.out)) hb); clear HB; have HO5012 := n0_; have HB := n1_; clear n0_ n1_; (try clear hb); (try clear hb2); (try clear hk); (try clear hi); (try clear ho0)) | (go_at_call 22; (with_reducible refine (tinderref19_Names.calls k  t5013 _ A10.out).mono ?_); rintro e w17 ⟨v5014, rfl, ho0, hb⟩; have n0_ := Aside0.mk (Kd.R_elder' (by (with_reducible repeat (first | apply Kd.R_alloc | apply Kd.R_drewN | apply Kd.R_drew)); exact HO5012.out) (Kd.R_base ho0) hb); have n1_ := Aside0.mk (Kd.R_lower (Kd.R_new' ho0 (Kd.R_lt (by (with_reducible repeat (first | apply Kd.R_alloc | apply Kd.R_drewN | apply Kd.R_drew)); exact HO5012.out))) (below_size (by repeat (first | (with_reducible first | exact HB.out | apply below_alloc | apply pw_below_drewN | apply below_drew1) | exact HB.out)))); have n2_ := Aside0.mk (below_step (by repeat (first | (with_reducible first | exact HB.out | apply below_alloc | apply pw_below_drewN | apply below_drew1) | exact HB.out)) hb); clear HO5012; clear HB; have HO5012 := n0_; have HO5015 := n1_; have HB := n2_; clear n0_ n1_ n2_; (try clear hb); (try clear hb2); (try clear hk); (try clear hi); (try clear ho0))))
    (try simp only [Act.put, List.setIfInBounds_toArray, List.set_cons_zero, List.set_cons_succ])
    go_cut [66] (fun v66 wc => ∃ (kq : Nat) (x66_10 : Bool), v66 = .bool x66_10 ∧ Aside0 (tinderlaw19_VarsForms.j0 kq t5010 t5013 x66_10 = some r) ∧ Aside0 (kq ≤ k) ∧ Aside0 (Kd.R Kd.string 9 wc w.heap.size (fun k_ => some k_ ≠ (v5014 : Value).ownBlock) v5011 t5010) ∧ Aside0 (Kd.R Kd.string 9 wc w.heap.size (fun k_ => some k_ ≠ (v5011 : Value).ownBlock) v5014 t5013) ∧ Aside0 (Below w.heap.size w wc))
    case first =>
      have H := HC11.out
      clear HC11
      by_cases c18 : t5002.toList = t5004.toList
      · rw [if_pos c18] at H
        have c18b0 : (t5002.toList == t5004.toList) = true := beq_iff_eq.mpr c18
        have c18b1 : (t5002.toList != t5004.toList) = false := bne_eq_false_iff_eq.mpr c18
        clear c18
        (first | rw [c18b0] | (simp only [i64_w, i32_w]; rw [c18b0]) | skip)
        by_cases c19 : t5003 = t5005
        · rw [if_pos c19] at H
          have c19b0 : (t5003 == t5005) = true := beq_iff_eq.mpr c19
          have c19b1 : (t5003 != t5005) = false := bne_eq_false_iff_eq.mpr c19
          clear c19
          by_cases c20 : t5006.toList = t5008.toList
          · rw [if_pos c20] at H
            have c20b0 : (t5006.toList == t5008.toList) = true := beq_iff_eq.mpr c20
            have c20b1 : (t5006.toList != t5008.toList) = false := bne_eq_false_iff_eq.mpr c20
            clear c20
            by_cases c21 : t5007 = t5009
            · rw [if_pos c21] at H
              have c21b0 : (t5007 == t5009) = true := beq_iff_eq.mpr c21
              have c21b1 : (t5007 != t5009) = false := bne_eq_false_iff_eq.mpr c21
              clear c21
              have H' := Aside0.mk H
              clear H
              obtain ⟨Ao22, co22, eo22⟩ := Kd.R_slice HO5012.out
              subst eo22
              obtain ⟨Ao23, co23, eo23⟩ := Kd.R_slice HO5015.out
              subst eo23
              go_wp2
              repeat (go_quiet (fail); try go_wp2)
              go_meet
              case rel => exact ⟨_, (((t5010.length : Int) != (t5013.length : Int))), (by first | rfl | (simp; done) | (simp [*]; done)), H', ⟨by first | omega | exact Nat.le_refl _⟩, ⟨by (with_reducible repeat (first | apply Kd.R_alloc | apply Kd.R_drewN | apply Kd.R_drew)); exact Kd.R_mono HO5012.out (fun _ hk => hk.2)⟩, ⟨by (with_reducible repeat (first | apply Kd.R_alloc | apply Kd.R_drewN | apply Kd.R_drew)); exact Kd.R_mono HO5015.out (fun _ hk => hk.2)⟩, ⟨by repeat (first | (with_reducible first | exact HB.out | apply below_alloc | apply pw_below_drewN | apply below_drew1) | exact HB.out)⟩⟩
            · rw [if_neg c21] at H
              have c21b0 : (t5007 == t5009) = false := beq_eq_false_iff_ne.mpr c21
              have c21b1 : (t5007 != t5009) = true := bne_iff_ne.mpr c21
              have H' := Aside0.mk H
              clear H
              go_wp2
              repeat (go_quiet (fail); try go_wp2)
              go_meet
              case rel => exact ⟨_, (true), (by first | rfl | (simp; done) | (simp [*]; done)), H', ⟨by first | omega | exact Nat.le_refl _⟩, ⟨by (with_reducible repeat (first | apply Kd.R_alloc | apply Kd.R_drewN | apply Kd.R_drew)); exact Kd.R_mono HO5012.out (fun _ hk => hk.2)⟩, ⟨by (with_reducible repeat (first | apply Kd.R_alloc | apply Kd.R_drewN | apply Kd.R_drew)); exact Kd.R_mono HO5015.out (fun _ hk => hk.2)⟩, ⟨by repeat (first | (with_reducible first | exact HB.out | apply below_alloc | apply pw_below_drewN | apply below_drew1) | exact HB.out)⟩⟩
          · rw [if_neg c20] at H
            have c20b0 : (t5006.toList == t5008.toList) = false := beq_eq_false_iff_ne.mpr c20
            have c20b1 : (t5006.toList != t5008.toList) = true := bne_iff_ne.mpr c20
            have H' := Aside0.mk H
            clear H
            go_wp2
            repeat (go_quiet (fail); try go_wp2)
            go_meet
            case rel => exact ⟨_, (true), (by first | rfl | (simp; done) | (simp [*]; done)), H', ⟨by first | omega | exact Nat.le_refl _⟩, ⟨by (with_reducible repeat (first | apply Kd.R_alloc | apply Kd.R_drewN | apply Kd.R_drew)); exact Kd.R_mono HO5012.out (fun _ hk => hk.2)⟩, ⟨by (with_reducible repeat (first | apply Kd.R_alloc | apply Kd.R_drewN | apply Kd.R_drew)); exact Kd.R_mono HO5015.out (fun _ hk => hk.2)⟩, ⟨by repeat (first | (with_reducible first | exact HB.out | apply below_alloc | apply pw_below_drewN | apply below_drew1) | exact HB.out)⟩⟩
        · rw [if_neg c19] at H
          have c19b0 : (t5003 == t5005) = false := beq_eq_false_iff_ne.mpr c19
          have c19b1 : (t5003 != t5005) = true := bne_iff_ne.mpr c19
          have H' := Aside0.mk H
          clear H
          go_wp2
          repeat (go_quiet (fail); try go_wp2)
          go_meet
          case rel => exact ⟨_, (true), (by first | rfl | (simp; done) | (simp [*]; done)), H', ⟨by first | omega | exact Nat.le_refl _⟩, ⟨by (with_reducible repeat (first | apply Kd.R_alloc | apply Kd.R_drewN | apply Kd.R_drew)); exact Kd.R_mono HO5012.out (fun _ hk => hk.2)⟩, ⟨by (with_reducible repeat (first | apply Kd.R_alloc | apply Kd.R_drewN | apply Kd.R_drew)); exact Kd.R_mono HO5015.out (fun _ hk => hk.2)⟩, ⟨by repeat (first | (with_reducible first | exact HB.out | apply below_alloc | apply pw_below_drewN | apply below_drew1) | exact HB.out)⟩⟩
      · rw [if_neg c18] at H
        have c18b0 : (t5002.toList == t5004.toList) = false := beq_eq_false_iff_ne.mpr c18
        have c18b1 : (t5002.toList != t5004.toList) = true := bne_iff_ne.mpr c18
        (first | rw [c18b0] | (simp only [i64_w, i32_w]; rw [c18b0]) | skip)
        have H' := Aside0.mk H
        clear H
        go_wp2
        repeat (go_quiet (fail); try go_wp2)
        go_meet
        case rel => exact ⟨_, (true), (by first | rfl | (simp; done) | (simp [*]; done)), H', ⟨by first | omega | exact Nat.le_refl _⟩, ⟨by (with_reducible repeat (first | apply Kd.R_alloc | apply Kd.R_drewN | apply Kd.R_drew)); exact Kd.R_mono HO5012.out (fun _ hk => hk.2)⟩, ⟨by (with_reducible repeat (first | apply Kd.R_alloc | apply Kd.R_drewN | apply Kd.R_drew)); exact Kd.R_mono HO5015.out (fun _ hk => hk.2)⟩, ⟨by repeat (first | (with_reducible first | exact HB.out | apply below_alloc | apply pw_below_drewN | apply below_drew1) | exact HB.out)⟩⟩
    case rest =>
      clear HC11
      try clear c1
      try clear c2
      try clear p2
      try clear c4
      try clear c18
      try clear c18b0
      try clear c18b1
      try clear c19
      try clear c19b0
      try clear c19b1
      try clear c20
      try clear c20b0
      try clear c20b1
      try clear c21
      try clear c21b0
      try clear c21b1
      obtain ⟨kq, x66_10, rfl, HA, HJ10, HO_13, HO_14, HB⟩ := hcut
      cases kq with
      | zero => exact absurd HA.out (by simp [tinderlaw19_VarsForms.j0])
      | succ kj10 =>
        have H := HA.out
        clear HA
        simp only [tinderlaw19_VarsForms.j0] at H
        by_cases c24 : x66_10 = true
        · subst c24
          have H1 : (some false) = some r := by rw [if_pos rfl] at H; exact H
          clear H
          have H := H1
          clear H1
          obtain rfl := Option.some.inj H
          go_wp2
          repeat (go_quiet (fail); try go_wp2)
          go_ret
          exact ⟨by first | rfl | (simp [errW_none, errW_some] <;> rfl) | (simp [*, errW_none, errW_some] <;> rfl), by repeat (first | (with_reducible first | exact HB.out | apply below_alloc | apply pw_below_drewN | apply below_drew1) | exact HB.out)⟩
        · replace c24 := Bool.eq_false_iff.mpr c24
          subst c24
          have H1 : (tinderlaw19_VarsForms.l0 kj10 t5010 t5013 0) = some r := by rw [if_neg (show ¬ (false = true) by decide)] at H; exact H
          clear H
          have H := H1
          clear H1
          have H' := Aside0.mk H
          clear H
          go_wp2
          repeat (go_quiet (fail); try go_wp2)
          go_loopg [15] kj10 (fun kq v15 w' => ∃ (x15_2 : Int), v15 = .int .i64 x15_2 ∧ Aside0 (tinderlaw19_VarsForms.l0 kq t5010 t5013 x15_2 = some r) ∧ Aside0 (kq ≤ kj10) ∧ Aside0 (Kd.R Kd.string 9 w' w.heap.size (fun k_ => some k_ ≠ (v5014 : Value).ownBlock) v5011 t5010) ∧ Aside0 (Kd.R Kd.string 9 w' w.heap.size (fun k_ => some k_ ≠ (v5011 : Value).ownBlock) v5014 t5013) ∧ Aside0 (Below w.heap.size w w'))
          case atStart => exact ⟨(0), (by first | rfl | (simp; done) | (simp [*]; done)), H', ⟨Nat.le_refl _⟩, ⟨by (with_reducible repeat (first | apply Kd.R_alloc | apply Kd.R_drewN | apply Kd.R_drew)); exact HO_13.out⟩, ⟨by (with_reducible repeat (first | apply Kd.R_alloc | apply Kd.R_drewN | apply Kd.R_drew)); exact HO_14.out⟩, ⟨by repeat (first | (with_reducible first | exact HB.out | apply below_alloc | apply pw_below_drewN | apply below_drew1) | exact HB.out)⟩⟩
          case round =>
            clear H'
            try clear c1
            try clear c2
            try clear p2
            try clear c4
            try clear c18
            try clear c18b0
            try clear c18b1
            try clear c19
            try clear c19b0
            try clear c19b1
            try clear c20
            try clear c20b0
            try clear c20b1
            try clear c21
            try clear c21b0
            try clear c21b1
            try clear c24
            try clear p2
            obtain ⟨x15_2, rfl, HA, HK2, HO_13, HO_14, HB⟩ := hrel
            cases gk with
            | zero => exact absurd HA.out (by simp [tinderlaw19_VarsForms.l0])
            | succ k2 =>
              have H := HA.out
              clear HA
              simp only [tinderlaw19_VarsForms.l0] at H
              by_cases c25 : x15_2 < (t5010.length : Int)
              · rw [if_pos c25] at H
                have c25b0 : decide (x15_2 < (t5010.length : Int)) = true := decide_eq_true c25
                clear c25
                by_cases c26 : 0 ≤ x15_2
                · rw [if_pos c26] at H
                  have c26b0 : decide (0 ≤ x15_2) = true := decide_eq_true c26
                  clear c26
                  by_cases c27 : x15_2 < (t5013.length : Int)
                  · rw [if_pos c27] at H
                    have c27b0 : decide (x15_2 < (t5013.length : Int)) = true := decide_eq_true c27
                    clear c27
                    by_cases c28 : (rdOf ByteArray.empty t5010 x15_2).toList = (rdOf ByteArray.empty t5013 x15_2).toList
                    · rw [if_pos c28] at H
                      have c28b0 : ((rdOf ByteArray.empty t5010 x15_2).toList == (rdOf ByteArray.empty t5013 x15_2).toList) = true := beq_iff_eq.mpr c28
                      have c28b1 : ((rdOf ByteArray.empty t5010 x15_2).toList != (rdOf ByteArray.empty t5013 x15_2).toList) = false := bne_eq_false_iff_eq.mpr c28
                      clear c28
                      have H' := Aside0.mk H
                      clear H
                      obtain ⟨Ao29, co29, eo29⟩ := Kd.R_slice HO_13.out
                      subst eo29
                      have p5016 : 0 ≤ (x15_2 : Int) := of_decide_eq_true (by first | (with_reducible assumption) | assumption)
                      have q5016 : x15_2 < (t5010.length : Int) := of_decide_eq_true (by first | (with_reducible assumption) | assumption)
                      obtain ⟨ad5016, e5016, hx5016_0⟩ := Kd.at_string (Kd.R_reads' HO_13.out).2.2 x15_2 p5016 q5016
                      cases e5016
                      replace p5016 := eq_true p5016
                      replace q5016 := eq_true q5016
                      obtain ⟨Ao30, co30, eo30⟩ := Kd.R_slice HO_14.out
                      subst eo30
                      have p5017 : 0 ≤ (x15_2 : Int) := of_decide_eq_true (by first | (with_reducible assumption) | assumption)
                      have q5017 : x15_2 < (t5013.length : Int) := of_decide_eq_true (by first | (with_reducible assumption) | assumption)
                      obtain ⟨ad5017, e5017, hx5017_0⟩ := Kd.at_string (Kd.R_reads' HO_14.out).2.2 x15_2 p5017 q5017
                      cases e5017
                      replace p5017 := eq_true p5017
                      replace q5017 := eq_true q5017
                      go_wp2
                      repeat (go_quiet (fail); try go_wp2)
                      go_roundg k2
                      case measure => have := HJ10.out; have := HK2.out; omega
                      case rel => exact ⟨(wrap64 (x15_2 + 1)), (by first | rfl | (simp; done) | (simp [*]; done)), H', ⟨by have := HJ10.out; have := HK2.out; omega⟩, ⟨by (with_reducible repeat (first | apply Kd.R_alloc | apply Kd.R_drewN | apply Kd.R_drew)); exact HO_13.out⟩, ⟨by (with_reducible repeat (first | apply Kd.R_alloc | apply Kd.R_drewN | apply Kd.R_drew)); exact HO_14.out⟩, ⟨by repeat (first | (with_reducible first | exact HB.out | apply below_alloc | apply pw_below_drewN | apply below_drew1) | exact HB.out)⟩⟩
                    · rw [if_neg c28] at H
                      have c28b0 : ((rdOf ByteArray.empty t5010 x15_2).toList == (rdOf ByteArray.empty t5013 x15_2).toList) = false := beq_eq_false_iff_ne.mpr c28
                      have c28b1 : ((rdOf ByteArray.empty t5010 x15_2).toList != (rdOf ByteArray.empty t5013 x15_2).toList) = true := bne_iff_ne.mpr c28
                      obtain rfl := Option.some.inj H
                      obtain ⟨Ao31, co31, eo31⟩ := Kd.R_slice HO_13.out
                      subst eo31
                      have p5016 : 0 ≤ (x15_2 : Int) := of_decide_eq_true (by first | (with_reducible assumption) | assumption)
                      have q5016 : x15_2 < (t5010.length : Int) := of_decide_eq_true (by first | (with_reducible assumption) | assumption)
                      obtain ⟨ad5016, e5016, hx5016_0⟩ := Kd.at_string (Kd.R_reads' HO_13.out).2.2 x15_2 p5016 q5016
                      cases e5016
                      replace p5016 := eq_true p5016
                      replace q5016 := eq_true q5016
                      obtain ⟨Ao32, co32, eo32⟩ := Kd.R_slice HO_14.out
                      subst eo32
                      have p5017 : 0 ≤ (x15_2 : Int) := of_decide_eq_true (by first | (with_reducible assumption) | assumption)
                      have q5017 : x15_2 < (t5013.length : Int) := of_decide_eq_true (by first | (with_reducible assumption) | assumption)
                      obtain ⟨ad5017, e5017, hx5017_0⟩ := Kd.at_string (Kd.R_reads' HO_14.out).2.2 x15_2 p5017 q5017
                      cases e5017
                      replace p5017 := eq_true p5017
                      replace q5017 := eq_true q5017
                      go_wp2
                      repeat (go_quiet (fail); try go_wp2)
                      go_ret
                      exact ⟨by first | rfl | (simp [errW_none, errW_some] <;> rfl) | (simp [*, errW_none, errW_some] <;> rfl), by repeat (first | (with_reducible first | exact HB.out | apply below_alloc | apply pw_below_drewN | apply below_drew1) | exact HB.out)⟩
                  · rw [if_neg c27] at H
                    exact absurd H (by simp)
                · rw [if_neg c26] at H
                  exact absurd H (by simp)
              · rw [if_neg c25] at H
                have c25b0 : decide (x15_2 < (t5010.length : Int)) = false := decide_eq_false c25
                clear c25
                obtain rfl := Option.some.inj H
                obtain ⟨Ao33, co33, eo33⟩ := Kd.R_slice HO_13.out
                subst eo33
                go_wp2
                repeat (go_quiet (fail); try go_wp2)
                go_ret
                exact ⟨by first | rfl | (simp [errW_none, errW_some] <;> rfl) | (simp [*, errW_none, errW_some] <;> rfl), by repeat (first | (with_reducible first | exact HB.out | apply below_alloc | apply pw_below_drewN | apply below_drew1) | exact HB.out)⟩
  · replace c4 := Bool.eq_false_iff.mpr c4
    subst c4
    have H1 : (some false) = some r := by rw [if_neg (show ¬ (false = true) by decide)] at H; exact H
    clear H
    have H := H1
    clear H1
    obtain rfl := Option.some.inj H
    go_enter Tryd.func4, Tryd.ntmps4
    go_wp2_with (first | (go_at_call 11; (with_reducible refine (tinderlaw19_alive.calls  false _ ht A3.out).mono ?_); rintro e w34 ⟨rfl, hb⟩; have n0_ := Aside0.mk (below_step (by repeat (first | (with_reducible first | exact HB.out | apply below_alloc | apply pw_below_drewN | apply below_drew1) | exact HB.out)) hb); clear HB; have HB := n0_; clear n0_; (try clear hb); (try clear hb2); (try clear hk); (try clear hi)))
    repeat (go_quiet (first | (go_at_call 11; (with_reducible refine (tinderlaw19_alive.calls  false _ ht A3.out).mono ?_); rintro e w34 ⟨rfl, hb⟩; have n0_ := Aside0.mk (below_step (by repeat (first | (with_reducible first | exact HB.out | apply below_alloc | apply pw_below_drewN | apply below_drew1) | exact HB.out)) hb); clear HB; have HB := n0_; clear n0_; (try clear hb); (try clear hb2); (try clear hk); (try clear hi))); try go_wp2_with (first | (go_at_call 11; (with_reducible refine (tinderlaw19_alive.calls  false _ ht A3.out).mono ?_); rintro e w34 ⟨rfl, hb⟩; have n0_ := Aside0.mk (below_step (by repeat (first | (with_reducible first | exact HB.out | apply below_alloc | apply pw_below_drewN | apply below_drew1) | exact HB.out)) hb); clear HB; have HB := n0_; clear n0_; (try clear hb); (try clear hb2); (try clear hk); (try clear hi))))
    go_ret
    exact ⟨by first | rfl | (simp [errW_none, errW_some] <;> rfl) | (simp [*, errW_none, errW_some] <;> rfl), by repeat (first | (with_reducible first | exact HB.out | apply below_alloc | apply pw_below_drewN | apply below_drew1) | exact HB.out)⟩

/-- THE ONE PURE STATEMENT of tinderlaw19_VarsForms: yours. -/
def tinderlaw19_VarsForms.Pure : Prop := ∀ (a0 : ByteArray) (a1 : ByteArray), a0.size ≤ 140737488351232 → a1.size ≤ 140737488351232 → ∃ k, tinderlaw19_VarsForms.f k a0 a1 = some true
theorem tinderlaw19_VarsForms.walk (P : tinderlaw19_VarsForms.Pure) (a0 : ByteArray) (a1 : ByteArray) (w : World) (ht : Tabs w) (w0 : a0.size ≤ 140737488351232) (w1 : a1.size ≤ 140737488351232) :
    Calls Tryd.prog 4 #[.string a0, .string a1] w fun e w' => e = .returned (.bool true) ∧ Below w.heap.size w w' := by
  obtain ⟨k, h⟩ := P a0 a1 w0 w1
  refine (tinderlaw19_VarsForms.calls k a0 a1 true w ht h).mono ?_
  rintro e w' ⟨rfl, hd⟩
  exact ⟨rfl, hd⟩

end Go.Proofs.YtefhngadeimklaaDoor.Q
end
section
namespace Go.Proofs.YtefhngadeimklaaDoor.Q
open Go.RowKit Go.Proofs.YtefhngadeimklaaDoorW.PrintWords Go.Proofs.YtefhngadeimklaaDoorW.PrintLast Go.Proofs.YtefhngadeimklaaDoorW.PrintMore
set_option linter.unusedVariables false
set_option linter.unusedSimpArgs false

attribute [local go_sem] max2_int min2_int max_two min_two max_three min_three max_four min_four
/-! ### tinderref19_value: function 44 -/
def tinderref19_value.l0 : Nat → List (S40) → ByteArray → Int → Option (ByteArray)
  | 0, _, _, _ => none
  | k + 1, x0, x1, x5 => if x5 < (x0.length : Int) then (if 0 ≤ x5 then (if ((rd_T40 x0 x5).f0).toList = x1.toList then (some ((rd_T40 x0 x5).f1)) else (tinderref19_value.l0 k x0 x1 (wrap64 (x5 + 1)))) else (none)) else ((tinderref19_Default.f k x1).bind fun bt45003 => (some bt45003.1))
def tinderref19_value.f (k : Nat) (l0 : List (S40)) (a1 : ByteArray) : Option (ByteArray) := tinderref19_value.l0 k l0 a1 0
theorem tinderref19_value.mono_l : ∀ k, (∀ y0 y1 y2, LeO (tinderref19_value.l0 k y0 y1 y2) (tinderref19_value.l0 (k + 1) y0 y1 y2))
  | 0 => fun _ _ _ r h => by simp [tinderref19_value.l0] at h
  | k + 1 => by
    have ih0 := tinderref19_value.mono_l k
    · intro y0 y1 y2
      unfold tinderref19_value.l0
      repeat' first
      | (with_reducible exact ih0 _ _ _)
      | (with_reducible exact tinderref19_Default.mono _ _)
      | (with_reducible exact LeO.refl _)
      | (with_reducible exact LeO.none _)
      | (with_reducible refine LeO.ite ?_ ?_)
      | (with_reducible refine LeO.bind ?_ (fun _ => ?_))
      | exact ih0 _ _ _
      | exact tinderref19_Default.mono _ _
      | exact LeO.none _
      | refine LeO.ite ?_ ?_
      | refine LeO.bind ?_ (fun _ => ?_)
theorem tinderref19_value.mono : ∀ a0 a1 k, LeO (tinderref19_value.f k a0 a1) (tinderref19_value.f (k + 1) a0 a1) := by
  intro a0 a1 k
  have ih0 := tinderref19_value.mono_l k
  unfold tinderref19_value.f
  repeat' first
      | (with_reducible exact ih0 _ _ _)
      | (with_reducible exact tinderref19_Default.mono _ _)
      | (with_reducible exact LeO.refl _)
      | (with_reducible exact LeO.none _)
      | (with_reducible refine LeO.ite ?_ ?_)
      | (with_reducible refine LeO.bind ?_ (fun _ => ?_))
      | exact ih0 _ _ _
      | exact tinderref19_Default.mono _ _
      | exact LeO.none _
      | refine LeO.ite ?_ ?_
      | refine LeO.bind ?_ (fun _ => ?_)
set_option maxHeartbeats 8000000 in
set_option maxRecDepth 100000 in
theorem tinderref19_value.calls (k : Nat) (A0 : Option Addr) (c0 : Nat) (l0 : List (S40)) (a1 : ByteArray) (r : ByteArray) (w : World) (hr0 : Kd.C k40 w A0 l0.length l0) (hc0 : l0.length ≤ c0) (h : tinderref19_value.f k l0 a1 = some r) :
    Calls Tryd.prog 44 #[.slice A0 l0.length c0, .string a1] w fun e w' => e = .returned (.string r) ∧ Drawn0 w w' := by
  have HR0 := Aside0.mk hr0
  have HC0 := Aside0.mk hc0
  clear hr0 hc0
  have H : (tinderref19_value.l0 k l0 a1 0) = some r := h
  clear h
  have H' := Aside0.mk H
  clear H
  go_enter Tryd.func44, Tryd.ntmps44
  go_wp2
  go_loopg [5] k (fun kq v5 w' => ∃ (x5_1 : Int), v5 = .int .i64 x5_1 ∧ Aside0 (tinderref19_value.l0 kq l0 a1 x5_1 = some r) ∧ Aside0 (kq ≤ k) ∧ Drawn0 w w')
  case atStart => exact ⟨(0), (by first | rfl | (simp; done) | (simp [*]; done)), H', ⟨Nat.le_refl _⟩, by repeat (first | exact Drawn0.refl _ | apply Drawn0.step)⟩
  case round =>
    clear H'
    try clear p2
    obtain ⟨x5_1, rfl, HA, HK1, ⟨m1, rfl⟩⟩ := hrel
    cases gk with
    | zero => exact absurd HA.out (by simp [tinderref19_value.l0])
    | succ k1 =>
      have H := HA.out
      clear HA
      simp only [tinderref19_value.l0] at H
      by_cases c3 : x5_1 < (l0.length : Int)
      · rw [if_pos c3] at H
        have c3b0 : decide (x5_1 < (l0.length : Int)) = true := decide_eq_true c3
        clear c3
        by_cases c4 : 0 ≤ x5_1
        · rw [if_pos c4] at H
          have c4b0 : decide (0 ≤ x5_1) = true := decide_eq_true c4
          clear c4
          by_cases c5 : ((rd_T40 l0 x5_1).f0).toList = a1.toList
          · rw [if_pos c5] at H
            have c5b0 : (((rd_T40 l0 x5_1).f0).toList == a1.toList) = true := beq_iff_eq.mpr c5
            have c5b1 : (((rd_T40 l0 x5_1).f0).toList != a1.toList) = false := bne_eq_false_iff_eq.mpr c5
            clear c5
            obtain rfl := Option.some.inj H
            have p45001 : 0 ≤ (x5_1 : Int) := of_decide_eq_true (by first | (with_reducible assumption) | assumption)
            have q45001 : x5_1 < (l0.length : Int) := of_decide_eq_true (by first | (with_reducible assumption) | assumption)
            obtain ⟨ad45001, e45001, hx45001_0, hx45001_1⟩ := at_T40 HR0.out x5_1 p45001 q45001
            cases e45001
            replace p45001 := eq_true p45001
            replace q45001 := eq_true q45001
            have p45002 : 0 ≤ (x5_1 : Int) := of_decide_eq_true (by first | (with_reducible assumption) | assumption)
            have q45002 : x5_1 < (l0.length : Int) := of_decide_eq_true (by first | (with_reducible assumption) | assumption)
            obtain ⟨ad45002, e45002, hx45002_0, hx45002_1⟩ := at_T40 HR0.out x5_1 p45002 q45002
            obtain rfl : ad45001 = ad45002 := (by injection e45002)
            replace p45002 := eq_true p45002
            replace q45002 := eq_true q45002
            go_wp2
            go_ret
            exact ⟨by first | rfl | (simp; done) | (simp [*]; done), by repeat (first | exact Drawn0.refl _ | apply Drawn0.step)⟩
          · rw [if_neg c5] at H
            have c5b0 : (((rd_T40 l0 x5_1).f0).toList == a1.toList) = false := beq_eq_false_iff_ne.mpr c5
            have c5b1 : (((rd_T40 l0 x5_1).f0).toList != a1.toList) = true := bne_iff_ne.mpr c5
            have H' := Aside0.mk H
            clear H
            have p45001 : 0 ≤ (x5_1 : Int) := of_decide_eq_true (by first | (with_reducible assumption) | assumption)
            have q45001 : x5_1 < (l0.length : Int) := of_decide_eq_true (by first | (with_reducible assumption) | assumption)
            obtain ⟨ad45001, e45001, hx45001_0, hx45001_1⟩ := at_T40 HR0.out x5_1 p45001 q45001
            cases e45001
            replace p45001 := eq_true p45001
            replace q45001 := eq_true q45001
            go_wp2
            go_roundg k1
            case measure => have := HK1.out; omega
            case rel => exact ⟨(wrap64 (x5_1 + 1)), (by first | rfl | (simp; done) | (simp [*]; done)), H', ⟨by have := HK1.out; omega⟩, by repeat (first | exact Drawn0.refl _ | apply Drawn0.step)⟩
        · rw [if_neg c4] at H
          exact absurd H (by simp)
      · rw [if_neg c3] at H
        have c3b0 : decide (x5_1 < (l0.length : Int)) = false := decide_eq_false c3
        clear c3
        replace H := Option.bind_eq_some_iff.mp H
        obtain ⟨⟨t45003, t45004⟩, A60, H⟩ := H
        replace H : (some t45003) = some r := H
        have A6 := Aside0.mk A60
        clear A60
        obtain rfl := Option.some.inj H
        go_wp2_with (first | ((with_reducible refine gate_callee (f := 20) rfl ?_); refine goesL_ (some 28) rfl rfl Tryd.func20 (by kernel_rfl) rfl #[.string a1] rfl (by (try simp only [List.map_toArray, List.map_cons, List.map_nil]); first | done | rfl | (simp only [List.length_drop, List.length_take]; rfl)) ?_; (with_reducible refine (tinderref19_Default.calls k1 a1 t45003 t45004 _ A6.out).mono ?_); rintro e w' ⟨rfl, ⟨nd, rfl⟩⟩; refine ⟨_, rfl, ?_⟩))
        go_ret
        exact ⟨by first | rfl | (simp; done) | (simp [*]; done), by repeat (first | exact Drawn0.refl _ | apply Drawn0.step)⟩

end Go.Proofs.YtefhngadeimklaaDoor.Q
end
section
namespace Go.Proofs.YtefhngadeimklaaDoor.Q
open Go.RowKit Go.Proofs.YtefhngadeimklaaDoorW.PrintWords Go.Proofs.YtefhngadeimklaaDoorW.PrintLast Go.Proofs.YtefhngadeimklaaDoorW.PrintMore
set_option linter.unusedVariables false
set_option linter.unusedSimpArgs false

attribute [local go_sem] max2_int min2_int max_two min_two max_three min_three max_four min_four
/-! ### tinderref19_Get: function 24 -/
def tinderref19_Get.f (k : Nat) (l0 : List (S40)) (a1 : ByteArray) : Option (ByteArray × Int) := (tinderref19_Right.f k l0).bind fun t25001 => (if t25001 = true then ((tinderref19_find.f k a1).bind fun t25002 => (if t25002 < 0 then (some ((⟨#[]⟩ : ByteArray), 2)) else ((tinderref19_value.f k l0 a1).bind fun t25003 => (some (t25003, 0))))) else (some ((⟨#[]⟩ : ByteArray), 1)))
theorem tinderref19_Get.mono : ∀ a0 a1 k, LeO (tinderref19_Get.f k a0 a1) (tinderref19_Get.f (k + 1) a0 a1) := by
  intro a0 a1 k
  unfold tinderref19_Get.f
  repeat' first
      | (with_reducible exact tinderref19_Right.mono _ _)
      | (with_reducible exact tinderref19_find.mono _ _)
      | (with_reducible exact tinderref19_value.mono _ _ _)
      | (with_reducible exact LeO.refl _)
      | (with_reducible exact LeO.none _)
      | (with_reducible refine LeO.ite ?_ ?_)
      | (with_reducible refine LeO.bind ?_ (fun _ => ?_))
      | exact tinderref19_Right.mono _ _
      | exact tinderref19_find.mono _ _
      | exact tinderref19_value.mono _ _ _
      | exact LeO.none _
      | refine LeO.ite ?_ ?_
      | refine LeO.bind ?_ (fun _ => ?_)
set_option maxHeartbeats 8000000 in
set_option maxRecDepth 100000 in
theorem tinderref19_Get.calls (k : Nat) (A0 : Option Addr) (c0 : Nat) (l0 : List (S40)) (a1 : ByteArray) (r1 : ByteArray) (r2 : Int) (w : World) (hr0 : Kd.C k40 w A0 l0.length l0) (hc0 : l0.length ≤ c0) (h : tinderref19_Get.f k l0 a1 = some (r1, r2)) :
    Calls Tryd.prog 24 #[.slice A0 l0.length c0, .string a1] w fun e w' => e = .returned (.tuple #[.string r1, .int .i64 r2]) ∧ Below w.heap.size w w' := by
  have HR0 := Aside0.mk hr0
  have HC0 := Aside0.mk hc0
  clear hr0 hc0
  have HB := Aside0.mk (Below.refl w.heap.size w)
  have H : ((tinderref19_Right.f k l0).bind fun t25001 => (if t25001 = true then ((tinderref19_find.f k a1).bind fun t25002 => (if t25002 < 0 then (some ((⟨#[]⟩ : ByteArray), 2)) else ((tinderref19_value.f k l0 a1).bind fun t25003 => (some (t25003, 0))))) else (some ((⟨#[]⟩ : ByteArray), 1)))) = some (r1, r2) := h
  clear h
  replace H := Option.bind_eq_some_iff.mp H
  obtain ⟨t25001, A30, H⟩ := H
  replace H : (if t25001 = true then ((tinderref19_find.f k a1).bind fun t25002 => (if t25002 < 0 then (some ((⟨#[]⟩ : ByteArray), 2)) else ((tinderref19_value.f k l0 a1).bind fun t25003 => (some (t25003, 0))))) else (some ((⟨#[]⟩ : ByteArray), 1))) = some (r1, r2) := H
  have A3 := Aside0.mk A30
  clear A30
  by_cases c4 : t25001 = true
  · subst c4
    have H1 : ((tinderref19_find.f k a1).bind fun t25002 => (if t25002 < 0 then (some ((⟨#[]⟩ : ByteArray), 2)) else ((tinderref19_value.f k l0 a1).bind fun t25003 => (some (t25003, 0))))) = some (r1, r2) := by rw [if_pos rfl] at H; exact H
    clear H
    have H := H1
    clear H1
    replace H := Option.bind_eq_some_iff.mp H
    obtain ⟨t25002, A50, H⟩ := H
    replace H : (if t25002 < 0 then (some ((⟨#[]⟩ : ByteArray), 2)) else ((tinderref19_value.f k l0 a1).bind fun t25003 => (some (t25003, 0)))) = some (r1, r2) := H
    have A5 := Aside0.mk A50
    clear A50
    by_cases c6 : t25002 < 0
    · rw [if_pos c6] at H
      have c6b0 : decide (t25002 < 0) = true := decide_eq_true c6
      clear c6
      simp only [Option.some.injEq, Prod.mk.injEq] at H
      obtain ⟨rfl, rfl⟩ := H
      go_enter Tryd.func24, Tryd.ntmps24
      go_wp2_with (first | ((with_reducible refine gate_callee (f := 25) rfl ?_); refine goesL_ (some 7) rfl rfl Tryd.func25 (by kernel_rfl) rfl #[.slice A0 l0.length c0] rfl (by (try simp only [List.map_toArray, List.map_cons, List.map_nil]); first | done | rfl | (simp only [List.length_drop, List.length_take]; rfl)) ?_; (with_reducible refine (tinderref19_Right.calls k _ _ l0 true _ ?side1 ?side2 A3.out).mono ?_); (case side1 => repeat (first | exact HR0.out | (with_reducible refine Kd.C_alloc ?_ _) | (with_reducible refine Kd.C_drewN ?_ _) | (with_reducible refine Kd.C_drew ?_))); (case side2 => exact HC0.out); rintro e w7 ⟨rfl, hb⟩; refine ⟨_, rfl, ?_⟩; have n0_ := Aside0.mk (below_step (by repeat (first | (with_reducible first | exact HB.out | apply below_alloc | apply pw_below_drewN | apply below_drew1) | exact HB.out)) hb); clear HB; have HB := n0_; clear n0_; (try clear hb); (try clear hb2); (try clear hk); (try clear hi)) | ((with_reducible refine gate_callee (f := 46) rfl ?_); refine goesL_ (some 10) rfl rfl Tryd.func46 (by kernel_rfl) rfl #[.string a1] rfl (by (try simp only [List.map_toArray, List.map_cons, List.map_nil]); first | done | rfl | (simp only [List.length_drop, List.length_take]; rfl)) ?_; (with_reducible refine (tinderref19_find.calls k a1 t25002 _ A5.out).mono ?_); rintro e w' ⟨rfl, ⟨nd, rfl⟩⟩; refine ⟨_, rfl, ?_⟩))
      go_ret2
      exact ⟨by first | rfl | (simp [errW_none, errW_some] <;> rfl) | (simp [*, errW_none, errW_some] <;> rfl), by repeat (first | (with_reducible first | exact HB.out | apply below_alloc | apply pw_below_drewN | apply below_drew1) | exact HB.out)⟩
    · rw [if_neg c6] at H
      have c6b0 : decide (t25002 < 0) = false := decide_eq_false c6
      clear c6
      replace H := Option.bind_eq_some_iff.mp H
      obtain ⟨t25003, A80, H⟩ := H
      replace H : (some (t25003, 0)) = some (r1, r2) := H
      have A8 := Aside0.mk A80
      clear A80
      simp only [Option.some.injEq, Prod.mk.injEq] at H
      obtain ⟨rfl, rfl⟩ := H
      go_enter Tryd.func24, Tryd.ntmps24
      go_wp2_with (first | ((with_reducible refine gate_callee (f := 25) rfl ?_); refine goesL_ (some 7) rfl rfl Tryd.func25 (by kernel_rfl) rfl #[.slice A0 l0.length c0] rfl (by (try simp only [List.map_toArray, List.map_cons, List.map_nil]); first | done | rfl | (simp only [List.length_drop, List.length_take]; rfl)) ?_; (with_reducible refine (tinderref19_Right.calls k _ _ l0 true _ ?side1 ?side2 A3.out).mono ?_); (case side1 => repeat (first | exact HR0.out | (with_reducible refine Kd.C_alloc ?_ _) | (with_reducible refine Kd.C_drewN ?_ _) | (with_reducible refine Kd.C_drew ?_))); (case side2 => exact HC0.out); rintro e w9 ⟨rfl, hb⟩; refine ⟨_, rfl, ?_⟩; have n0_ := Aside0.mk (below_step (by repeat (first | (with_reducible first | exact HB.out | apply below_alloc | apply pw_below_drewN | apply below_drew1) | exact HB.out)) hb); clear HB; have HB := n0_; clear n0_; (try clear hb); (try clear hb2); (try clear hk); (try clear hi)) | ((with_reducible refine gate_callee (f := 46) rfl ?_); refine goesL_ (some 10) rfl rfl Tryd.func46 (by kernel_rfl) rfl #[.string a1] rfl (by (try simp only [List.map_toArray, List.map_cons, List.map_nil]); first | done | rfl | (simp only [List.length_drop, List.length_take]; rfl)) ?_; (with_reducible refine (tinderref19_find.calls k a1 t25002 _ A5.out).mono ?_); rintro e w' ⟨rfl, ⟨nd, rfl⟩⟩; refine ⟨_, rfl, ?_⟩) | ((with_reducible refine gate_callee (f := 44) rfl ?_); refine goesL_ (some 14) rfl rfl Tryd.func44 (by kernel_rfl) rfl #[.slice A0 l0.length c0, .string a1] rfl (by (try simp only [List.map_toArray, List.map_cons, List.map_nil]); first | done | rfl | (simp only [List.length_drop, List.length_take]; rfl)) ?_; (with_reducible refine (tinderref19_value.calls k _ _ l0 a1 t25003 _ ?side1 ?side2 A8.out).mono ?_); (case side1 => repeat (first | exact (Kd.C_below HR0.out (by repeat (first | (with_reducible first | exact HB.out | apply below_alloc | apply pw_below_drewN | apply below_drew1) | exact HB.out))) | (with_reducible refine Kd.C_alloc ?_ _) | (with_reducible refine Kd.C_drewN ?_ _) | (with_reducible refine Kd.C_drew ?_))); (case side2 => exact HC0.out); rintro e w' ⟨rfl, ⟨nd, rfl⟩⟩; refine ⟨_, rfl, ?_⟩))
      go_ret2
      exact ⟨by first | rfl | (simp [errW_none, errW_some] <;> rfl) | (simp [*, errW_none, errW_some] <;> rfl), by repeat (first | (with_reducible first | exact HB.out | apply below_alloc | apply pw_below_drewN | apply below_drew1) | exact HB.out)⟩
  · replace c4 := Bool.eq_false_iff.mpr c4
    subst c4
    have H1 : (some ((⟨#[]⟩ : ByteArray), 1)) = some (r1, r2) := by rw [if_neg (show ¬ (false = true) by decide)] at H; exact H
    clear H
    have H := H1
    clear H1
    simp only [Option.some.injEq, Prod.mk.injEq] at H
    obtain ⟨rfl, rfl⟩ := H
    go_enter Tryd.func24, Tryd.ntmps24
    go_wp2_with (first | ((with_reducible refine gate_callee (f := 25) rfl ?_); refine goesL_ (some 7) rfl rfl Tryd.func25 (by kernel_rfl) rfl #[.slice A0 l0.length c0] rfl (by (try simp only [List.map_toArray, List.map_cons, List.map_nil]); first | done | rfl | (simp only [List.length_drop, List.length_take]; rfl)) ?_; (with_reducible refine (tinderref19_Right.calls k _ _ l0 false _ ?side1 ?side2 A3.out).mono ?_); (case side1 => repeat (first | exact HR0.out | (with_reducible refine Kd.C_alloc ?_ _) | (with_reducible refine Kd.C_drewN ?_ _) | (with_reducible refine Kd.C_drew ?_))); (case side2 => exact HC0.out); rintro e w10 ⟨rfl, hb⟩; refine ⟨_, rfl, ?_⟩; have n0_ := Aside0.mk (below_step (by repeat (first | (with_reducible first | exact HB.out | apply below_alloc | apply pw_below_drewN | apply below_drew1) | exact HB.out)) hb); clear HB; have HB := n0_; clear n0_; (try clear hb); (try clear hb2); (try clear hk); (try clear hi)))
    go_ret2
    exact ⟨by first | rfl | (simp [errW_none, errW_some] <;> rfl) | (simp [*, errW_none, errW_some] <;> rfl), by repeat (first | (with_reducible first | exact HB.out | apply below_alloc | apply pw_below_drewN | apply below_drew1) | exact HB.out)⟩

end Go.Proofs.YtefhngadeimklaaDoor.Q
end
section
namespace Go.Proofs.YtefhngadeimklaaDoor.Q
open Go.RowKit Go.Proofs.YtefhngadeimklaaDoorW.PrintWords Go.Proofs.YtefhngadeimklaaDoorW.PrintLast Go.Proofs.YtefhngadeimklaaDoorW.PrintMore
attribute [local go_sem] max2_int min2_int max_two min_two max_three min_three max_four min_four
set_option linter.unusedVariables false
def vars_Get.f (k : Nat) (l0 : List S40) (a1 : ByteArray) : Option (ByteArray × Int) := (vars_Right.f k l0).bind fun t => if t = true then (if 0 ≤ idxN a1 l0 then some ((rd_T40 l0 (idxN a1 l0)).f1, 0) else vars_Default.f k a1) else some ((⟨#[]⟩ : ByteArray), 1)
theorem vars_Get.mono : ∀ l0 a1 k, LeO (vars_Get.f k l0 a1) (vars_Get.f (k + 1) l0 a1) := by
  intro l0 a1 k
  unfold vars_Get.f
  repeat' first
      | (with_reducible exact vars_Right.mono _ _)
      | (with_reducible exact vars_Default.mono _ _)
      | (with_reducible exact LeO.refl _)
      | (with_reducible refine LeO.ite ?_ ?_)
      | (with_reducible refine LeO.bind ?_ (fun _ => ?_))
set_option maxHeartbeats 4000000 in
set_option maxRecDepth 100000 in
theorem vars_Get.calls (k : Nat) (A0 : Option Addr) (c0 : Nat) (l0 : List S40) (a1 : ByteArray) (r1 : ByteArray) (r2 : Int) (w : World) (ht : Tabs w) (hr0 : Kd.C k40 w A0 l0.length l0) (hc0 : l0.length ≤ c0) (h : vars_Get.f k l0 a1 = some (r1, r2)) :
    Calls Tryd.prog 23 #[.slice A0 l0.length c0, .string a1] w fun e w' => e = .returned (.tuple #[.string r1, .int .i64 r2]) ∧ Below w.heap.size w w' := by
  have hu40 := Tryd.underlying40
  unfold vars_Get.f at h
  obtain ⟨t, A1, H⟩ := Option.bind_eq_some_iff.mp h
  clear h
  have HRI := Aside0.mk (vars_Right.calls k A0 c0 l0 t w ht hr0 hc0 A1)
  have HC := Aside0.mk hr0
  cases t with
  | false =>
    rw [if_neg (by decide)] at H
    simp only [Option.some.injEq, Prod.mk.injEq] at H
    obtain ⟨rfl, rfl⟩ := H
    clear hr0 hc0 ht A1
    go_enter Tryd.func23, Tryd.ntmps23
    go_wp2_with (first
      | (go_at_call 16; refine HRI.out.mono ?_; rintro e w1 ⟨rfl, hb⟩; have HB := Aside0.mk hb; clear hb))
    go_ret2
    exact ⟨rfl, HB.out⟩
  | true =>
    rw [if_pos rfl] at H
    have hrg := idxN_range a1 l0
    have HRG := Aside0.mk hrg
    have HIX := Aside0.mk (fun (gb : Nat) (W : World) (hC : Kd.C k40 W A0 l0.length l0) (hh : W.heap[gb]? = some (.cells #[.string a1] 9 (0, 0))) => indexNamed_calls a1 gb A0 c0 l0 W hC hh)
    by_cases h0 : 0 ≤ idxN a1 l0
    · rw [if_pos h0] at H
      obtain ⟨i, hi⟩ : ∃ i, i = idxN a1 l0 := ⟨_, rfl⟩
      rw [← hi] at H h0 HIX hrg
      simp only [Option.some.injEq, Prod.mk.injEq] at H
      obtain ⟨rfl, rfl⟩ := H
      have d1 : decide (i ≥ 0) = true := decide_eq_true h0
      have d2 : decide (0 ≤ i) = true := decide_eq_true h0
      have p1 : (0 ≤ i) = True := eq_true h0
      have p2 : (i < (l0.length : Int)) = True := eq_true hrg.2
      have HAT := Aside0.mk (fun (W : World) (hb : Below w.heap.size w W) => at_T40 (Kd.C_below hr0 hb) i h0 hrg.2)
      obtain ⟨ad, e, _⟩ := at_T40 hr0 i h0 hrg.2
      cases e
      clear hr0 hc0 ht A1 hrg hi HRG
      go_enter Tryd.func23, Tryd.ntmps23
      go_wp2_with (first
        | (go_at_call 16; refine HRI.out.mono ?_; rintro e w1 ⟨rfl, hb⟩; have HB := Aside0.mk hb; clear hb)
        | (go_at_call 40; (with_reducible refine (named_calls _ _).mono ?_); rintro e w2 ⟨gb, rfl, _, hh, hb⟩; have HH := Aside0.mk hh; have HB := Aside0.mk (below_step HB.out hb); clear hb hh)
        | (go_at_call 41; (with_reducible refine (HIX.out gb _ (Kd.C_below HC.out HB.out) HH.out).mono ?_); rintro e w3 ⟨rfl, hb⟩; have HB := Aside0.mk (below_step HB.out hb); obtain ⟨ad', e', hx0, hx1⟩ := HAT.out _ HB.out; cases e'; clear hb))
      go_ret2
      exact ⟨rfl, HB.out⟩
    · rw [if_neg h0] at H
      obtain ⟨i, hi⟩ : ∃ i, i = idxN a1 l0 := ⟨_, rfl⟩
      rw [← hi] at h0 HIX hrg
      have d1 : decide (i ≥ 0) = false := decide_eq_false h0
      have d2 : decide (0 ≤ i) = false := decide_eq_false h0
      have HDF := Aside0.mk (fun (W : World) => vars_Default.calls k a1 r1 r2 W H)
      clear hr0 hc0 ht A1 hrg hi HRG h0 H
      go_enter Tryd.func23, Tryd.ntmps23
      go_wp2_with (first
        | (go_at_call 16; refine HRI.out.mono ?_; rintro e w1 ⟨rfl, hb⟩; have HB := Aside0.mk hb; clear hb)
        | (go_at_call 40; (with_reducible refine (named_calls _ _).mono ?_); rintro e w2 ⟨gb, rfl, _, hh, hb⟩; have HH := Aside0.mk hh; have HB := Aside0.mk (below_step HB.out hb); clear hb hh)
        | (go_at_call 41; (with_reducible refine (HIX.out gb _ (Kd.C_below HC.out HB.out) HH.out).mono ?_); rintro e w3 ⟨rfl, hb⟩; have HB := Aside0.mk (below_step HB.out hb); clear hb)
        | (go_at_call 19; (with_reducible refine (HDF.out _).mono ?_); rintro e w4 ⟨rfl, hb⟩; have HB := Aside0.mk (below_step HB.out hb); clear hb))
      go_ret2
      exact ⟨rfl, HB.out⟩
end Go.Proofs.YtefhngadeimklaaDoor.Q
end
section
namespace Go.Proofs.YtefhngadeimklaaDoor.Q
open Go.RowKit Go.Proofs.YtefhngadeimklaaDoorW.PrintWords Go.Proofs.YtefhngadeimklaaDoorW.PrintLast Go.Proofs.YtefhngadeimklaaDoorW.PrintMore
set_option linter.unusedVariables false
set_option linter.unusedSimpArgs false

attribute [local go_sem] max2_int min2_int max_two min_two max_three min_three max_four min_four
/-! ### tinderlaw19_VarsGets: function 5 -/
def tinderlaw19_VarsGets.f (k : Nat) (l0 : List (S40)) (a1 : ByteArray) : Option (Bool) := (tinderlaw19_alive.f).bind fun t6001 => (if t6001 = true then ((vars_Get.f k l0 a1).bind fun bt6002 => ((tinderref19_Get.f k l0 a1).bind fun bt6004 => (if bt6002.1.toList = bt6004.1.toList then (if bt6002.2 = bt6004.2 then ((vars_Right.f k l0).bind fun t6006 => ((tinderref19_Right.f k l0).bind fun t6007 => (some (t6006 == t6007)))) else (some false)) else (some false)))) else (some false))
theorem tinderlaw19_VarsGets.mono : ∀ a0 a1 k, LeO (tinderlaw19_VarsGets.f k a0 a1) (tinderlaw19_VarsGets.f (k + 1) a0 a1) := by
  intro a0 a1 k
  unfold tinderlaw19_VarsGets.f
  repeat' first
      | (with_reducible exact tinderref19_Get.mono _ _ _)
      | (with_reducible exact tinderref19_Right.mono _ _)
      | (with_reducible exact vars_Get.mono _ _ _)
      | (with_reducible exact vars_Right.mono _ _)
      | (with_reducible exact LeO.refl _)
      | (with_reducible exact LeO.none _)
      | (with_reducible refine LeO.ite ?_ ?_)
      | (with_reducible refine LeO.bind ?_ (fun _ => ?_))
      | exact tinderref19_Get.mono _ _ _
      | exact tinderref19_Right.mono _ _
      | exact vars_Get.mono _ _ _
      | exact vars_Right.mono _ _
      | exact LeO.none _
      | refine LeO.ite ?_ ?_
      | refine LeO.bind ?_ (fun _ => ?_)
set_option maxHeartbeats 8000000 in
set_option maxRecDepth 100000 in
theorem tinderlaw19_VarsGets.calls (k : Nat) (A0 : Option Addr) (c0 : Nat) (l0 : List (S40)) (a1 : ByteArray) (r : Bool) (w : World) (ht : Tabs w) (hr0 : Kd.C k40 w A0 l0.length l0) (hc0 : l0.length ≤ c0) (h : tinderlaw19_VarsGets.f k l0 a1 = some r) :
    Calls Tryd.prog 5 #[.slice A0 l0.length c0, .string a1] w fun e w' => e = .returned (.bool r) ∧ Below w.heap.size w w' := by
  have HR0 := Aside0.mk hr0
  have HC0 := Aside0.mk hc0
  clear hr0 hc0
  have HB := Aside0.mk (Below.refl w.heap.size w)
  have H : ((tinderlaw19_alive.f).bind fun t6001 => (if t6001 = true then ((vars_Get.f k l0 a1).bind fun bt6002 => ((tinderref19_Get.f k l0 a1).bind fun bt6004 => (if bt6002.1.toList = bt6004.1.toList then (if bt6002.2 = bt6004.2 then ((vars_Right.f k l0).bind fun t6006 => ((tinderref19_Right.f k l0).bind fun t6007 => (some (t6006 == t6007)))) else (some false)) else (some false)))) else (some false))) = some r := h
  clear h
  replace H := Option.bind_eq_some_iff.mp H
  obtain ⟨t6001, A30, H⟩ := H
  replace H : (if t6001 = true then ((vars_Get.f k l0 a1).bind fun bt6002 => ((tinderref19_Get.f k l0 a1).bind fun bt6004 => (if bt6002.1.toList = bt6004.1.toList then (if bt6002.2 = bt6004.2 then ((vars_Right.f k l0).bind fun t6006 => ((tinderref19_Right.f k l0).bind fun t6007 => (some (t6006 == t6007)))) else (some false)) else (some false)))) else (some false)) = some r := H
  have A3 := Aside0.mk A30
  clear A30
  by_cases c4 : t6001 = true
  · subst c4
    have H1 : ((vars_Get.f k l0 a1).bind fun bt6002 => ((tinderref19_Get.f k l0 a1).bind fun bt6004 => (if bt6002.1.toList = bt6004.1.toList then (if bt6002.2 = bt6004.2 then ((vars_Right.f k l0).bind fun t6006 => ((tinderref19_Right.f k l0).bind fun t6007 => (some (t6006 == t6007)))) else (some false)) else (some false)))) = some r := by rw [if_pos rfl] at H; exact H
    clear H
    have H := H1
    clear H1
    replace H := Option.bind_eq_some_iff.mp H
    obtain ⟨⟨t6002, t6003⟩, A50, H⟩ := H
    replace H : ((tinderref19_Get.f k l0 a1).bind fun bt6004 => (if t6002.toList = bt6004.1.toList then (if t6003 = bt6004.2 then ((vars_Right.f k l0).bind fun t6006 => ((tinderref19_Right.f k l0).bind fun t6007 => (some (t6006 == t6007)))) else (some false)) else (some false))) = some r := H
    have A5 := Aside0.mk A50
    clear A50
    replace H := Option.bind_eq_some_iff.mp H
    obtain ⟨⟨t6004, t6005⟩, A60, H⟩ := H
    replace H : (if t6002.toList = t6004.toList then (if t6003 = t6005 then ((vars_Right.f k l0).bind fun t6006 => ((tinderref19_Right.f k l0).bind fun t6007 => (some (t6006 == t6007)))) else (some false)) else (some false)) = some r := H
    have A6 := Aside0.mk A60
    clear A60
    by_cases c7 : t6002.toList = t6004.toList
    · rw [if_pos c7] at H
      have c7b0 : (t6002.toList == t6004.toList) = true := beq_iff_eq.mpr c7
      have c7b1 : (t6002.toList != t6004.toList) = false := bne_eq_false_iff_eq.mpr c7
      clear c7
      by_cases c8 : t6003 = t6005
      · rw [if_pos c8] at H
        have c8b0 : (t6003 == t6005) = true := beq_iff_eq.mpr c8
        have c8b1 : (t6003 != t6005) = false := bne_eq_false_iff_eq.mpr c8
        clear c8
        replace H := Option.bind_eq_some_iff.mp H
        obtain ⟨t6006, A90, H⟩ := H
        replace H : ((tinderref19_Right.f k l0).bind fun t6007 => (some (t6006 == t6007))) = some r := H
        have A9 := Aside0.mk A90
        clear A90
        replace H := Option.bind_eq_some_iff.mp H
        obtain ⟨t6007, A100, H⟩ := H
        replace H : (some (t6006 == t6007)) = some r := H
        have A10 := Aside0.mk A100
        clear A100
        obtain rfl := Option.some.inj H
        go_enter Tryd.func5, Tryd.ntmps5
        go_wp2_with (first | ((with_reducible refine gate_callee (f := 11) rfl ?_); refine goesL_ (some 9) rfl rfl Tryd.func11 (by kernel_rfl) rfl #[] rfl (by (try simp only [List.map_toArray, List.map_cons, List.map_nil]); first | done | rfl | (simp only [List.length_drop, List.length_take]; rfl)) ?_; (with_reducible refine (tinderlaw19_alive.calls  true _ ht A3.out).mono ?_); rintro e w11 ⟨rfl, hb⟩; refine ⟨_, rfl, ?_⟩; have n0_ := Aside0.mk (below_step (by repeat (first | (with_reducible first | exact HB.out | apply below_alloc | apply pw_below_drewN | apply below_drew1) | exact HB.out)) hb); clear HB; have HB := n0_; clear n0_; (try clear hb); (try clear hb2); (try clear hk); (try clear hi)) | ((with_reducible refine gate_callee (f := 23) rfl ?_); refine goesL_ (some 14) rfl rfl Tryd.func23 (by kernel_rfl) rfl #[.slice A0 l0.length c0, .string a1] rfl (by (try simp only [List.map_toArray, List.map_cons, List.map_nil]); first | done | rfl | (simp only [List.length_drop, List.length_take]; rfl)) ?_; (with_reducible refine (vars_Get.calls k _ _ l0 a1 t6002 t6003 _ (Tabs.below ht (by repeat (first | (with_reducible first | exact HB.out | apply below_alloc | apply pw_below_drewN | apply below_drew1 | refine below_set ?_ (Aside0.out (by assumption))) | exact HB.out))) ?side1 ?side2 A5.out).mono ?_); (case side1 => repeat (first | exact (Kd.C_below HR0.out HB.out) | (with_reducible refine Kd.C_alloc ?_ _) | (with_reducible refine Kd.C_drewN ?_ _) | (with_reducible refine Kd.C_drew ?_))); (case side2 => exact HC0.out); rintro e w12 ⟨rfl, hb⟩; refine ⟨_, rfl, ?_⟩; have n0_ := Aside0.mk (below_step (by repeat (first | (with_reducible first | exact HB.out | apply below_alloc | apply pw_below_drewN | apply below_drew1) | exact HB.out)) hb); clear HB; have HB := n0_; clear n0_; (try clear hb); (try clear hb2); (try clear hk); (try clear hi)) | ((with_reducible refine gate_callee (f := 24) rfl ?_); refine goesL_ (some 20) rfl rfl Tryd.func24 (by kernel_rfl) rfl #[.slice A0 l0.length c0, .string a1] rfl (by (try simp only [List.map_toArray, List.map_cons, List.map_nil]); first | done | rfl | (simp only [List.length_drop, List.length_take]; rfl)) ?_; (with_reducible refine (tinderref19_Get.calls k _ _ l0 a1 t6004 t6005 _ ?side1 ?side2 A6.out).mono ?_); (case side1 => repeat (first | exact (Kd.C_below HR0.out HB.out) | (with_reducible refine Kd.C_alloc ?_ _) | (with_reducible refine Kd.C_drewN ?_ _) | (with_reducible refine Kd.C_drew ?_))); (case side2 => exact HC0.out); rintro e w13 ⟨rfl, hb⟩; refine ⟨_, rfl, ?_⟩; have n0_ := Aside0.mk (below_step (by repeat (first | (with_reducible first | exact HB.out | apply below_alloc | apply pw_below_drewN | apply below_drew1) | exact HB.out)) hb); clear HB; have HB := n0_; clear n0_; (try clear hb); (try clear hb2); (try clear hk); (try clear hi)) | (go_at_call 16; (with_reducible refine (vars_Right.calls k _ _ l0 t6006 _ (Tabs.below ht (by repeat (first | (with_reducible first | exact HB.out | apply below_alloc | apply pw_below_drewN | apply below_drew1 | refine below_set ?_ (Aside0.out (by assumption))) | exact HB.out))) ?side1 ?side2 A9.out).mono ?_); (case side1 => repeat (first | exact (Kd.C_below HR0.out HB.out) | (with_reducible refine Kd.C_alloc ?_ _) | (with_reducible refine Kd.C_drewN ?_ _) | (with_reducible refine Kd.C_drew ?_))); (case side2 => exact HC0.out); rintro e w14 ⟨rfl, hb⟩; have n0_ := Aside0.mk (below_step (by repeat (first | (with_reducible first | exact HB.out | apply below_alloc | apply pw_below_drewN | apply below_drew1) | exact HB.out)) hb); clear HB; have HB := n0_; clear n0_; (try clear hb); (try clear hb2); (try clear hk); (try clear hi)) | (go_at_call 25; (with_reducible refine (tinderref19_Right.calls k _ _ l0 t6007 _ ?side1 ?side2 A10.out).mono ?_); (case side1 => repeat (first | exact (Kd.C_below HR0.out HB.out) | (with_reducible refine Kd.C_alloc ?_ _) | (with_reducible refine Kd.C_drewN ?_ _) | (with_reducible refine Kd.C_drew ?_))); (case side2 => exact HC0.out); rintro e w15 ⟨rfl, hb⟩; have n0_ := Aside0.mk (below_step (by repeat (first | (with_reducible first | exact HB.out | apply below_alloc | apply pw_below_drewN | apply below_drew1) | exact HB.out)) hb); clear HB; have HB := n0_; clear n0_; (try clear hb); (try clear hb2); (try clear hk); (try clear hi)))
        go_ret
        exact ⟨by first | rfl | (simp [errW_none, errW_some] <;> rfl) | (simp [*, errW_none, errW_some] <;> rfl), by repeat (first | (with_reducible first | exact HB.out | apply below_alloc | apply pw_below_drewN | apply below_drew1) | exact HB.out)⟩
      · rw [if_neg c8] at H
        have c8b0 : (t6003 == t6005) = false := beq_eq_false_iff_ne.mpr c8
        have c8b1 : (t6003 != t6005) = true := bne_iff_ne.mpr c8
        obtain rfl := Option.some.inj H
        go_enter Tryd.func5, Tryd.ntmps5
        go_wp2_with (first | ((with_reducible refine gate_callee (f := 11) rfl ?_); refine goesL_ (some 9) rfl rfl Tryd.func11 (by kernel_rfl) rfl #[] rfl (by (try simp only [List.map_toArray, List.map_cons, List.map_nil]); first | done | rfl | (simp only [List.length_drop, List.length_take]; rfl)) ?_; (with_reducible refine (tinderlaw19_alive.calls  true _ ht A3.out).mono ?_); rintro e w16 ⟨rfl, hb⟩; refine ⟨_, rfl, ?_⟩; have n0_ := Aside0.mk (below_step (by repeat (first | (with_reducible first | exact HB.out | apply below_alloc | apply pw_below_drewN | apply below_drew1) | exact HB.out)) hb); clear HB; have HB := n0_; clear n0_; (try clear hb); (try clear hb2); (try clear hk); (try clear hi)) | ((with_reducible refine gate_callee (f := 23) rfl ?_); refine goesL_ (some 14) rfl rfl Tryd.func23 (by kernel_rfl) rfl #[.slice A0 l0.length c0, .string a1] rfl (by (try simp only [List.map_toArray, List.map_cons, List.map_nil]); first | done | rfl | (simp only [List.length_drop, List.length_take]; rfl)) ?_; (with_reducible refine (vars_Get.calls k _ _ l0 a1 t6002 t6003 _ (Tabs.below ht (by repeat (first | (with_reducible first | exact HB.out | apply below_alloc | apply pw_below_drewN | apply below_drew1 | refine below_set ?_ (Aside0.out (by assumption))) | exact HB.out))) ?side1 ?side2 A5.out).mono ?_); (case side1 => repeat (first | exact (Kd.C_below HR0.out HB.out) | (with_reducible refine Kd.C_alloc ?_ _) | (with_reducible refine Kd.C_drewN ?_ _) | (with_reducible refine Kd.C_drew ?_))); (case side2 => exact HC0.out); rintro e w17 ⟨rfl, hb⟩; refine ⟨_, rfl, ?_⟩; have n0_ := Aside0.mk (below_step (by repeat (first | (with_reducible first | exact HB.out | apply below_alloc | apply pw_below_drewN | apply below_drew1) | exact HB.out)) hb); clear HB; have HB := n0_; clear n0_; (try clear hb); (try clear hb2); (try clear hk); (try clear hi)) | ((with_reducible refine gate_callee (f := 24) rfl ?_); refine goesL_ (some 20) rfl rfl Tryd.func24 (by kernel_rfl) rfl #[.slice A0 l0.length c0, .string a1] rfl (by (try simp only [List.map_toArray, List.map_cons, List.map_nil]); first | done | rfl | (simp only [List.length_drop, List.length_take]; rfl)) ?_; (with_reducible refine (tinderref19_Get.calls k _ _ l0 a1 t6004 t6005 _ ?side1 ?side2 A6.out).mono ?_); (case side1 => repeat (first | exact (Kd.C_below HR0.out HB.out) | (with_reducible refine Kd.C_alloc ?_ _) | (with_reducible refine Kd.C_drewN ?_ _) | (with_reducible refine Kd.C_drew ?_))); (case side2 => exact HC0.out); rintro e w18 ⟨rfl, hb⟩; refine ⟨_, rfl, ?_⟩; have n0_ := Aside0.mk (below_step (by repeat (first | (with_reducible first | exact HB.out | apply below_alloc | apply pw_below_drewN | apply below_drew1) | exact HB.out)) hb); clear HB; have HB := n0_; clear n0_; (try clear hb); (try clear hb2); (try clear hk); (try clear hi)))
        go_ret
        exact ⟨by first | rfl | (simp [errW_none, errW_some] <;> rfl) | (simp [*, errW_none, errW_some] <;> rfl), by repeat (first | (with_reducible first | exact HB.out | apply below_alloc | apply pw_below_drewN | apply below_drew1) | exact HB.out)⟩
    · rw [if_neg c7] at H
      have c7b0 : (t6002.toList == t6004.toList) = false := beq_eq_false_iff_ne.mpr c7
      have c7b1 : (t6002.toList != t6004.toList) = true := bne_iff_ne.mpr c7
      obtain rfl := Option.some.inj H
      go_enter Tryd.func5, Tryd.ntmps5
      go_wp2_with (first | ((with_reducible refine gate_callee (f := 11) rfl ?_); refine goesL_ (some 9) rfl rfl Tryd.func11 (by kernel_rfl) rfl #[] rfl (by (try simp only [List.map_toArray, List.map_cons, List.map_nil]); first | done | rfl | (simp only [List.length_drop, List.length_take]; rfl)) ?_; (with_reducible refine (tinderlaw19_alive.calls  true _ ht A3.out).mono ?_); rintro e w19 ⟨rfl, hb⟩; refine ⟨_, rfl, ?_⟩; have n0_ := Aside0.mk (below_step (by repeat (first | (with_reducible first | exact HB.out | apply below_alloc | apply pw_below_drewN | apply below_drew1) | exact HB.out)) hb); clear HB; have HB := n0_; clear n0_; (try clear hb); (try clear hb2); (try clear hk); (try clear hi)) | ((with_reducible refine gate_callee (f := 23) rfl ?_); refine goesL_ (some 14) rfl rfl Tryd.func23 (by kernel_rfl) rfl #[.slice A0 l0.length c0, .string a1] rfl (by (try simp only [List.map_toArray, List.map_cons, List.map_nil]); first | done | rfl | (simp only [List.length_drop, List.length_take]; rfl)) ?_; (with_reducible refine (vars_Get.calls k _ _ l0 a1 t6002 t6003 _ (Tabs.below ht (by repeat (first | (with_reducible first | exact HB.out | apply below_alloc | apply pw_below_drewN | apply below_drew1 | refine below_set ?_ (Aside0.out (by assumption))) | exact HB.out))) ?side1 ?side2 A5.out).mono ?_); (case side1 => repeat (first | exact (Kd.C_below HR0.out HB.out) | (with_reducible refine Kd.C_alloc ?_ _) | (with_reducible refine Kd.C_drewN ?_ _) | (with_reducible refine Kd.C_drew ?_))); (case side2 => exact HC0.out); rintro e w20 ⟨rfl, hb⟩; refine ⟨_, rfl, ?_⟩; have n0_ := Aside0.mk (below_step (by repeat (first | (with_reducible first | exact HB.out | apply below_alloc | apply pw_below_drewN | apply below_drew1) | exact HB.out)) hb); clear HB; have HB := n0_; clear n0_; (try clear hb); (try clear hb2); (try clear hk); (try clear hi)) | ((with_reducible refine gate_callee (f := 24) rfl ?_); refine goesL_ (some 20) rfl rfl Tryd.func24 (by kernel_rfl) rfl #[.slice A0 l0.length c0, .string a1] rfl (by (try simp only [List.map_toArray, List.map_cons, List.map_nil]); first | done | rfl | (simp only [List.length_drop, List.length_take]; rfl)) ?_; (with_reducible refine (tinderref19_Get.calls k _ _ l0 a1 t6004 t6005 _ ?side1 ?side2 A6.out).mono ?_); (case side1 => repeat (first | exact (Kd.C_below HR0.out HB.out) | (with_reducible refine Kd.C_alloc ?_ _) | (with_reducible refine Kd.C_drewN ?_ _) | (with_reducible refine Kd.C_drew ?_))); (case side2 => exact HC0.out); rintro e w21 ⟨rfl, hb⟩; refine ⟨_, rfl, ?_⟩; have n0_ := Aside0.mk (below_step (by repeat (first | (with_reducible first | exact HB.out | apply below_alloc | apply pw_below_drewN | apply below_drew1) | exact HB.out)) hb); clear HB; have HB := n0_; clear n0_; (try clear hb); (try clear hb2); (try clear hk); (try clear hi)))
      go_ret
      exact ⟨by first | rfl | (simp [errW_none, errW_some] <;> rfl) | (simp [*, errW_none, errW_some] <;> rfl), by repeat (first | (with_reducible first | exact HB.out | apply below_alloc | apply pw_below_drewN | apply below_drew1) | exact HB.out)⟩
  · replace c4 := Bool.eq_false_iff.mpr c4
    subst c4
    have H1 : (some false) = some r := by rw [if_neg (show ¬ (false = true) by decide)] at H; exact H
    clear H
    have H := H1
    clear H1
    obtain rfl := Option.some.inj H
    go_enter Tryd.func5, Tryd.ntmps5
    go_wp2_with (first | ((with_reducible refine gate_callee (f := 11) rfl ?_); refine goesL_ (some 9) rfl rfl Tryd.func11 (by kernel_rfl) rfl #[] rfl (by (try simp only [List.map_toArray, List.map_cons, List.map_nil]); first | done | rfl | (simp only [List.length_drop, List.length_take]; rfl)) ?_; (with_reducible refine (tinderlaw19_alive.calls  false _ ht A3.out).mono ?_); rintro e w22 ⟨rfl, hb⟩; refine ⟨_, rfl, ?_⟩; have n0_ := Aside0.mk (below_step (by repeat (first | (with_reducible first | exact HB.out | apply below_alloc | apply pw_below_drewN | apply below_drew1) | exact HB.out)) hb); clear HB; have HB := n0_; clear n0_; (try clear hb); (try clear hb2); (try clear hk); (try clear hi)))
    go_ret
    exact ⟨by first | rfl | (simp [errW_none, errW_some] <;> rfl) | (simp [*, errW_none, errW_some] <;> rfl), by repeat (first | (with_reducible first | exact HB.out | apply below_alloc | apply pw_below_drewN | apply below_drew1) | exact HB.out)⟩

end Go.Proofs.YtefhngadeimklaaDoor.Q
end
section
set_option linter.unusedSimpArgs false
set_option linter.unusedVariables false
namespace Go.Proofs.YtefhngadeimklaaDoor.Q
open Go.RowKit Go.Proofs.YtefhngadeimklaaDoorW.PrintWords Go.Proofs.YtefhngadeimklaaDoorW.PrintLast
def namesL : List ByteArray := (vars_Names.f 20).getD []
theorem names_20 : vars_Names.f 20 = some namesL := by kernel_rfl
theorem refnames_20 : tinderref19_Names.f 20 = some namesL := by kernel_rfl
theorem names_loop : tinderlaw19_VarsForms.j0 20 namesL namesL false = some true := by kernel_rfl
theorem varsForms_row {w : World} (ht : Tabs w) (s : ByteArray) (hs : s.size ≤ 140737488351232) (v : ByteArray) (hv : v.size ≤ 140737488351232) :
    Calls Tryd.prog 4 #[.string s, .string v] w fun e w' => e = .returned (.bool true) ∧ Below w.heap.size w w' := by
  refine tinderlaw19_VarsForms.calls (v.size + 200) s v true w ht ?_
  have h1 : vars_Names.f (v.size + 200) = some namesL := at_rounds (fun k => vars_Names.mono k) (by omega) names_20
  have h2 : tinderref19_Names.f (v.size + 200) = some namesL := at_rounds (fun k => tinderref19_Names.mono k) (by omega) refnames_20
  have h3 : tinderlaw19_VarsForms.j0 (v.size + 200) namesL namesL false = some true := at_rounds (fun k => (tinderlaw19_VarsForms.mono_l k).1 _ _ _) (by omega) names_loop
  unfold tinderlaw19_VarsForms.f
  rw [tinderlaw19_alive.f, Option.bind_some, if_pos rfl, form_eq _ s v hv (by omega), Option.bind_some, refform_eq _ s v hv (by omega), Option.bind_some, default_eq _ (by omega), Option.bind_some, refdefault_eq _ (by omega), Option.bind_some, h1, Option.bind_some, h2, Option.bind_some, if_pos rfl, if_pos rfl, if_pos rfl, if_pos rfl]
  rw [show ((namesL.length : Int) != (namesL.length : Int)) = false from by simp]
  exact h3
theorem value_go (s : ByteArray) (l : List S40) : ∀ (d k : Nat) (i : Int), 0 ≤ i → i + d = l.length → l.length < 1125899906842624 → d + 20 < k → tinderref19_value.l0 k l s i = some (if 0 ≤ idxN s (l.drop i.toNat) then (rd_T40 (l.drop i.toNat) (idxN s (l.drop i.toNat))).f1 else (defF s).1)
  | 0, k, i, h0, h1, hl, hk => by
    obtain ⟨k, rfl⟩ : ∃ m, k = m + 1 := ⟨k - 1, by omega⟩
    rw [tinderref19_value.l0, if_neg (by omega), List.drop_eq_nil_of_le (by omega), refdefault_eq k (by omega), Option.bind_some, if_neg (show ¬ 0 ≤ idxN s [] by rw [idxN]; decide)]
  | d + 1, k, i, h0, h1, hl, hk => by
    obtain ⟨k, rfl⟩ : ∃ m, k = m + 1 := ⟨k - 1, by omega⟩
    have hw : wrap64 (i + 1) = i + 1 := by unfold wrap64; omega
    have hr := idxN_range s (l.drop (i + 1).toNat)
    rw [tinderref19_value.l0, if_pos (by omega), if_pos h0, hw, value_go s l d k (i + 1) (by omega) (by omega) hl (by omega), at_drop l i h0 (by omega), idxN]
    by_cases he : (rd_T40 l i).f0.toList = s.toList
    · rw [if_pos he, if_pos he, if_pos (by decide)]
      rfl
    · rw [if_neg he, if_neg he]
      by_cases hn : idxN s (l.drop (i + 1).toNat) < 0
      · rw [if_pos hn, if_neg (by omega), if_neg (by decide)]
      · rw [if_neg hn, if_pos (by omega), if_pos (by omega)]
        unfold rd_T40
        rw [show (idxN s (l.drop (i + 1).toNat) + 1).toNat = (idxN s (l.drop (i + 1).toNat)).toNat + 1 by omega, List.getD_cons_succ]
theorem rightL_mem : ∀ (l : List S40) (last : Int), rightL l last = true → ∀ x ∈ l, 0 ≤ fndF x.f0
  | [], _, _, x, hx => absurd hx (List.not_mem_nil)
  | y :: r, last, h, x, hx => by
    rw [rightL, Bool.and_eq_true] at h
    rcases List.mem_cons.1 hx with rfl | hx
    · have h1 := h.1
      unfold okV at h1
      simp only [Bool.and_eq_true] at h1
      exact of_decide_eq_true h1.1.1.1.1
    · exact rightL_mem r _ h.2 x hx
theorem idxN_name (s : ByteArray) : ∀ l : List S40, 0 ≤ idxN s l → ∃ x ∈ l, x.f0.toList = s.toList
  | [], h => absurd h (by rw [idxN]; decide)
  | y :: r, h => by
    rw [idxN] at h
    by_cases he : y.f0.toList = s.toList
    · exact ⟨y, List.mem_cons_self .., he⟩
    · rw [if_neg he] at h
      by_cases hn : idxN s r < 0
      · rw [if_pos hn] at h; exact absurd h (by decide)
      · obtain ⟨x, hx, e⟩ := idxN_name s r (by omega)
        exact ⟨x, List.mem_cons_of_mem _ hx, e⟩
def getF (l : List S40) (s : ByteArray) : ByteArray × Int := if rightF l = true then (if 0 ≤ idxN s l then ((rd_T40 l (idxN s l)).f1, 0) else defF s) else ((⟨#[]⟩ : ByteArray), 1)
theorem get_eq (l : List S40) (s : ByteArray) (hf : Fits l) (hl : l.length < 1125899906842624) (k : Nat) (hk : l.length + 140737488351400 < k) : vars_Get.f k l s = some (getF l s) := by
  unfold vars_Get.f getF
  rw [right_eq l hf hl k hk, Option.bind_some, default_eq k (by omega)]
  split
  · split <;> rfl
  · rfl
theorem refget_eq (l : List S40) (s : ByteArray) (hf : Fits l) (hl : l.length < 1125899906842624) (k : Nat) (hk : l.length + 140737488351400 < k) : tinderref19_Get.f k l s = some (getF l s) := by
  unfold tinderref19_Get.f getF tinderref19_value.f
  rw [refright_eq l hf hl k hk, Option.bind_some, reffind_eq k (by omega), Option.bind_some, value_go s l l.length k 0 (Int.le_refl _) (by omega) hl (by omega), Option.bind_some]
  rw [show ((0 : Int).toNat) = 0 from rfl, List.drop_zero]
  by_cases h1 : rightF l = true
  · rw [if_pos h1, if_pos h1]
    by_cases h2 : 0 ≤ idxN s l
    · obtain ⟨x, hx, e⟩ := idxN_name s l h2
      have h3 := rightL_mem l _ h1 x hx
      rw [fndF_congr e] at h3
      rw [if_neg (by omega), if_pos h2, if_pos h2]
    · rw [if_neg h2, if_neg h2, defF]
      by_cases h3 : 0 ≤ fndF s
      · rw [if_neg (by omega), if_pos h3]
      · rw [if_pos (by omega), if_neg h3]
  · rw [if_neg h1, if_neg h1]
theorem varsGets_row {w : World} (ht : Tabs w) (A : Option Addr) (c : Nat) (l : List S40) (hC : Kd.C k40 w A l.length l) (hc : l.length ≤ c) (hg : l.length * 32 ≤ 140737488351232 ∧ ∀ x ∈ l, x.f0.size ≤ 140737488351232 ∧ x.f1.size ≤ 140737488351232) (s : ByteArray) (hs : s.size ≤ 140737488351232) :
    Calls Tryd.prog 5 #[.slice A l.length c, .string s] w fun e w' => e = .returned (.bool true) ∧ Below w.heap.size w w' := by
  refine tinderlaw19_VarsGets.calls (l.length + 140737488351500) A c l s true w ht hC hc ?_
  have hf : Fits l := hg.2
  have hl : l.length < 1125899906842624 := by omega
  unfold tinderlaw19_VarsGets.f
  rw [tinderlaw19_alive.f, Option.bind_some, if_pos rfl, get_eq l s hf hl _ (by omega), Option.bind_some, refget_eq l s hf hl _ (by omega), Option.bind_some, if_pos rfl, if_pos rfl, right_eq l hf hl _ (by omega), Option.bind_some, refright_eq l hf hl _ (by omega), Option.bind_some]
  cases rightF l <;> rfl
end Go.Proofs.YtefhngadeimklaaDoor.Q
end
section
namespace Go.Proofs.YtefhngadeimklaaDoor.Q
open Go.RowKit Go.Proofs.YtefhngadeimklaaDoorW.PrintWords Go.Proofs.YtefhngadeimklaaDoorW.PrintLast Go.Proofs.YtefhngadeimklaaDoorW.PrintMore
def Opens {α : Type} (P : Program) (t : TypeId) (d : Kd α) (G : α → Prop) : Prop :=
  ∀ (H : Type) (enc : TypeId × Value → H) (W : World) (fuel : Nat) (cs : List Value) (x : DataW H × List MemPlace), DataW.trod enc P W 0 (fun _ => true) true fuel t cs = some x → (∀ n ∈ x.1.weights P t, n ≤ reachBytes) → ∃ a, d.K W a cs ∧ G a
section
variable {P : Program} {t e : TypeId}
theorem opens_int {k : IntKind} (ht : P.underlying t = some (.int k)) : Opens P t (Kd.int k) (fun n => (Lit.int k n).wf = true) := by
  intro H enc W fuel cs x h _
  obtain ⟨n, rfl, _, hw⟩ := DataW.trod_int ht h
  exact ⟨n, rfl, hw⟩
theorem opens_bool (ht : P.underlying t = some .bool) : Opens P t Kd.bool (fun _ => True) := by
  intro H enc W fuel cs x h _
  obtain ⟨b, rfl, _⟩ := DataW.trod_bool ht h
  exact ⟨b, rfl, trivial⟩
theorem opens_string (ht : P.underlying t = some .string) : Opens P t Kd.string (fun s => s.size ≤ 140737488351232) := by
  intro H enc W fuel cs x h hw
  obtain ⟨s, rfl, rfl, _⟩ := DataW.trod_string ht h
  have := hw s.data.toList.length (by simp [DataW.weights])
  exact ⟨s, rfl, by simpa [reachBytes] using this⟩
theorem weights_all {H : Type} {P : Program} {e : TypeId} : ∀ {l : List (DataW H)} {d : DataW H}, d ∈ l → ∀ n ∈ d.weights P e, n ∈ DataW.weightsAll P e l
  | d0 :: l, d, hd, n, hn => by
    simp only [DataW.weightsAll, List.mem_append]
    rcases List.mem_cons.1 hd with rfl | hd
    · exact .inl hn
    · exact .inr (weights_all hd n hn)
theorem cells_get {W : World} {base : Nat} {a : Addr} {n : Nat} {c : List Value} (h : W.cells? base a n = some c) : c.length = n ∧ ∀ i u, c[i]? = some u → W.cell? (a.add i) = some u := by
  unfold World.cells? at h
  split at h
  · have hl := mapM_some_length h
    refine ⟨by simpa using hl, fun i u hu => ?_⟩
    have hi : i < n := by
      have := (List.getElem?_eq_some_iff.1 hu).1
      simp at hl
      omega
    have := mapM_some_get h i i (by simp [hi])
    rw [this, hu]
  · cases h
theorem opens_slice {α : Type} {d : Kd α} {G : α → Prop} (ht : P.underlying t = some (.slice e)) (hc : P.cellsOf e = d.sz) (b : Nat) (hb : P.bytesOf e = b) (he : Opens P e d G) :
    Opens P t (Kd.slice e d) (fun xs => xs.length * b ≤ 140737488351232 ∧ ∀ a ∈ xs, G a) := by
  intro H enc W fuel cs x h hw
  rcases DataW.trod_slice ht h with ⟨rfl, _⟩ | ⟨a, len, cap, elems, rest, n, _, rfl, rfl, _, hl, hm, hlen, hel, _⟩
  · exact ⟨[], ⟨none, 0, rfl, Nat.le_refl _, Kd.C_nil d W⟩, by simp, fun a h => by cases h⟩
  · have hwt : (elems.length + rest.length) * b ≤ 140737488351232 := by
      have := hw ((elems.length + rest.length) * P.bytesOf e) (by simp [DataW.weights, ht])
      rw [hb] at this
      simpa [reachBytes] using this
    have hall : ∀ i : Fin len, ∃ p : α, ∃ c, c.length = d.sz ∧ d.K W p c ∧ G p ∧ ∀ j u, c[j]? = some u → W.cell? (a.add (i.1 * d.sz + j)) = some u := by
      intro i
      have hi : i.1 < elems.length := by have := i.2; omega
      have h1 := hel i.1 i.2
      rw [List.getElem?_eq_getElem hi] at h1
      obtain ⟨c, hcs, htr⟩ := Option.bind_eq_some_iff.1 h1
      obtain ⟨hcl, hcg⟩ := cells_get hcs
      obtain ⟨p, hK, hG⟩ := he H enc W n c _ htr (fun m hm => hw m (by
        simp only [DataW.weights, ht, List.mem_cons, List.mem_append]
        exact .inr (.inl (weights_all (List.mem_map.2 ⟨_, List.getElem_mem hi, rfl⟩) m hm))))
      refine ⟨p, c, by rw [hcl, hc], hK, hG, fun j u hu => ?_⟩
      have := hcg j u hu
      rw [add_add, hc] at this
      exact this
    refine ⟨List.ofFn fun i => Classical.choose (hall i), ⟨some a, cap, by simp, by simpa using hl, by simp, by simp only [maxLen] at hm; simp; omega, fun _ => ⟨a, rfl, fun j p hj => ?_⟩⟩, ?_, ?_⟩
    · obtain ⟨hjl, hjp⟩ := List.getElem?_eq_some_iff.1 hj
      simp only [List.length_ofFn] at hjl
      have h2 := Classical.choose_spec (hall ⟨j, hjl⟩)
      rw [List.getElem_ofFn] at hjp
      rw [hjp] at h2
      obtain ⟨c, h3, h4, _, h6⟩ := h2
      exact ⟨c, h3, h4, h6⟩
    · rw [List.length_ofFn]
      refine Nat.le_trans (Nat.mul_le_mul_right b ?_) hwt
      omega
    · intro p hp
      obtain ⟨i, rfl⟩ := (List.mem_ofFn).1 hp
      obtain ⟨_, _, _, h5, _⟩ := Classical.choose_spec (hall i)
      exact h5
/-- The fields of a struct from one on, one behind the other. -/
def OpensFields {α : Type} (P : Program) (fs : List Field) (off : Nat) (d : Kd α) (G : α → Prop) : Prop :=
  ∀ (H : Type) (enc : TypeId × Value → H) (W : World) (fuel : Nat) (cs : List Value) (xs : List (DataW H × List MemPlace)), off + d.sz = cs.length → xs.length = fs.length →
    (∀ (i : Nat) (f : Field), fs[i]? = some f → DataW.trod enc P W 0 (fun _ => true) true fuel f.type ((cs.drop f.offset).take (P.cellsOf f.type)) = xs[i]?) →
    (∀ n ∈ DataW.weightsEach P (fs.map (·.type)) (xs.map (·.1)), n ≤ reachBytes) → ∃ a, d.K W a (cs.drop off) ∧ G a
theorem opens_one {α : Type} {d : Kd α} {G : α → Prop} {f : Field} {off : Nat} (ho : f.offset = off) (hc : P.cellsOf f.type = d.sz) (he : Opens P f.type d G) : OpensFields P [f] off d G := by
  intro H enc W fuel cs xs hl hx hf hw
  match xs, hx with
  | [x], _ =>
    have h0 := hf 0 f rfl
    rw [ho, hc, List.take_of_length_le (by rw [List.length_drop]; omega)] at h0
    exact he H enc W fuel _ x h0 (fun n hn => hw n (by simpa [DataW.weightsEach] using hn))
theorem opens_more {α β : Type} {d : Kd α} {d2 : Kd β} {G : α → Prop} {G2 : β → Prop} {f : Field} {fs : List Field} {off : Nat} (ho : f.offset = off) (hc : P.cellsOf f.type = d.sz) (he : Opens P f.type d G) (hs : OpensFields P fs (off + d.sz) d2 G2) :
    OpensFields P (f :: fs) off (Kd.pair d d2) (fun p => G p.1 ∧ G2 p.2) := by
  intro H enc W fuel cs xs hl hx hf hw
  have hl' : off + (d.sz + d2.sz) = cs.length := hl
  match xs, hx with
  | x :: xs, hx =>
    have h0 := hf 0 f rfl
    rw [ho, hc] at h0
    obtain ⟨a, h1, h2⟩ := he H enc W fuel _ x h0 (fun n hn => hw n (by simp only [List.map_cons, DataW.weightsEach, List.mem_append]; exact .inl hn))
    obtain ⟨b, h3, h4⟩ := hs H enc W fuel cs xs (by omega) (by simpa using hx) (fun i g hg => by simpa using hf (i + 1) g (by simpa using hg)) (fun n hn => hw n (by simp only [List.map_cons, DataW.weightsEach, List.mem_append]; exact .inr hn))
    refine ⟨(a, b), ⟨_, _, ?_, h1, h3⟩, h2, h4⟩
    rw [← List.drop_drop, List.take_append_drop]
theorem opens_struct {α : Type} {d : Kd α} {G : α → Prop} {fs : Array Field} (ht : P.underlying t = some (.struct fs)) (hc : P.cellsOf t = d.sz) (hf : OpensFields P fs.toList 0 d G) : Opens P t d G := by
  intro H enc W fuel cs x h hw
  obtain ⟨xs, n, _, rfl, hl, hlen, hg⟩ := DataW.trod_struct ht h
  have := hf H enc W n cs xs (by omega) (by simpa using hlen) (fun i f hi => hg i f (by simpa using hi)) (fun m hm => hw m (by simpa [DataW.weights, ht] using hm))
  simpa using this
theorem opens_iso {α β : Type} {d : Kd α} {G : α → Prop} (f : β → α) (g : α → β) (hfg : ∀ a, f (g a) = a) (h : Opens P t d G) : Opens P t (Kd.iso d f) (fun b => G (f b)) := by
  intro H enc W fuel cs x hx hw
  obtain ⟨a, h1, h2⟩ := h H enc W fuel cs x hx hw
  exact ⟨g a, by show d.K W (f (g a)) cs; rw [hfg]; exact h1, by show G (f (g a)); rw [hfg]; exact h2⟩
/-- An array's elements, one behind the other. -/
theorem opens_array {α : Type} {d : Kd α} {G : α → Prop} {n : Nat} (ht : P.underlying t = some (.array n e)) (hc : P.cellsOf e = d.sz) (hct : P.cellsOf t = n * d.sz) (he : Opens P e d G)
    {H : Type} (enc : TypeId × Value → H) (W : World) (fuel : Nat) (cs : List Value) (x : DataW H × List MemPlace) (h : DataW.trod enc P W 0 (fun _ => true) true fuel t cs = some x) (hw : ∀ m ∈ x.1.weights P t, m ≤ reachBytes) :
    ∃ xs : List α, xs.length = n ∧ Reps (d.K W) d.sz xs cs ∧ ∀ a ∈ xs, G a := by
  obtain ⟨ys, m, _, rfl, hl, hlen, hg⟩ := DataW.trod_array ht h
  have hall : ∀ i : Fin n, ∃ p : α, d.K W p ((cs.drop (i.1 * d.sz)).take d.sz) ∧ G p := by
    intro i
    have hi : i.1 < ys.length := by have := i.2; omega
    have h1 := hg i.1 i.2
    rw [List.getElem?_eq_getElem hi, hc] at h1
    exact he H enc W m _ _ h1 (fun k hk => hw k (by
      simp only [DataW.weights, ht]
      exact weights_all (List.mem_map.2 ⟨_, List.getElem_mem hi, rfl⟩) k hk))
  refine ⟨List.ofFn fun i => Classical.choose (hall i), by simp, ⟨by rw [hl, hct, List.length_ofFn], fun j p hj => ?_⟩, fun p hp => ?_⟩
  · obtain ⟨hjl, hjp⟩ := List.getElem?_eq_some_iff.1 hj
    simp only [List.length_ofFn] at hjl
    have h2 := Classical.choose_spec (hall ⟨j, hjl⟩)
    rw [List.getElem_ofFn] at hjp
    rw [hjp] at h2
    exact h2.1
  · obtain ⟨i, rfl⟩ := (List.mem_ofFn).1 hp
    exact (Classical.choose_spec (hall i)).2
theorem okWide_array {W : World} {r : Reach} {b0 n : Nat} {v : Value} (ht : P.underlying t = some (.array n e)) (h : Value.okWide P W r b0 t v) : ∃ cs, v = .agg cs := by
  simp only [Value.okWide, ht] at h
  obtain ⟨cs, h1, _, _⟩ := h
  exact ⟨cs, h1⟩
theorem weights_each {H : Type} {P : Program} {ts : List TypeId} {ds : List (DataW H)} (h : (DataW.weightsEach P ts ds).all (· ≤ reachBytes) = true) {j : Nat} {t : TypeId} {d : DataW H} (ht : ts[j]? = some t) (hd : ds[j]? = some d) : ∀ n ∈ d.weights P t, n ≤ reachBytes := fun n hn => by
  simpa using List.all_eq_true.1 h _ (DataW.weights_mem_each ht hd n hn)
end
end Go.Proofs.YtefhngadeimklaaDoor.Q
end
