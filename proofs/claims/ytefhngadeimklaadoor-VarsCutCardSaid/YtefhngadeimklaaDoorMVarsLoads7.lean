/- Contracts of Go functions and plain facts, of several texts, one behind the other; no condition. -/
import Derived.Test.YtefhngadeimklaaDoorMVarsLoads6
import Derived.Test.YtefhngadeimklaaDoorMVarsLoads2
import Derived.Test.YtefhngadeimklaaDoorMVarsLoads3
import Derived.Test.YtefhngadeimklaaDoorMVarsLoads5
import Derived.ChangeArms
import Derived.OpenShut
import Derived.SizedLaws
section
namespace Go.Proofs.YtefhngadeimklaaDoor.Q
open Go.RowKit Go.Proofs.YtefhngadeimklaaDoorW.PrintWords Go.Proofs.YtefhngadeimklaaDoorW.PrintLast Go.Proofs.YtefhngadeimklaaDoorW.PrintMore
attribute [local go_sem] max2_int min2_int max_two min_two max_three min_three max_four min_four
set_option linter.unusedVariables false
def limS : ByteArray := ⟨#[98, 111, 111, 116, 45, 108, 105, 109, 105, 116]⟩
def tinderlaw19_alive.f : Option Bool := some true
theorem par_007 : parF (⟨#[48, 48, 55]⟩ : ByteArray) 10 = (7, 0) := by kernel_rfl
theorem show_7 : showB 10 7 = ⟨#[55]⟩ := by
  unfold showB
  rw [showL_small (by decide)]
  rfl
theorem find_lim : vars_find.f 20 (⟨#[98, 111, 111, 116, 45, 108, 105, 109, 105, 116]⟩ : ByteArray) = some (⟨#[98, 111, 111, 116, 45, 108, 105, 109, 105, 116]⟩, 1, ⟨#[53, 48, 48, 48]⟩, 3, true) := by kernel_rfl
theorem right_nil : vars_Right.f 5 [] = some true := by kernel_rfl
theorem form_7 : vars_Form.f 100 (⟨#[98, 111, 111, 116, 45, 108, 105, 109, 105, 116]⟩ : ByteArray) (⟨#[48, 48, 55]⟩ : ByteArray) = some (⟨#[55]⟩, 0) := by
  have h1 : vars_find.f 100 (⟨#[98, 111, 111, 116, 45, 108, 105, 109, 105, 116]⟩ : ByteArray) = some (⟨#[98, 111, 111, 116, 45, 108, 105, 109, 105, 116]⟩, 1, ⟨#[53, 48, 48, 48]⟩, 3, true) := by kernel_rfl
  have h2 : digit_Parse.f 100 (⟨#[48, 48, 55]⟩ : ByteArray) 10 = some (7, 0) := by rw [parse_eq _ _ _ (by decide) (by decide), par_007]
  have h3 : digit_Show.f 7 10 = some (⟨#[55]⟩, 0) := by
    unfold digit_Show.f
    rw [if_pos (by decide), if_pos rfl, show_7]
  unfold vars_Form.f vars_variable_form.f
  rw [h1, Option.bind_some, if_pos rfl, if_neg (by decide), if_pos rfl, h2, Option.bind_some, if_pos rfl, h3]
  rfl
theorem blk_keep {n i : Nat} {w w1 : World} {o : Obj} (hb : Below n w w1) (hi : i < n) (h : w.heap[i]? = some o) : w1.heap[i]? = some o := by rw [hb.block _ hi]; exact h
theorem two_get (w : World) (o o2 : Obj) : ((w.alloc o).alloc o2).heap[w.heap.size]? = some o := by
  unfold World.alloc
  simp [Array.getElem?_push]
theorem size_one (w : World) (o : Obj) : (w.alloc o).heap.size = w.heap.size + 1 := by
  unfold World.alloc
  simp
theorem size_two (w : World) (o o2 : Obj) : ((w.alloc o).alloc o2).heap.size = w.heap.size + 2 := by rw [size_one, size_one]
theorem get_one (w : World) (o : Obj) : (w.alloc o).heap[w.heap.size]? = some o := by
  unfold World.alloc
  simp
theorem C_one40 (W : World) (b : Nat) (x : S40) (h : W.heap[b]? = some (.cells #[.string x.f0, .string x.f1] 40 (0, 0))) : Kd.C k40 W (some ⟨b, 0, none⟩) 1 [x] := by
  refine ⟨rfl, by decide, fun _ => ⟨_, rfl, fun j p hj => ?_⟩⟩
  obtain ⟨hl, hp⟩ := List.getElem?_eq_some_iff.1 hj
  obtain rfl : j = 0 := by simpa using hl
  obtain rfl : x = p := hp
  refine ⟨_, rfl, k40_mk W x, fun j u hu => ?_⟩
  have := blk_cell h j
  rw [show (⟨b, 0, none⟩ : Addr).add (0 * k40.sz + j) = ⟨b, j, none⟩ from by rw [Nat.zero_mul, Nat.zero_add]; unfold Addr.add; split <;> simp_all]
  rw [this]
  simpa using hu
set_option maxHeartbeats 4000000 in
set_option maxRecDepth 100000 in
theorem setSeven_calls (w : World) (ht : Tabs w) :
    Calls Tryd.prog 13 #[.slice none 0 0, .string ⟨#[98, 111, 111, 116, 45, 108, 105, 109, 105, 116]⟩, .string ⟨#[48, 48, 55]⟩] w fun e w' => ∃ v, e = .returned (.tuple #[v, .int .i64 0]) ∧ Kd.R k40 40 w' w.heap.size (fun _ => True) v [⟨⟨#[98, 111, 111, 116, 45, 108, 105, 109, 105, 116]⟩, ⟨#[55]⟩⟩] ∧ Below w.heap.size w w' := by
  have hu57 := Tryd.underlying57
  have HT := Aside0.mk ht
  have HRI := Aside0.mk (fun (W : World) (hT : Tabs W) => (show Calls Tryd.prog 16 #[.slice none 0 0] W (fun e w' => e = .returned (.bool true) ∧ Below W.heap.size W w') from vars_Right.calls 5 none 0 [] true W hT (Kd.C_nil _ _) (Nat.le_refl _) right_nil))
  have HFM := Aside0.mk (fun (W : World) (hT : Tabs W) => vars_Form.calls 100 _ _ _ _ W hT form_7)
  have HFD := Aside0.mk (fun (W : World) => vars_find.calls 20 _ _ _ _ _ _ W find_lim)
  have HB := Aside0.mk (Below.refl w.heap.size w)
  clear ht
  go_enter Tryd.func13, Tryd.ntmps13
  go_wp2_with (first
    | (go_at_call 16; (with_reducible refine (HRI.out _ HT.out).mono ?_); rintro e w1 ⟨rfl, hb⟩; have HB := Aside0.mk hb; have HT := Aside0.mk (HT.out.below hb); clear hb)
    | (go_at_call 17; (with_reducible refine (HFM.out _ HT.out).mono ?_); rintro e w2 ⟨rfl, hb⟩; have HB := Aside0.mk (below_step HB.out hb); clear hb)
    | (go_at_call 39; (with_reducible refine (cloneNil_calls _).mono ?_); rintro e w4 ⟨rfl, hb⟩; have BK := Aside0.mk (show w4.heap[w3.heap.size]? = some (.cells #[.string ⟨#[98, 111, 111, 116, 45, 108, 105, 109, 105, 116]⟩, .int .i64 1, .string ⟨#[53, 48, 48, 48]⟩] 57 (0, 0)) from by rw [hb.block _ (by rw [size_two]; omega)]; exact two_get _ _ _); have HS := Aside0.mk (show w3.heap.size < w4.heap.size from Nat.lt_of_lt_of_le (by rw [size_two]; omega) hb.size); have HB := Aside0.mk (below_step (below_alloc (below_alloc HB.out _) _) hb); clear hb)
    | (go_at_call 40; (with_reducible refine (named_calls _ _).mono ?_); rintro e w5 ⟨gb, rfl, _, _, hb⟩; have BK := Aside0.mk (blk_keep hb HS.out BK.out); have HS := Aside0.mk (Nat.lt_of_lt_of_le HS.out hb.size); have HB := Aside0.mk (below_step HB.out hb); clear hb)
    | (go_at_call 38; (with_reducible refine (deleteNil_calls _ _).mono ?_); rintro e w6 ⟨rfl, hb⟩; have BK := Aside0.mk (blk_keep hb HS.out BK.out); have HB := Aside0.mk (below_step HB.out hb); clear hb; have hz0 := (blk_cell BK.out 0).trans rfl; have hz1 := (blk_cell BK.out 1).trans rfl; have hz2 := (blk_cell BK.out 2).trans rfl; have hf2 := blk_frozen BK.out 2)
    | (go_at_call 41; (with_reducible refine (indexNil_calls _ _).mono ?_); rintro e w7 ⟨rfl, hb⟩; have HB := Aside0.mk (below_step HB.out hb); clear hb)
    | (go_at_call 43; (with_reducible refine (insertNil_calls _ _ _ (C_one40 _ _ ⟨⟨#[98, 111, 111, 116, 45, 108, 105, 109, 105, 116]⟩, ⟨#[55]⟩⟩ ?hC)).mono ?_); (case hC => exact get_one _ _); rintro e w8 ⟨v, rfl, hr, hb⟩; have HR := Aside0.mk (Kd.R_lower hr (below_size (below_alloc HB.out _))); have HB := Aside0.mk (below_step (below_alloc HB.out _) hb); clear hb hr)
    | (go_at_call 37; (with_reducible refine (HFD.out _).mono ?_); rintro e w3 ⟨rfl, hb⟩; have HB := Aside0.mk (below_step HB.out hb); clear hb))
  go_ret2
  exact ⟨_, rfl, HR.out, HB.out⟩
set_option maxHeartbeats 2000000 in
set_option maxRecDepth 100000 in
theorem tinderlaw19_alive.calls (r : Bool) (w : World) (ht : Tabs w) (h : tinderlaw19_alive.f = some r) :
    Calls Tryd.prog 11 #[] w fun e w' => e = .returned (.bool r) ∧ Below w.heap.size w w' := by
  obtain rfl := Option.some.inj h
  have hu40 := Tryd.underlying40
  have HI := Aside0.mk (setSeven_calls w ht)
  have e1 : ((⟨#[98, 111, 111, 116, 45, 108, 105, 109, 105, 116]⟩ : ByteArray).toList == (⟨#[98, 111, 111, 116, 45, 108, 105, 109, 105, 116]⟩ : ByteArray).toList) = true := by rw [beq_iff_eq]
  clear ht h
  go_enter Tryd.func11, Tryd.ntmps11
  go_wp2_with (first
    | (go_at_call 13; refine HI.out.mono ?_; rintro e w1 ⟨v, rfl, hr, hb⟩; obtain ⟨A, c, rfl, hc, hC⟩ := Kd.R_reads hr; obtain ⟨ad, eA, hx0, hx1⟩ := at_T40 hC 0 (by decide) (by decide); cases eA; replace hx0 : w1.cell? ad = some (.string ⟨#[98, 111, 111, 116, 45, 108, 105, 109, 105, 116]⟩) := hx0; replace hx1 : w1.cell? ⟨ad.block, ad.off + 1, none⟩ = some (.string ⟨#[55]⟩) := hx1; have HB1 := Aside0.mk hb; clear hb hr hC hc))
  go_ret
  exact ⟨rfl, HB1.out⟩
end Go.Proofs.YtefhngadeimklaaDoor.Q
end
section
namespace Go.Proofs.YtefhngadeimklaaDoor.Q
open Go.RowKit Go.Proofs.YtefhngadeimklaaDoorW.PrintWords Go.Proofs.YtefhngadeimklaaDoorW.PrintLast Go.Proofs.YtefhngadeimklaaDoorW.PrintMore
set_option linter.unusedVariables false
set_option linter.unusedSimpArgs false

attribute [local go_sem] max2_int min2_int max_two min_two max_three min_three max_four min_four
/-! ### tinderlaw19_VarsLoads: function 9 -/
def tinderlaw19_VarsLoads.f (k : Nat) (l0 : List Int) (l1 : List (S40)) : Option (Bool) := (tinderlaw19_alive.f).bind fun t10001 => (if t10001 = true then ((vars_Save.f k l0 l1).bind fun bt10002 => ((tinderref19_Save.f k l0 l1).bind fun bt10006 => ((vars_Load.f k l0).bind fun t10010 => ((tinderref19_Load.f k l0).bind fun t10013 => ((tinderref19_Same.f k t10010 t10013).bind fun t10016 => (if t10016 = true then ((tinderref18_SameBytes.f k bt10002.1 bt10006.1).bind fun t10017 => (if t10017 = true then (some (bt10002.2 == bt10006.2)) else (some false))) else (some false))))))) else (some false))
set_option maxHeartbeats 8000000 in
set_option maxRecDepth 100000 in
theorem tinderlaw19_VarsLoads.calls (k : Nat) (A0 : Option Addr) (c0 : Nat) (l0 : List Int) (A1 : Option Addr) (c1 : Nat) (l1 : List (S40)) (r : Bool) (w : World) (ht : Tabs w) (hr0 : Kd.C (Kd.int .u8) w A0 l0.length l0) (hc0 : l0.length ≤ c0) (hr1 : Kd.C k40 w A1 l1.length l1) (hc1 : l1.length ≤ c1) (h : tinderlaw19_VarsLoads.f k l0 l1 = some r) :
    Calls Tryd.prog 9 #[.slice A0 l0.length c0, .slice A1 l1.length c1] w fun e w' => e = .returned (.bool r) ∧ Below w.heap.size w w' := by
  have HR0 := Aside0.mk hr0
  have HC0 := Aside0.mk hc0
  clear hr0 hc0
  have HR1 := Aside0.mk hr1
  have HC1 := Aside0.mk hc1
  clear hr1 hc1
  have HB := Aside0.mk (Below.refl w.heap.size w)
  have H : ((tinderlaw19_alive.f).bind fun t10001 => (if t10001 = true then ((vars_Save.f k l0 l1).bind fun bt10002 => ((tinderref19_Save.f k l0 l1).bind fun bt10006 => ((vars_Load.f k l0).bind fun t10010 => ((tinderref19_Load.f k l0).bind fun t10013 => ((tinderref19_Same.f k t10010 t10013).bind fun t10016 => (if t10016 = true then ((tinderref18_SameBytes.f k bt10002.1 bt10006.1).bind fun t10017 => (if t10017 = true then (some (bt10002.2 == bt10006.2)) else (some false))) else (some false))))))) else (some false))) = some r := h
  clear h
  replace H := Option.bind_eq_some_iff.mp H
  obtain ⟨t10001, A30, H⟩ := H
  replace H : (if t10001 = true then ((vars_Save.f k l0 l1).bind fun bt10002 => ((tinderref19_Save.f k l0 l1).bind fun bt10006 => ((vars_Load.f k l0).bind fun t10010 => ((tinderref19_Load.f k l0).bind fun t10013 => ((tinderref19_Same.f k t10010 t10013).bind fun t10016 => (if t10016 = true then ((tinderref18_SameBytes.f k bt10002.1 bt10006.1).bind fun t10017 => (if t10017 = true then (some (bt10002.2 == bt10006.2)) else (some false))) else (some false))))))) else (some false)) = some r := H
  have A3 := Aside0.mk A30
  clear A30
  by_cases c4 : t10001 = true
  · subst c4
    have H1 : ((vars_Save.f k l0 l1).bind fun bt10002 => ((tinderref19_Save.f k l0 l1).bind fun bt10006 => ((vars_Load.f k l0).bind fun t10010 => ((tinderref19_Load.f k l0).bind fun t10013 => ((tinderref19_Same.f k t10010 t10013).bind fun t10016 => (if t10016 = true then ((tinderref18_SameBytes.f k bt10002.1 bt10006.1).bind fun t10017 => (if t10017 = true then (some (bt10002.2 == bt10006.2)) else (some false))) else (some false))))))) = some r := by rw [if_pos rfl] at H; exact H
    clear H
    have H := H1
    clear H1
    replace H := Option.bind_eq_some_iff.mp H
    obtain ⟨⟨t10002, t10003⟩, A50, H⟩ := H
    replace H : ((tinderref19_Save.f k l0 l1).bind fun bt10006 => ((vars_Load.f k l0).bind fun t10010 => ((tinderref19_Load.f k l0).bind fun t10013 => ((tinderref19_Same.f k t10010 t10013).bind fun t10016 => (if t10016 = true then ((tinderref18_SameBytes.f k t10002 bt10006.1).bind fun t10017 => (if t10017 = true then (some (t10003 == bt10006.2)) else (some false))) else (some false)))))) = some r := H
    have A5 := Aside0.mk A50
    clear A50
    replace H := Option.bind_eq_some_iff.mp H
    obtain ⟨⟨t10006, t10007⟩, A60, H⟩ := H
    replace H : ((vars_Load.f k l0).bind fun t10010 => ((tinderref19_Load.f k l0).bind fun t10013 => ((tinderref19_Same.f k t10010 t10013).bind fun t10016 => (if t10016 = true then ((tinderref18_SameBytes.f k t10002 t10006).bind fun t10017 => (if t10017 = true then (some (t10003 == t10007)) else (some false))) else (some false))))) = some r := H
    have A6 := Aside0.mk A60
    clear A60
    replace H := Option.bind_eq_some_iff.mp H
    obtain ⟨t10010, A70, H⟩ := H
    replace H : ((tinderref19_Load.f k l0).bind fun t10013 => ((tinderref19_Same.f k t10010 t10013).bind fun t10016 => (if t10016 = true then ((tinderref18_SameBytes.f k t10002 t10006).bind fun t10017 => (if t10017 = true then (some (t10003 == t10007)) else (some false))) else (some false)))) = some r := H
    have A7 := Aside0.mk A70
    clear A70
    replace H := Option.bind_eq_some_iff.mp H
    obtain ⟨t10013, A80, H⟩ := H
    replace H : ((tinderref19_Same.f k t10010 t10013).bind fun t10016 => (if t10016 = true then ((tinderref18_SameBytes.f k t10002 t10006).bind fun t10017 => (if t10017 = true then (some (t10003 == t10007)) else (some false))) else (some false))) = some r := H
    have A8 := Aside0.mk A80
    clear A80
    replace H := Option.bind_eq_some_iff.mp H
    obtain ⟨t10016, A90, H⟩ := H
    replace H : (if t10016 = true then ((tinderref18_SameBytes.f k t10002 t10006).bind fun t10017 => (if t10017 = true then (some (t10003 == t10007)) else (some false))) else (some false)) = some r := H
    have A9 := Aside0.mk A90
    clear A90
    by_cases c10 : t10016 = true
    · subst c10
      have H1 : ((tinderref18_SameBytes.f k t10002 t10006).bind fun t10017 => (if t10017 = true then (some (t10003 == t10007)) else (some false))) = some r := by rw [if_pos rfl] at H; exact H
      clear H
      have H := H1
      clear H1
      replace H := Option.bind_eq_some_iff.mp H
      obtain ⟨t10017, A110, H⟩ := H
      replace H : (if t10017 = true then (some (t10003 == t10007)) else (some false)) = some r := H
      have A11 := Aside0.mk A110
      clear A110
      by_cases c12 : t10017 = true
      · subst c12
        have H1 : (some (t10003 == t10007)) = some r := by rw [if_pos rfl] at H; exact H
        clear H
        have H := H1
        clear H1
        obtain rfl := Option.some.inj H
        go_enter Tryd.func9, Tryd.ntmps9
        go_wp2_with (first | ((with_reducible refine gate_callee (f := 11) rfl ?_); refine goesL_ (some 9) rfl rfl Tryd.func11 (by kernel_rfl) rfl #[] rfl (by (try simp only [List.map_toArray, List.map_cons, List.map_nil]); first | done | rfl | (simp only [List.length_drop, List.length_take]; rfl)) ?_; (with_reducible refine (tinderlaw19_alive.calls  true _ ht A3.out).mono ?_); rintro e w13 ⟨rfl, hb⟩; refine ⟨_, rfl, ?_⟩; have n0_ := Aside0.mk (below_step (by repeat (first | (with_reducible first | exact HB.out | apply below_alloc | apply pw_below_drewN | apply below_drew1) | exact HB.out)) hb); clear HB; have HB := n0_; clear n0_; (try clear hb); (try clear hb2); (try clear hk); (try clear hi)) | ((with_reducible refine gate_callee (f := 31) rfl ?_); refine goesL_ (some 14) rfl rfl Tryd.func31 (by kernel_rfl) rfl #[.slice A0 l0.length c0, .slice A1 l1.length c1] rfl (by (try simp only [List.map_toArray, List.map_cons, List.map_nil]); first | done | rfl | (simp only [List.length_drop, List.length_take]; rfl)) ?_; (with_reducible refine (vars_Save.calls k _ _ l0 _ _ l1 t10002 t10003 _ (Tabs.below ht (by repeat (first | (with_reducible first | exact HB.out | apply below_alloc | apply pw_below_drewN | apply below_drew1 | refine below_set ?_ (Aside0.out (by assumption))) | exact HB.out))) ?side1 ?side2 ?side3 ?side4 A5.out).mono ?_); (case side1 => repeat (first | exact (Kd.C_below HR0.out HB.out) | (with_reducible refine Kd.C_alloc ?_ _) | (with_reducible refine Kd.C_drewN ?_ _) | (with_reducible refine Kd.C_drew ?_))); (case side2 => exact HC0.out); (case side3 => repeat (first | exact (Kd.C_below HR1.out HB.out) | (with_reducible refine Kd.C_alloc ?_ _) | (with_reducible refine Kd.C_drewN ?_ _) | (with_reducible refine Kd.C_drew ?_))); (case side4 => exact HC1.out); rintro e w14 ⟨v10004, rfl, ho0, hb⟩; refine ⟨_, rfl, ?_⟩; have n0_ := Aside0.mk (Kd.R_lower ho0 (below_size (by repeat (first | (with_reducible first | exact HB.out | apply below_alloc | apply pw_below_drewN | apply below_drew1) | exact HB.out)))); have n1_ := Aside0.mk (below_step (by repeat (first | (with_reducible first | exact HB.out | apply below_alloc | apply pw_below_drewN | apply below_drew1) | exact HB.out)) hb); clear HB; have HO10005 := n0_; have HB := n1_; clear n0_ n1_; (try clear hb); (try clear hb2); (try clear hk); (try clear hi); (try clear ho0)) | ((with_reducible refine gate_callee (f := 32) rfl ?_); refine goesL_ (some 20) rfl rfl Tryd.func32 (by kernel_rfl) rfl #[.slice A0 l0.length c0, .slice A1 l1.length c1] rfl (by (try simp only [List.map_toArray, List.map_cons, List.map_nil]); first | done | rfl | (simp only [List.length_drop, List.length_take]; rfl)) ?_; (with_reducible refine (tinderref19_Save.calls k _ _ l0 _ _ l1 t10006 t10007 _ ?side1 ?side2 ?side3 ?side4 A6.out).mono ?_); (case side1 => repeat (first | exact (Kd.C_below HR0.out HB.out) | (with_reducible refine Kd.C_alloc ?_ _) | (with_reducible refine Kd.C_drewN ?_ _) | (with_reducible refine Kd.C_drew ?_))); (case side2 => exact HC0.out); (case side3 => repeat (first | exact (Kd.C_below HR1.out HB.out) | (with_reducible refine Kd.C_alloc ?_ _) | (with_reducible refine Kd.C_drewN ?_ _) | (with_reducible refine Kd.C_drew ?_))); (case side4 => exact HC1.out); rintro e w15 ⟨v10008, rfl, ho0, hb⟩; refine ⟨_, rfl, ?_⟩; have n0_ := Aside0.mk (Kd.R_elder' (by (with_reducible repeat (first | apply Kd.R_alloc | apply Kd.R_drewN | apply Kd.R_drew)); exact HO10005.out) (Kd.R_base ho0) hb); have n1_ := Aside0.mk (Kd.R_lower (Kd.R_new' ho0 (Kd.R_lt (by (with_reducible repeat (first | apply Kd.R_alloc | apply Kd.R_drewN | apply Kd.R_drew)); exact HO10005.out))) (below_size (by repeat (first | (with_reducible first | exact HB.out | apply below_alloc | apply pw_below_drewN | apply below_drew1) | exact HB.out)))); have n2_ := Aside0.mk (below_step (by repeat (first | (with_reducible first | exact HB.out | apply below_alloc | apply pw_below_drewN | apply below_drew1) | exact HB.out)) hb); clear HO10005; clear HB; have HO10005 := n0_; have HO10009 := n1_; have HB := n2_; clear n0_ n1_ n2_; (try clear hb); (try clear hb2); (try clear hk); (try clear hi); (try clear ho0)) | ((with_reducible refine gate_callee (f := 33) rfl ?_); refine goesL_ (some 24) rfl rfl Tryd.func33 (by kernel_rfl) rfl #[.slice A0 l0.length c0] rfl (by (try simp only [List.map_toArray, List.map_cons, List.map_nil]); first | done | rfl | (simp only [List.length_drop, List.length_take]; rfl)) ?_; (with_reducible refine (vars_Load.calls k _ _ l0 t10010 _ (Tabs.below ht (by repeat (first | (with_reducible first | exact HB.out | apply below_alloc | apply pw_below_drewN | apply below_drew1 | refine below_set ?_ (Aside0.out (by assumption))) | exact HB.out))) ?side1 ?side2 A7.out).mono ?_); (case side1 => repeat (first | exact (Kd.C_below HR0.out HB.out) | (with_reducible refine Kd.C_alloc ?_ _) | (with_reducible refine Kd.C_drewN ?_ _) | (with_reducible refine Kd.C_drew ?_))); (case side2 => exact HC0.out); rintro e w16 ⟨v10011, rfl, ho0, hb⟩; refine ⟨_, rfl, ?_⟩; have n0_ := Aside0.mk (Kd.R_below (by (with_reducible repeat (first | apply Kd.R_alloc | apply Kd.R_drewN | apply Kd.R_drew)); exact HO10005.out) hb); have n1_ := Aside0.mk (Kd.R_below (by (with_reducible repeat (first | apply Kd.R_alloc | apply Kd.R_drewN | apply Kd.R_drew)); exact HO10009.out) hb); have n2_ := Aside0.mk (Kd.R_lower ho0 (below_size (by repeat (first | (with_reducible first | exact HB.out | apply below_alloc | apply pw_below_drewN | apply below_drew1) | exact HB.out)))); have n3_ := Aside0.mk (below_step (by repeat (first | (with_reducible first | exact HB.out | apply below_alloc | apply pw_below_drewN | apply below_drew1) | exact HB.out)) hb); clear HO10005; clear HO10009; clear HB; have HO10005 := n0_; have HO10009 := n1_; have HO10012 := n2_; have HB := n3_; clear n0_ n1_ n2_ n3_; (try clear hb); (try clear hb2); (try clear hk); (try clear hi); (try clear ho0)) | ((with_reducible refine gate_callee (f := 34) rfl ?_); refine goesL_ (some 26) rfl rfl Tryd.func34 (by kernel_rfl) rfl #[.slice A0 l0.length c0] rfl (by (try simp only [List.map_toArray, List.map_cons, List.map_nil]); first | done | rfl | (simp only [List.length_drop, List.length_take]; rfl)) ?_; (with_reducible refine (tinderref19_Load.calls k _ _ l0 t10013 _ ?side1 ?side2 A8.out).mono ?_); (case side1 => repeat (first | exact (Kd.C_below HR0.out HB.out) | (with_reducible refine Kd.C_alloc ?_ _) | (with_reducible refine Kd.C_drewN ?_ _) | (with_reducible refine Kd.C_drew ?_))); (case side2 => exact HC0.out); rintro e w17 ⟨v10014, rfl, ho0, hb⟩; refine ⟨_, rfl, ?_⟩; have n0_ := Aside0.mk (Kd.R_below (by (with_reducible repeat (first | apply Kd.R_alloc | apply Kd.R_drewN | apply Kd.R_drew)); exact HO10005.out) hb); have n1_ := Aside0.mk (Kd.R_below (by (with_reducible repeat (first | apply Kd.R_alloc | apply Kd.R_drewN | apply Kd.R_drew)); exact HO10009.out) hb); have n2_ := Aside0.mk (Kd.R_elder' (by (with_reducible repeat (first | apply Kd.R_alloc | apply Kd.R_drewN | apply Kd.R_drew)); exact HO10012.out) (Kd.R_base ho0) hb); have n3_ := Aside0.mk (Kd.R_lower (Kd.R_new' ho0 (Kd.R_lt (by (with_reducible repeat (first | apply Kd.R_alloc | apply Kd.R_drewN | apply Kd.R_drew)); exact HO10012.out))) (below_size (by repeat (first | (with_reducible first | exact HB.out | apply below_alloc | apply pw_below_drewN | apply below_drew1) | exact HB.out)))); have n4_ := Aside0.mk (below_step (by repeat (first | (with_reducible first | exact HB.out | apply below_alloc | apply pw_below_drewN | apply below_drew1) | exact HB.out)) hb); clear HO10005; clear HO10009; clear HO10012; clear HB; have HO10005 := n0_; have HO10009 := n1_; have HO10012 := n2_; have HO10015 := n3_; have HB := n4_; clear n0_ n1_ n2_ n3_ n4_; (try clear hb); (try clear hb2); (try clear hk); (try clear hi); (try clear ho0); obtain ⟨Ao18, co18, eo18⟩ := Kd.R_slice HO10012.out; subst eo18; obtain ⟨Ao19, co19, eo19⟩ := Kd.R_slice HO10015.out; subst eo19) | ((with_reducible refine gate_callee (f := 15) rfl ?_); refine goesL_ (some 27) rfl rfl Tryd.func15 (by kernel_rfl) rfl #[.slice Ao18 t10010.length co18, .slice Ao19 t10013.length co19] rfl (by (try simp only [List.map_toArray, List.map_cons, List.map_nil]); first | done | rfl | (simp only [List.length_drop, List.length_take]; rfl)) ?_; (with_reducible refine (tinderref19_Same.calls k _ _ t10010 _ _ t10013 true _ ?side1 ?side2 ?side3 ?side4 A9.out).mono ?_); (case side1 => repeat (first | exact (Kd.R_reads' HO10012.out).2.2 | (with_reducible refine Kd.C_alloc ?_ _) | (with_reducible refine Kd.C_drewN ?_ _) | (with_reducible refine Kd.C_drew ?_))); (case side2 => exact (Kd.R_reads' HO10012.out).2.1); (case side3 => repeat (first | exact (Kd.R_reads' HO10015.out).2.2 | (with_reducible refine Kd.C_alloc ?_ _) | (with_reducible refine Kd.C_drewN ?_ _) | (with_reducible refine Kd.C_drew ?_))); (case side4 => exact (Kd.R_reads' HO10015.out).2.1); rintro e w' ⟨rfl, ⟨nd, rfl⟩⟩; refine ⟨_, rfl, ?_⟩; obtain ⟨Ao20, co20, eo20⟩ := Kd.R_slice HO10005.out; subst eo20; obtain ⟨Ao21, co21, eo21⟩ := Kd.R_slice HO10009.out; subst eo21) | (go_at_call 35; (with_reducible refine (tinderref18_SameBytes.calls k _ _ t10002 _ _ t10006 true _ ?side1 ?side2 ?side3 ?side4 A11.out).mono ?_); (case side1 => repeat (first | exact (Kd.R_reads' HO10005.out).2.2 | (with_reducible refine Kd.C_alloc ?_ _) | (with_reducible refine Kd.C_drewN ?_ _) | (with_reducible refine Kd.C_drew ?_))); (case side2 => exact (Kd.R_reads' HO10005.out).2.1); (case side3 => repeat (first | exact (Kd.R_reads' HO10009.out).2.2 | (with_reducible refine Kd.C_alloc ?_ _) | (with_reducible refine Kd.C_drewN ?_ _) | (with_reducible refine Kd.C_drew ?_))); (case side4 => exact (Kd.R_reads' HO10009.out).2.1); rintro e w' ⟨rfl, ⟨nd, rfl⟩⟩))
        go_ret
        exact ⟨by first | rfl | (simp [errW_none, errW_some] <;> rfl) | (simp [*, errW_none, errW_some] <;> rfl), by repeat (first | (with_reducible first | exact HB.out | apply below_alloc | apply pw_below_drewN | apply below_drew1) | exact HB.out)⟩
      · replace c12 := Bool.eq_false_iff.mpr c12
        subst c12
        have H1 : (some false) = some r := by rw [if_neg (show ¬ (false = true) by decide)] at H; exact H
        clear H
        have H := H1
        clear H1
        obtain rfl := Option.some.inj H
        go_enter Tryd.func9, Tryd.ntmps9
        go_wp2_with (first | ((with_reducible refine gate_callee (f := 11) rfl ?_); refine goesL_ (some 9) rfl rfl Tryd.func11 (by kernel_rfl) rfl #[] rfl (by (try simp only [List.map_toArray, List.map_cons, List.map_nil]); first | done | rfl | (simp only [List.length_drop, List.length_take]; rfl)) ?_; (with_reducible refine (tinderlaw19_alive.calls  true _ ht A3.out).mono ?_); rintro e w22 ⟨rfl, hb⟩; refine ⟨_, rfl, ?_⟩; have n0_ := Aside0.mk (below_step (by repeat (first | (with_reducible first | exact HB.out | apply below_alloc | apply pw_below_drewN | apply below_drew1) | exact HB.out)) hb); clear HB; have HB := n0_; clear n0_; (try clear hb); (try clear hb2); (try clear hk); (try clear hi)) | ((with_reducible refine gate_callee (f := 31) rfl ?_); refine goesL_ (some 14) rfl rfl Tryd.func31 (by kernel_rfl) rfl #[.slice A0 l0.length c0, .slice A1 l1.length c1] rfl (by (try simp only [List.map_toArray, List.map_cons, List.map_nil]); first | done | rfl | (simp only [List.length_drop, List.length_take]; rfl)) ?_; (with_reducible refine (vars_Save.calls k _ _ l0 _ _ l1 t10002 t10003 _ (Tabs.below ht (by repeat (first | (with_reducible first | exact HB.out | apply below_alloc | apply pw_below_drewN | apply below_drew1 | refine below_set ?_ (Aside0.out (by assumption))) | exact HB.out))) ?side1 ?side2 ?side3 ?side4 A5.out).mono ?_); (case side1 => repeat (first | exact (Kd.C_below HR0.out HB.out) | (with_reducible refine Kd.C_alloc ?_ _) | (with_reducible refine Kd.C_drewN ?_ _) | (with_reducible refine Kd.C_drew ?_))); (case side2 => exact HC0.out); (case side3 => repeat (first | exact (Kd.C_below HR1.out HB.out) | (with_reducible refine Kd.C_alloc ?_ _) | (with_reducible refine Kd.C_drewN ?_ _) | (with_reducible refine Kd.C_drew ?_))); (case side4 => exact HC1.out); rintro e w23 ⟨v10004, rfl, ho0, hb⟩; refine ⟨_, rfl, ?_⟩; have n0_ := Aside0.mk (Kd.R_lower ho0 (below_size (by repeat (first | (with_reducible first | exact HB.out | apply below_alloc | apply pw_below_drewN | apply below_drew1) | exact HB.out)))); have n1_ := Aside0.mk (below_step (by repeat (first | (with_reducible first | exact HB.out | apply below_alloc | apply pw_below_drewN | apply below_drew1) | exact HB.out)) hb); clear HB; have HO10005 := n0_; have HB := n1_; clear n0_ n1_; (try clear hb); (try clear hb2); (try clear hk); (try clear hi); (try clear ho0)) | ((with_reducible refine gate_callee (f := 32) rfl ?_); refine goesL_ (some 20) rfl rfl Tryd.func32 (by kernel_rfl) rfl #[.slice A0 l0.length c0, .slice A1 l1.length c1] rfl (by (try simp only [List.map_toArray, List.map_cons, List.map_nil]); first | done | rfl | (simp only [List.length_drop, List.length_take]; rfl)) ?_; (with_reducible refine (tinderref19_Save.calls k _ _ l0 _ _ l1 t10006 t10007 _ ?side1 ?side2 ?side3 ?side4 A6.out).mono ?_); (case side1 => repeat (first | exact (Kd.C_below HR0.out HB.out) | (with_reducible refine Kd.C_alloc ?_ _) | (with_reducible refine Kd.C_drewN ?_ _) | (with_reducible refine Kd.C_drew ?_))); (case side2 => exact HC0.out); (case side3 => repeat (first | exact (Kd.C_below HR1.out HB.out) | (with_reducible refine Kd.C_alloc ?_ _) | (with_reducible refine Kd.C_drewN ?_ _) | (with_reducible refine Kd.C_drew ?_))); (case side4 => exact HC1.out); rintro e w24 ⟨v10008, rfl, ho0, hb⟩; refine ⟨_, rfl, ?_⟩; have n0_ := Aside0.mk (Kd.R_elder' (by (with_reducible repeat (first | apply Kd.R_alloc | apply Kd.R_drewN | apply Kd.R_drew)); exact HO10005.out) (Kd.R_base ho0) hb); have n1_ := Aside0.mk (Kd.R_lower (Kd.R_new' ho0 (Kd.R_lt (by (with_reducible repeat (first | apply Kd.R_alloc | apply Kd.R_drewN | apply Kd.R_drew)); exact HO10005.out))) (below_size (by repeat (first | (with_reducible first | exact HB.out | apply below_alloc | apply pw_below_drewN | apply below_drew1) | exact HB.out)))); have n2_ := Aside0.mk (below_step (by repeat (first | (with_reducible first | exact HB.out | apply below_alloc | apply pw_below_drewN | apply below_drew1) | exact HB.out)) hb); clear HO10005; clear HB; have HO10005 := n0_; have HO10009 := n1_; have HB := n2_; clear n0_ n1_ n2_; (try clear hb); (try clear hb2); (try clear hk); (try clear hi); (try clear ho0)) | ((with_reducible refine gate_callee (f := 33) rfl ?_); refine goesL_ (some 24) rfl rfl Tryd.func33 (by kernel_rfl) rfl #[.slice A0 l0.length c0] rfl (by (try simp only [List.map_toArray, List.map_cons, List.map_nil]); first | done | rfl | (simp only [List.length_drop, List.length_take]; rfl)) ?_; (with_reducible refine (vars_Load.calls k _ _ l0 t10010 _ (Tabs.below ht (by repeat (first | (with_reducible first | exact HB.out | apply below_alloc | apply pw_below_drewN | apply below_drew1 | refine below_set ?_ (Aside0.out (by assumption))) | exact HB.out))) ?side1 ?side2 A7.out).mono ?_); (case side1 => repeat (first | exact (Kd.C_below HR0.out HB.out) | (with_reducible refine Kd.C_alloc ?_ _) | (with_reducible refine Kd.C_drewN ?_ _) | (with_reducible refine Kd.C_drew ?_))); (case side2 => exact HC0.out); rintro e w25 ⟨v10011, rfl, ho0, hb⟩; refine ⟨_, rfl, ?_⟩; have n0_ := Aside0.mk (Kd.R_below (by (with_reducible repeat (first | apply Kd.R_alloc | apply Kd.R_drewN | apply Kd.R_drew)); exact HO10005.out) hb); have n1_ := Aside0.mk (Kd.R_below (by (with_reducible repeat (first | apply Kd.R_alloc | apply Kd.R_drewN | apply Kd.R_drew)); exact HO10009.out) hb); have n2_ := Aside0.mk (Kd.R_lower ho0 (below_size (by repeat (first | (with_reducible first | exact HB.out | apply below_alloc | apply pw_below_drewN | apply below_drew1) | exact HB.out)))); have n3_ := Aside0.mk (below_step (by repeat (first | (with_reducible first | exact HB.out | apply below_alloc | apply pw_below_drewN | apply below_drew1) | exact HB.out)) hb); clear HO10005; clear HO10009; clear HB; have HO10005 := n0_; have HO10009 := n1_; have HO10012 := n2_; have HB := n3_; clear n0_ n1_ n2_ n3_; (try clear hb); (try clear hb2); (try clear hk); (try clear hi); (try clear ho0)) | ((with_reducible refine gate_callee (f := 34) rfl ?_); refine goesL_ (some 26) rfl rfl Tryd.func34 (by kernel_rfl) rfl #[.slice A0 l0.length c0] rfl (by (try simp only [List.map_toArray, List.map_cons, List.map_nil]); first | done | rfl | (simp only [List.length_drop, List.length_take]; rfl)) ?_; (with_reducible refine (tinderref19_Load.calls k _ _ l0 t10013 _ ?side1 ?side2 A8.out).mono ?_); (case side1 => repeat (first | exact (Kd.C_below HR0.out HB.out) | (with_reducible refine Kd.C_alloc ?_ _) | (with_reducible refine Kd.C_drewN ?_ _) | (with_reducible refine Kd.C_drew ?_))); (case side2 => exact HC0.out); rintro e w26 ⟨v10014, rfl, ho0, hb⟩; refine ⟨_, rfl, ?_⟩; have n0_ := Aside0.mk (Kd.R_below (by (with_reducible repeat (first | apply Kd.R_alloc | apply Kd.R_drewN | apply Kd.R_drew)); exact HO10005.out) hb); have n1_ := Aside0.mk (Kd.R_below (by (with_reducible repeat (first | apply Kd.R_alloc | apply Kd.R_drewN | apply Kd.R_drew)); exact HO10009.out) hb); have n2_ := Aside0.mk (Kd.R_elder' (by (with_reducible repeat (first | apply Kd.R_alloc | apply Kd.R_drewN | apply Kd.R_drew)); exact HO10012.out) (Kd.R_base ho0) hb); have n3_ := Aside0.mk (Kd.R_lower (Kd.R_new' ho0 (Kd.R_lt (by (with_reducible repeat (first | apply Kd.R_alloc | apply Kd.R_drewN | apply Kd.R_drew)); exact HO10012.out))) (below_size (by repeat (first | (with_reducible first | exact HB.out | apply below_alloc | apply pw_below_drewN | apply below_drew1) | exact HB.out)))); have n4_ := Aside0.mk (below_step (by repeat (first | (with_reducible first | exact HB.out | apply below_alloc | apply pw_below_drewN | apply below_drew1) | exact HB.out)) hb); clear HO10005; clear HO10009; clear HO10012; clear HB; have HO10005 := n0_; have HO10009 := n1_; have HO10012 := n2_; have HO10015 := n3_; have HB := n4_; clear n0_ n1_ n2_ n3_ n4_; (try clear hb); (try clear hb2); (try clear hk); (try clear hi); (try clear ho0); obtain ⟨Ao27, co27, eo27⟩ := Kd.R_slice HO10012.out; subst eo27; obtain ⟨Ao28, co28, eo28⟩ := Kd.R_slice HO10015.out; subst eo28) | ((with_reducible refine gate_callee (f := 15) rfl ?_); refine goesL_ (some 27) rfl rfl Tryd.func15 (by kernel_rfl) rfl #[.slice Ao27 t10010.length co27, .slice Ao28 t10013.length co28] rfl (by (try simp only [List.map_toArray, List.map_cons, List.map_nil]); first | done | rfl | (simp only [List.length_drop, List.length_take]; rfl)) ?_; (with_reducible refine (tinderref19_Same.calls k _ _ t10010 _ _ t10013 true _ ?side1 ?side2 ?side3 ?side4 A9.out).mono ?_); (case side1 => repeat (first | exact (Kd.R_reads' HO10012.out).2.2 | (with_reducible refine Kd.C_alloc ?_ _) | (with_reducible refine Kd.C_drewN ?_ _) | (with_reducible refine Kd.C_drew ?_))); (case side2 => exact (Kd.R_reads' HO10012.out).2.1); (case side3 => repeat (first | exact (Kd.R_reads' HO10015.out).2.2 | (with_reducible refine Kd.C_alloc ?_ _) | (with_reducible refine Kd.C_drewN ?_ _) | (with_reducible refine Kd.C_drew ?_))); (case side4 => exact (Kd.R_reads' HO10015.out).2.1); rintro e w' ⟨rfl, ⟨nd, rfl⟩⟩; refine ⟨_, rfl, ?_⟩; obtain ⟨Ao29, co29, eo29⟩ := Kd.R_slice HO10005.out; subst eo29; obtain ⟨Ao30, co30, eo30⟩ := Kd.R_slice HO10009.out; subst eo30) | (go_at_call 35; (with_reducible refine (tinderref18_SameBytes.calls k _ _ t10002 _ _ t10006 false _ ?side1 ?side2 ?side3 ?side4 A11.out).mono ?_); (case side1 => repeat (first | exact (Kd.R_reads' HO10005.out).2.2 | (with_reducible refine Kd.C_alloc ?_ _) | (with_reducible refine Kd.C_drewN ?_ _) | (with_reducible refine Kd.C_drew ?_))); (case side2 => exact (Kd.R_reads' HO10005.out).2.1); (case side3 => repeat (first | exact (Kd.R_reads' HO10009.out).2.2 | (with_reducible refine Kd.C_alloc ?_ _) | (with_reducible refine Kd.C_drewN ?_ _) | (with_reducible refine Kd.C_drew ?_))); (case side4 => exact (Kd.R_reads' HO10009.out).2.1); rintro e w' ⟨rfl, ⟨nd, rfl⟩⟩))
        go_ret
        exact ⟨by first | rfl | (simp [errW_none, errW_some] <;> rfl) | (simp [*, errW_none, errW_some] <;> rfl), by repeat (first | (with_reducible first | exact HB.out | apply below_alloc | apply pw_below_drewN | apply below_drew1) | exact HB.out)⟩
    · replace c10 := Bool.eq_false_iff.mpr c10
      subst c10
      have H1 : (some false) = some r := by rw [if_neg (show ¬ (false = true) by decide)] at H; exact H
      clear H
      have H := H1
      clear H1
      obtain rfl := Option.some.inj H
      go_enter Tryd.func9, Tryd.ntmps9
      go_wp2_with (first | ((with_reducible refine gate_callee (f := 11) rfl ?_); refine goesL_ (some 9) rfl rfl Tryd.func11 (by kernel_rfl) rfl #[] rfl (by (try simp only [List.map_toArray, List.map_cons, List.map_nil]); first | done | rfl | (simp only [List.length_drop, List.length_take]; rfl)) ?_; (with_reducible refine (tinderlaw19_alive.calls  true _ ht A3.out).mono ?_); rintro e w31 ⟨rfl, hb⟩; refine ⟨_, rfl, ?_⟩; have n0_ := Aside0.mk (below_step (by repeat (first | (with_reducible first | exact HB.out | apply below_alloc | apply pw_below_drewN | apply below_drew1) | exact HB.out)) hb); clear HB; have HB := n0_; clear n0_; (try clear hb); (try clear hb2); (try clear hk); (try clear hi)) | ((with_reducible refine gate_callee (f := 31) rfl ?_); refine goesL_ (some 14) rfl rfl Tryd.func31 (by kernel_rfl) rfl #[.slice A0 l0.length c0, .slice A1 l1.length c1] rfl (by (try simp only [List.map_toArray, List.map_cons, List.map_nil]); first | done | rfl | (simp only [List.length_drop, List.length_take]; rfl)) ?_; (with_reducible refine (vars_Save.calls k _ _ l0 _ _ l1 t10002 t10003 _ (Tabs.below ht (by repeat (first | (with_reducible first | exact HB.out | apply below_alloc | apply pw_below_drewN | apply below_drew1 | refine below_set ?_ (Aside0.out (by assumption))) | exact HB.out))) ?side1 ?side2 ?side3 ?side4 A5.out).mono ?_); (case side1 => repeat (first | exact (Kd.C_below HR0.out HB.out) | (with_reducible refine Kd.C_alloc ?_ _) | (with_reducible refine Kd.C_drewN ?_ _) | (with_reducible refine Kd.C_drew ?_))); (case side2 => exact HC0.out); (case side3 => repeat (first | exact (Kd.C_below HR1.out HB.out) | (with_reducible refine Kd.C_alloc ?_ _) | (with_reducible refine Kd.C_drewN ?_ _) | (with_reducible refine Kd.C_drew ?_))); (case side4 => exact HC1.out); rintro e w32 ⟨v10004, rfl, ho0, hb⟩; refine ⟨_, rfl, ?_⟩; have n0_ := Aside0.mk (Kd.R_lower ho0 (below_size (by repeat (first | (with_reducible first | exact HB.out | apply below_alloc | apply pw_below_drewN | apply below_drew1) | exact HB.out)))); have n1_ := Aside0.mk (below_step (by repeat (first | (with_reducible first | exact HB.out | apply below_alloc | apply pw_below_drewN | apply below_drew1) | exact HB.out)) hb); clear HB; have HO10005 := n0_; have HB := n1_; clear n0_ n1_; (try clear hb); (try clear hb2); (try clear hk); (try clear hi); (try clear ho0)) | ((with_reducible refine gate_callee (f := 32) rfl ?_); refine goesL_ (some 20) rfl rfl Tryd.func32 (by kernel_rfl) rfl #[.slice A0 l0.length c0, .slice A1 l1.length c1] rfl (by (try simp only [List.map_toArray, List.map_cons, List.map_nil]); first | done | rfl | (simp only [List.length_drop, List.length_take]; rfl)) ?_; (with_reducible refine (tinderref19_Save.calls k _ _ l0 _ _ l1 t10006 t10007 _ ?side1 ?side2 ?side3 ?side4 A6.out).mono ?_); (case side1 => repeat (first | exact (Kd.C_below HR0.out HB.out) | (with_reducible refine Kd.C_alloc ?_ _) | (with_reducible refine Kd.C_drewN ?_ _) | (with_reducible refine Kd.C_drew ?_))); (case side2 => exact HC0.out); (case side3 => repeat (first | exact (Kd.C_below HR1.out HB.out) | (with_reducible refine Kd.C_alloc ?_ _) | (with_reducible refine Kd.C_drewN ?_ _) | (with_reducible refine Kd.C_drew ?_))); (case side4 => exact HC1.out); rintro e w33 ⟨v10008, rfl, ho0, hb⟩; refine ⟨_, rfl, ?_⟩; have n0_ := Aside0.mk (Kd.R_elder' (by (with_reducible repeat (first | apply Kd.R_alloc | apply Kd.R_drewN | apply Kd.R_drew)); exact HO10005.out) (Kd.R_base ho0) hb); have n1_ := Aside0.mk (Kd.R_lower (Kd.R_new' ho0 (Kd.R_lt (by (with_reducible repeat (first | apply Kd.R_alloc | apply Kd.R_drewN | apply Kd.R_drew)); exact HO10005.out))) (below_size (by repeat (first | (with_reducible first | exact HB.out | apply below_alloc | apply pw_below_drewN | apply below_drew1) | exact HB.out)))); have n2_ := Aside0.mk (below_step (by repeat (first | (with_reducible first | exact HB.out | apply below_alloc | apply pw_below_drewN | apply below_drew1) | exact HB.out)) hb); clear HO10005; clear HB; have HO10005 := n0_; have HO10009 := n1_; have HB := n2_; clear n0_ n1_ n2_; (try clear hb); (try clear hb2); (try clear hk); (try clear hi); (try clear ho0)) | ((with_reducible refine gate_callee (f := 33) rfl ?_); refine goesL_ (some 24) rfl rfl Tryd.func33 (by kernel_rfl) rfl #[.slice A0 l0.length c0] rfl (by (try simp only [List.map_toArray, List.map_cons, List.map_nil]); first | done | rfl | (simp only [List.length_drop, List.length_take]; rfl)) ?_; (with_reducible refine (vars_Load.calls k _ _ l0 t10010 _ (Tabs.below ht (by repeat (first | (with_reducible first | exact HB.out | apply below_alloc | apply pw_below_drewN | apply below_drew1 | refine below_set ?_ (Aside0.out (by assumption))) | exact HB.out))) ?side1 ?side2 A7.out).mono ?_); (case side1 => repeat (first | exact (Kd.C_below HR0.out HB.out) | (with_reducible refine Kd.C_alloc ?_ _) | (with_reducible refine Kd.C_drewN ?_ _) | (with_reducible refine Kd.C_drew ?_))); (case side2 => exact HC0.out); rintro e w34 ⟨v10011, rfl, ho0, hb⟩; refine ⟨_, rfl, ?_⟩; have n0_ := Aside0.mk (Kd.R_below (by (with_reducible repeat (first | apply Kd.R_alloc | apply Kd.R_drewN | apply Kd.R_drew)); exact HO10005.out) hb); have n1_ := Aside0.mk (Kd.R_below (by (with_reducible repeat (first | apply Kd.R_alloc | apply Kd.R_drewN | apply Kd.R_drew)); exact HO10009.out) hb); have n2_ := Aside0.mk (Kd.R_lower ho0 (below_size (by repeat (first | (with_reducible first | exact HB.out | apply below_alloc | apply pw_below_drewN | apply below_drew1) | exact HB.out)))); have n3_ := Aside0.mk (below_step (by repeat (first | (with_reducible first | exact HB.out | apply below_alloc | apply pw_below_drewN | apply below_drew1) | exact HB.out)) hb); clear HO10005; clear HO10009; clear HB; have HO10005 := n0_; have HO10009 := n1_; have HO10012 := n2_; have HB := n3_; clear n0_ n1_ n2_ n3_; (try clear hb); (try clear hb2); (try clear hk); (try clear hi); (try clear ho0)) | ((with_reducible refine gate_callee (f := 34) rfl ?_); refine goesL_ (some 26) rfl rfl Tryd.func34 (by kernel_rfl) rfl #[.slice A0 l0.length c0] rfl (by (try simp only [List.map_toArray, List.map_cons, List.map_nil]); first | done | rfl | (simp only [List.length_drop, List.length_take]; rfl)) ?_; (with_reducible refine (tinderref19_Load.calls k _ _ l0 t10013 _ ?side1 ?side2 A8.out).mono ?_); (case side1 => repeat (first | exact (Kd.C_below HR0.out HB.out) | (with_reducible refine Kd.C_alloc ?_ _) | (with_reducible refine Kd.C_drewN ?_ _) | (with_reducible refine Kd.C_drew ?_))); (case side2 => exact HC0.out); rintro e w35 ⟨v10014, rfl, ho0, hb⟩; refine ⟨_, rfl, ?_⟩; have n0_ := Aside0.mk (Kd.R_below (by (with_reducible repeat (first | apply Kd.R_alloc | apply Kd.R_drewN | apply Kd.R_drew)); exact HO10005.out) hb); have n1_ := Aside0.mk (Kd.R_below (by (with_reducible repeat (first | apply Kd.R_alloc | apply Kd.R_drewN | apply Kd.R_drew)); exact HO10009.out) hb); have n2_ := Aside0.mk (Kd.R_elder' (by (with_reducible repeat (first | apply Kd.R_alloc | apply Kd.R_drewN | apply Kd.R_drew)); exact HO10012.out) (Kd.R_base ho0) hb); have n3_ := Aside0.mk (Kd.R_lower (Kd.R_new' ho0 (Kd.R_lt (by (with_reducible repeat (first | apply Kd.R_alloc | apply Kd.R_drewN | apply Kd.R_drew)); exact HO10012.out))) (below_size (by repeat (first | (with_reducible first | exact HB.out | apply below_alloc | apply pw_below_drewN | apply below_drew1) | exact HB.out)))); have n4_ := Aside0.mk (below_step (by repeat (first | (with_reducible first | exact HB.out | apply below_alloc | apply pw_below_drewN | apply below_drew1) | exact HB.out)) hb); clear HO10005; clear HO10009; clear HO10012; clear HB; have HO10005 := n0_; have HO10009 := n1_; have HO10012 := n2_; have HO10015 := n3_; have HB := n4_; clear n0_ n1_ n2_ n3_ n4_; (try clear hb); (try clear hb2); (try clear hk); (try clear hi); (try clear ho0); obtain ⟨Ao36, co36, eo36⟩ := Kd.R_slice HO10012.out; subst eo36; obtain ⟨Ao37, co37, eo37⟩ := Kd.R_slice HO10015.out; subst eo37) | ((with_reducible refine gate_callee (f := 15) rfl ?_); refine goesL_ (some 27) rfl rfl Tryd.func15 (by kernel_rfl) rfl #[.slice Ao36 t10010.length co36, .slice Ao37 t10013.length co37] rfl (by (try simp only [List.map_toArray, List.map_cons, List.map_nil]); first | done | rfl | (simp only [List.length_drop, List.length_take]; rfl)) ?_; (with_reducible refine (tinderref19_Same.calls k _ _ t10010 _ _ t10013 false _ ?side1 ?side2 ?side3 ?side4 A9.out).mono ?_); (case side1 => repeat (first | exact (Kd.R_reads' HO10012.out).2.2 | (with_reducible refine Kd.C_alloc ?_ _) | (with_reducible refine Kd.C_drewN ?_ _) | (with_reducible refine Kd.C_drew ?_))); (case side2 => exact (Kd.R_reads' HO10012.out).2.1); (case side3 => repeat (first | exact (Kd.R_reads' HO10015.out).2.2 | (with_reducible refine Kd.C_alloc ?_ _) | (with_reducible refine Kd.C_drewN ?_ _) | (with_reducible refine Kd.C_drew ?_))); (case side4 => exact (Kd.R_reads' HO10015.out).2.1); rintro e w' ⟨rfl, ⟨nd, rfl⟩⟩; refine ⟨_, rfl, ?_⟩))
      go_ret
      exact ⟨by first | rfl | (simp [errW_none, errW_some] <;> rfl) | (simp [*, errW_none, errW_some] <;> rfl), by repeat (first | (with_reducible first | exact HB.out | apply below_alloc | apply pw_below_drewN | apply below_drew1) | exact HB.out)⟩
  · replace c4 := Bool.eq_false_iff.mpr c4
    subst c4
    have H1 : (some false) = some r := by rw [if_neg (show ¬ (false = true) by decide)] at H; exact H
    clear H
    have H := H1
    clear H1
    obtain rfl := Option.some.inj H
    go_enter Tryd.func9, Tryd.ntmps9
    go_wp2_with (first | ((with_reducible refine gate_callee (f := 11) rfl ?_); refine goesL_ (some 9) rfl rfl Tryd.func11 (by kernel_rfl) rfl #[] rfl (by (try simp only [List.map_toArray, List.map_cons, List.map_nil]); first | done | rfl | (simp only [List.length_drop, List.length_take]; rfl)) ?_; (with_reducible refine (tinderlaw19_alive.calls  false _ ht A3.out).mono ?_); rintro e w38 ⟨rfl, hb⟩; refine ⟨_, rfl, ?_⟩; have n0_ := Aside0.mk (below_step (by repeat (first | (with_reducible first | exact HB.out | apply below_alloc | apply pw_below_drewN | apply below_drew1) | exact HB.out)) hb); clear HB; have HB := n0_; clear n0_; (try clear hb); (try clear hb2); (try clear hk); (try clear hi)))
    go_ret
    exact ⟨by first | rfl | (simp [errW_none, errW_some] <;> rfl) | (simp [*, errW_none, errW_some] <;> rfl), by repeat (first | (with_reducible first | exact HB.out | apply below_alloc | apply pw_below_drewN | apply below_drew1) | exact HB.out)⟩

end Go.Proofs.YtefhngadeimklaaDoor.Q
end
section
set_option linter.unusedSimpArgs false
set_option linter.unusedVariables false
namespace Go.Proofs.YtefhngadeimklaaDoor.Q
open Go.RowKit Go.Proofs.YtefhngadeimklaaDoorW.PrintWords Go.Proofs.YtefhngadeimklaaDoorW.PrintLast
theorem refsave_eq (nv : List Int) (hB : Bytes nv) (l : List S40) (hf : Fits l) (hl : l.length < 1125899906842624) (k : Nat) (hk : l.length + 140737488351400 < k) : tinderref19_Save.f k nv l = some (saveF nv l) := by
  unfold tinderref19_Save.f saveF
  rw [refencode_eq l hf hl k hk, Option.bind_some, refplan_eq k (by omega) nv _ hB (encodeF_B l), Option.bind_some]
  split <;> rfl
theorem refrec_of (nv : List Int) (hB : Bytes nv) : tinderref18_Recover.f nv = some (recF nv) := by unfold tinderref18_Recover.f; rw [if_pos (bytesB_iff.2 hB), rec_eq nv hB]
theorem refload_eq (nv : List Int) (hB : Bytes nv) (k : Nat) (hk : 140737500000000 < k) : tinderref19_Load.f k nv = some (loadF nv) := by
  have hr := rec_B nv hB
  unfold tinderref19_Load.f loadF
  rw [refrec_of nv hB, Option.bind_some, refdecode_eq _ (by omega) k hk, Option.bind_some]
  by_cases h : (recF nv).2.2 = true
  · rw [if_pos h]
  · rw [if_neg h, rec_no nv h]
    rfl
theorem varsLoads_row {w : World} (ht : Tabs w) (A1 : Option Addr) (c1 : Nat) (nv : List Int) (hC1 : Kd.C (Kd.int .u8) w A1 nv.length nv) (hc1 : nv.length ≤ c1) (hg1 : nv.length * 1 ≤ 140737488351232 ∧ ∀ a ∈ nv, (Lit.int .u8 a).wf = true)
    (A : Option Addr) (c : Nat) (l : List S40) (hC : Kd.C k40 w A l.length l) (hc : l.length ≤ c) (hg : l.length * 32 ≤ 140737488351232 ∧ ∀ x ∈ l, x.f0.size ≤ 140737488351232 ∧ x.f1.size ≤ 140737488351232) :
    Calls Tryd.prog 9 #[.slice A1 nv.length c1, .slice A l.length c] w fun e w' => e = .returned (.bool true) ∧ Below w.heap.size w w' := by
  refine tinderlaw19_VarsLoads.calls (l.length + 140737600000000) A1 c1 nv A c l true w ht hC1 hc1 hC hc ?_
  have hf : Fits l := hg.2
  have hl : l.length < 1125899906842624 := by omega
  have hB : Bytes nv := wf_B hg1.2
  have hll := loadF_len nv hB
  have hsl := saveF_len nv l
  unfold tinderlaw19_VarsLoads.f
  rw [tinderlaw19_alive.f, Option.bind_some, if_pos rfl, save_eq nv hB l hf hl _ (by omega), Option.bind_some, refsave_eq nv hB l hf hl _ (by omega), Option.bind_some, load_eq nv hB _ (by omega), Option.bind_some, refload_eq nv hB _ (by omega), Option.bind_some, same19 _ (by omega) _ (by omega), Option.bind_some, if_pos rfl, samebytes_eq _ (by omega) _ (by omega), Option.bind_some, if_pos rfl]
  simp
end Go.Proofs.YtefhngadeimklaaDoor.Q
end
section
namespace Go.Proofs.YtefhngadeimklaaDoor.Q
open Go.RowKit Go.Proofs.YtefhngadeimklaaDoorW.PrintWords Go.Proofs.YtefhngadeimklaaDoorW.PrintLast Go.Proofs.YtefhngadeimklaaDoorW.PrintMore
def Opens {α : Type} (P : Program) (t : TypeId) (d : Kd α) (G : α → Prop) : Prop :=
  ∀ (H : Type) (enc : TypeId × Value → H) (W : World) (fuel : Nat) (cs : List Value) (x : DataW H × List MemPlace), DataW.trod enc P W 0 (fun _ => true) true fuel t cs = some x → (∀ n ∈ x.1.weights P t, n ≤ reachBytes) → ∃ a, d.K W a cs ∧ G a
section
variable {P : Program} {t e : TypeId}
theorem opens_int {k : IntKind} (ht : P.underlying t = some (.int k)) : Opens P t (Kd.int k) (fun n => (Lit.int k n).wf = true) := by
  intro H enc W fuel cs x h _
  obtain ⟨n, rfl, _, hw⟩ := DataW.trod_int ht h
  exact ⟨n, rfl, hw⟩
theorem opens_string (ht : P.underlying t = some .string) : Opens P t Kd.string (fun s => s.size ≤ 140737488351232) := by
  intro H enc W fuel cs x h hw
  obtain ⟨s, rfl, rfl, _⟩ := DataW.trod_string ht h
  have := hw s.data.toList.length (by simp [DataW.weights])
  exact ⟨s, rfl, by simpa [reachBytes] using this⟩
theorem weights_all {H : Type} {P : Program} {e : TypeId} : ∀ {l : List (DataW H)} {d : DataW H}, d ∈ l → ∀ n ∈ d.weights P e, n ∈ DataW.weightsAll P e l
  | d0 :: l, d, hd, n, hn => by
    simp only [DataW.weightsAll, List.mem_append]
    rcases List.mem_cons.1 hd with rfl | hd
    · exact .inl hn
    · exact .inr (weights_all hd n hn)
theorem cells_get {W : World} {base : Nat} {a : Addr} {n : Nat} {c : List Value} (h : W.cells? base a n = some c) : c.length = n ∧ ∀ i u, c[i]? = some u → W.cell? (a.add i) = some u := by
  unfold World.cells? at h
  split at h
  · have hl := mapM_some_length h
    refine ⟨by simpa using hl, fun i u hu => ?_⟩
    have hi : i < n := by
      have := (List.getElem?_eq_some_iff.1 hu).1
      simp at hl
      omega
    have := mapM_some_get h i i (by simp [hi])
    rw [this, hu]
  · cases h
theorem opens_slice {α : Type} {d : Kd α} {G : α → Prop} (ht : P.underlying t = some (.slice e)) (hc : P.cellsOf e = d.sz) (b : Nat) (hb : P.bytesOf e = b) (he : Opens P e d G) :
    Opens P t (Kd.slice e d) (fun xs => xs.length * b ≤ 140737488351232 ∧ ∀ a ∈ xs, G a) := by
  intro H enc W fuel cs x h hw
  rcases DataW.trod_slice ht h with ⟨rfl, _⟩ | ⟨a, len, cap, elems, rest, n, _, rfl, rfl, _, hl, hm, hlen, hel, _⟩
  · exact ⟨[], ⟨none, 0, rfl, Nat.le_refl _, Kd.C_nil d W⟩, by simp, fun a h => by cases h⟩
  · have hwt : (elems.length + rest.length) * b ≤ 140737488351232 := by
      have := hw ((elems.length + rest.length) * P.bytesOf e) (by simp [DataW.weights, ht])
      rw [hb] at this
      simpa [reachBytes] using this
    have hall : ∀ i : Fin len, ∃ p : α, ∃ c, c.length = d.sz ∧ d.K W p c ∧ G p ∧ ∀ j u, c[j]? = some u → W.cell? (a.add (i.1 * d.sz + j)) = some u := by
      intro i
      have hi : i.1 < elems.length := by have := i.2; omega
      have h1 := hel i.1 i.2
      rw [List.getElem?_eq_getElem hi] at h1
      obtain ⟨c, hcs, htr⟩ := Option.bind_eq_some_iff.1 h1
      obtain ⟨hcl, hcg⟩ := cells_get hcs
      obtain ⟨p, hK, hG⟩ := he H enc W n c _ htr (fun m hm => hw m (by
        simp only [DataW.weights, ht, List.mem_cons, List.mem_append]
        exact .inr (.inl (weights_all (List.mem_map.2 ⟨_, List.getElem_mem hi, rfl⟩) m hm))))
      refine ⟨p, c, by rw [hcl, hc], hK, hG, fun j u hu => ?_⟩
      have := hcg j u hu
      rw [add_add, hc] at this
      exact this
    refine ⟨List.ofFn fun i => Classical.choose (hall i), ⟨some a, cap, by simp, by simpa using hl, by simp, by simp only [maxLen] at hm; simp; omega, fun _ => ⟨a, rfl, fun j p hj => ?_⟩⟩, ?_, ?_⟩
    · obtain ⟨hjl, hjp⟩ := List.getElem?_eq_some_iff.1 hj
      simp only [List.length_ofFn] at hjl
      have h2 := Classical.choose_spec (hall ⟨j, hjl⟩)
      rw [List.getElem_ofFn] at hjp
      rw [hjp] at h2
      obtain ⟨c, h3, h4, _, h6⟩ := h2
      exact ⟨c, h3, h4, h6⟩
    · rw [List.length_ofFn]
      refine Nat.le_trans (Nat.mul_le_mul_right b ?_) hwt
      omega
    · intro p hp
      obtain ⟨i, rfl⟩ := (List.mem_ofFn).1 hp
      obtain ⟨_, _, _, h5, _⟩ := Classical.choose_spec (hall i)
      exact h5
/-- The fields of a struct from one on, one behind the other. -/
def OpensFields {α : Type} (P : Program) (fs : List Field) (off : Nat) (d : Kd α) (G : α → Prop) : Prop :=
  ∀ (H : Type) (enc : TypeId × Value → H) (W : World) (fuel : Nat) (cs : List Value) (xs : List (DataW H × List MemPlace)), off + d.sz = cs.length → xs.length = fs.length →
    (∀ (i : Nat) (f : Field), fs[i]? = some f → DataW.trod enc P W 0 (fun _ => true) true fuel f.type ((cs.drop f.offset).take (P.cellsOf f.type)) = xs[i]?) →
    (∀ n ∈ DataW.weightsEach P (fs.map (·.type)) (xs.map (·.1)), n ≤ reachBytes) → ∃ a, d.K W a (cs.drop off) ∧ G a
theorem opens_one {α : Type} {d : Kd α} {G : α → Prop} {f : Field} {off : Nat} (ho : f.offset = off) (hc : P.cellsOf f.type = d.sz) (he : Opens P f.type d G) : OpensFields P [f] off d G := by
  intro H enc W fuel cs xs hl hx hf hw
  match xs, hx with
  | [x], _ =>
    have h0 := hf 0 f rfl
    rw [ho, hc, List.take_of_length_le (by rw [List.length_drop]; omega)] at h0
    exact he H enc W fuel _ x h0 (fun n hn => hw n (by simpa [DataW.weightsEach] using hn))
theorem opens_more {α β : Type} {d : Kd α} {d2 : Kd β} {G : α → Prop} {G2 : β → Prop} {f : Field} {fs : List Field} {off : Nat} (ho : f.offset = off) (hc : P.cellsOf f.type = d.sz) (he : Opens P f.type d G) (hs : OpensFields P fs (off + d.sz) d2 G2) :
    OpensFields P (f :: fs) off (Kd.pair d d2) (fun p => G p.1 ∧ G2 p.2) := by
  intro H enc W fuel cs xs hl hx hf hw
  have hl' : off + (d.sz + d2.sz) = cs.length := hl
  match xs, hx with
  | x :: xs, hx =>
    have h0 := hf 0 f rfl
    rw [ho, hc] at h0
    obtain ⟨a, h1, h2⟩ := he H enc W fuel _ x h0 (fun n hn => hw n (by simp only [List.map_cons, DataW.weightsEach, List.mem_append]; exact .inl hn))
    obtain ⟨b, h3, h4⟩ := hs H enc W fuel cs xs (by omega) (by simpa using hx) (fun i g hg => by simpa using hf (i + 1) g (by simpa using hg)) (fun n hn => hw n (by simp only [List.map_cons, DataW.weightsEach, List.mem_append]; exact .inr hn))
    refine ⟨(a, b), ⟨_, _, ?_, h1, h3⟩, h2, h4⟩
    rw [← List.drop_drop, List.take_append_drop]
theorem opens_struct {α : Type} {d : Kd α} {G : α → Prop} {fs : Array Field} (ht : P.underlying t = some (.struct fs)) (hc : P.cellsOf t = d.sz) (hf : OpensFields P fs.toList 0 d G) : Opens P t d G := by
  intro H enc W fuel cs x h hw
  obtain ⟨xs, n, _, rfl, hl, hlen, hg⟩ := DataW.trod_struct ht h
  have := hf H enc W n cs xs (by omega) (by simpa using hlen) (fun i f hi => hg i f (by simpa using hi)) (fun m hm => hw m (by simpa [DataW.weights, ht] using hm))
  simpa using this
theorem opens_iso {α β : Type} {d : Kd α} {G : α → Prop} (f : β → α) (g : α → β) (hfg : ∀ a, f (g a) = a) (h : Opens P t d G) : Opens P t (Kd.iso d f) (fun b => G (f b)) := by
  intro H enc W fuel cs x hx hw
  obtain ⟨a, h1, h2⟩ := h H enc W fuel cs x hx hw
  exact ⟨g a, by show d.K W (f (g a)) cs; rw [hfg]; exact h1, by show G (f (g a)); rw [hfg]; exact h2⟩
theorem weights_each {H : Type} {P : Program} {ts : List TypeId} {ds : List (DataW H)} (h : (DataW.weightsEach P ts ds).all (· ≤ reachBytes) = true) {j : Nat} {t : TypeId} {d : DataW H} (ht : ts[j]? = some t) (hd : ds[j]? = some d) : ∀ n ∈ d.weights P t, n ≤ reachBytes := fun n hn => by
  simpa using List.all_eq_true.1 h _ (DataW.weights_mem_each ht hd n hn)
end
end Go.Proofs.YtefhngadeimklaaDoor.Q
end
