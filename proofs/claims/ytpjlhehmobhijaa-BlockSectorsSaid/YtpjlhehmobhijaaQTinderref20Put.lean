/- What Go functions of this program answer, as plain Lean functions, and that the calls answer so, wherever the plain function has an answer. Written by a program of this claim's own out of the translation. -/
import Derived.Test.YtpjlhehmobhijaaQ0
import Derived.Test.YtpjlhehmobhijaaQTinderref04Copy
import Derived.Test.YtpjlhehmobhijaaQTinderref20Formed
import Derived.Test.YtpjlhehmobhijaaQTinderref20In
namespace Go.Proofs.Ytpjlhehmobhijaa.Q
open Go.RowKit Go.Proofs.YtpjlhehmobhijaaW.PrintWords Go.Proofs.YtpjlhehmobhijaaW.PrintLast Go.Proofs.YtpjlhehmobhijaaW.PrintMore
set_option linter.unusedVariables false
set_option linter.unusedSimpArgs false

attribute [local go_sem] max2_int min2_int max_two min_two max_three min_three max_four min_four
/-! ### tinderref20_Put: function 22 -/
def tinderref20_Put.f (l0 : List Int) (a1 : Int) (l2 : List Int) : Option (List Int × Int) := (tinderref20_Formed.f l0).bind fun t23001 => (if t23001 = true then ((tinderref20_In.f l0 a1 (l2.length : Int)).bind fun t23002 => (if t23002 = true then (if 0 ≤ a1 then (if a1 ≤ (l0.length : Int) then ((tinderref04_Copy.f (l0.take (a1 : Int).toNat)).bind fun t23004 => (if t23004.length + l2.length < 140737488355328 then ((some (t23004 ++ l2 : List Int)).bind fun y23007 => (if 0 ≤ (wrap64 (a1 + (l2.length : Int))) then (if (wrap64 (a1 + (l2.length : Int))) ≤ (l0.length : Int) then (if y23007.length + (l0.drop ((wrap64 (a1 + (l2.length : Int))) : Int).toNat).length < 140737488355328 then (some ((y23007 ++ (l0.drop ((wrap64 (a1 + (l2.length : Int))) : Int).toNat)), 0)) else (none)) else (none)) else (none))) else (none))) else (none)) else (none)) else (some (([] : List Int), 23)))) else (some (([] : List Int), 1)))
set_option maxHeartbeats 8000000 in
set_option maxRecDepth 100000 in
theorem tinderref20_Put.calls (A0 : Option Addr) (c0 : Nat) (l0 : List Int) (a1 : Int) (A2 : Option Addr) (c2 : Nat) (l2 : List Int) (r1 : List Int) (r2 : Int) (w : World) (hr0 : Kd.C (Kd.int .u8) w A0 l0.length l0) (hc0 : l0.length ≤ c0) (hr2 : Kd.C (Kd.int .u8) w A2 l2.length l2) (hc2 : l2.length ≤ c2) (h : tinderref20_Put.f l0 a1 l2 = some (r1, r2)) :
    Calls Try.prog 22 #[.slice A0 l0.length c0, .int .i64 a1, .slice A2 l2.length c2] w fun e w' => ∃ v0_ : Value, e = .returned (.tuple #[v0_, .int .i64 r2]) ∧ Kd.R (Kd.int .u8) 5 w' w.heap.size (fun _ => True) v0_ r1 ∧ Below w.heap.size w w' := by
  have HR0 := Aside0.mk hr0
  have HC0 := Aside0.mk hc0
  clear hr0 hc0
  have HR2 := Aside0.mk hr2
  have HC2 := Aside0.mk hc2
  clear hr2 hc2
  have HB := Aside0.mk (Below.refl w.heap.size w)
  have H : ((tinderref20_Formed.f l0).bind fun t23001 => (if t23001 = true then ((tinderref20_In.f l0 a1 (l2.length : Int)).bind fun t23002 => (if t23002 = true then (if 0 ≤ a1 then (if a1 ≤ (l0.length : Int) then ((tinderref04_Copy.f (l0.take (a1 : Int).toNat)).bind fun t23004 => (if t23004.length + l2.length < 140737488355328 then ((some (t23004 ++ l2 : List Int)).bind fun y23007 => (if 0 ≤ (wrap64 (a1 + (l2.length : Int))) then (if (wrap64 (a1 + (l2.length : Int))) ≤ (l0.length : Int) then (if y23007.length + (l0.drop ((wrap64 (a1 + (l2.length : Int))) : Int).toNat).length < 140737488355328 then (some ((y23007 ++ (l0.drop ((wrap64 (a1 + (l2.length : Int))) : Int).toNat)), 0)) else (none)) else (none)) else (none))) else (none))) else (none)) else (none)) else (some (([] : List Int), 23)))) else (some (([] : List Int), 1)))) = some (r1, r2) := h
  clear h
  replace H := Option.bind_eq_some_iff.mp H
  obtain ⟨t23001, A40, H⟩ := H
  replace H : (if t23001 = true then ((tinderref20_In.f l0 a1 (l2.length : Int)).bind fun t23002 => (if t23002 = true then (if 0 ≤ a1 then (if a1 ≤ (l0.length : Int) then ((tinderref04_Copy.f (l0.take (a1 : Int).toNat)).bind fun t23004 => (if t23004.length + l2.length < 140737488355328 then ((some (t23004 ++ l2 : List Int)).bind fun y23007 => (if 0 ≤ (wrap64 (a1 + (l2.length : Int))) then (if (wrap64 (a1 + (l2.length : Int))) ≤ (l0.length : Int) then (if y23007.length + (l0.drop ((wrap64 (a1 + (l2.length : Int))) : Int).toNat).length < 140737488355328 then (some ((y23007 ++ (l0.drop ((wrap64 (a1 + (l2.length : Int))) : Int).toNat)), 0)) else (none)) else (none)) else (none))) else (none))) else (none)) else (none)) else (some (([] : List Int), 23)))) else (some (([] : List Int), 1))) = some (r1, r2) := H
  have A4 := Aside0.mk A40
  clear A40
  by_cases c5 : t23001 = true
  · subst c5
    have H1 : ((tinderref20_In.f l0 a1 (l2.length : Int)).bind fun t23002 => (if t23002 = true then (if 0 ≤ a1 then (if a1 ≤ (l0.length : Int) then ((tinderref04_Copy.f (l0.take (a1 : Int).toNat)).bind fun t23004 => (if t23004.length + l2.length < 140737488355328 then ((some (t23004 ++ l2 : List Int)).bind fun y23007 => (if 0 ≤ (wrap64 (a1 + (l2.length : Int))) then (if (wrap64 (a1 + (l2.length : Int))) ≤ (l0.length : Int) then (if y23007.length + (l0.drop ((wrap64 (a1 + (l2.length : Int))) : Int).toNat).length < 140737488355328 then (some ((y23007 ++ (l0.drop ((wrap64 (a1 + (l2.length : Int))) : Int).toNat)), 0)) else (none)) else (none)) else (none))) else (none))) else (none)) else (none)) else (some (([] : List Int), 23)))) = some (r1, r2) := by rw [if_pos rfl] at H; exact H
    clear H
    have H := H1
    clear H1
    replace H := Option.bind_eq_some_iff.mp H
    obtain ⟨t23002, A60, H⟩ := H
    replace H : (if t23002 = true then (if 0 ≤ a1 then (if a1 ≤ (l0.length : Int) then ((tinderref04_Copy.f (l0.take (a1 : Int).toNat)).bind fun t23004 => (if t23004.length + l2.length < 140737488355328 then ((some (t23004 ++ l2 : List Int)).bind fun y23007 => (if 0 ≤ (wrap64 (a1 + (l2.length : Int))) then (if (wrap64 (a1 + (l2.length : Int))) ≤ (l0.length : Int) then (if y23007.length + (l0.drop ((wrap64 (a1 + (l2.length : Int))) : Int).toNat).length < 140737488355328 then (some ((y23007 ++ (l0.drop ((wrap64 (a1 + (l2.length : Int))) : Int).toNat)), 0)) else (none)) else (none)) else (none))) else (none))) else (none)) else (none)) else (some (([] : List Int), 23))) = some (r1, r2) := H
    have A6 := Aside0.mk A60
    clear A60
    by_cases c7 : t23002 = true
    · subst c7
      have H1 : (if 0 ≤ a1 then (if a1 ≤ (l0.length : Int) then ((tinderref04_Copy.f (l0.take (a1 : Int).toNat)).bind fun t23004 => (if t23004.length + l2.length < 140737488355328 then ((some (t23004 ++ l2 : List Int)).bind fun y23007 => (if 0 ≤ (wrap64 (a1 + (l2.length : Int))) then (if (wrap64 (a1 + (l2.length : Int))) ≤ (l0.length : Int) then (if y23007.length + (l0.drop ((wrap64 (a1 + (l2.length : Int))) : Int).toNat).length < 140737488355328 then (some ((y23007 ++ (l0.drop ((wrap64 (a1 + (l2.length : Int))) : Int).toNat)), 0)) else (none)) else (none)) else (none))) else (none))) else (none)) else (none)) = some (r1, r2) := by rw [if_pos rfl] at H; exact H
      clear H
      have H := H1
      clear H1
      by_cases c8 : 0 ≤ a1
      · rw [if_pos c8] at H
        have c8b0 := eq_true c8
        have c8b1 : decide (0 ≤ a1) = true := decide_eq_true c8
        clear c8
        by_cases c9 : a1 ≤ (l0.length : Int)
        · rw [if_pos c9] at H
          have c9b0 := eq_true c9
          have c9b1 : decide (a1 ≤ (l0.length : Int)) = true := decide_eq_true c9
          clear c9
          replace H := Option.bind_eq_some_iff.mp H
          obtain ⟨t23004, A100, H⟩ := H
          replace H : (if t23004.length + l2.length < 140737488355328 then ((some (t23004 ++ l2 : List Int)).bind fun y23007 => (if 0 ≤ (wrap64 (a1 + (l2.length : Int))) then (if (wrap64 (a1 + (l2.length : Int))) ≤ (l0.length : Int) then (if y23007.length + (l0.drop ((wrap64 (a1 + (l2.length : Int))) : Int).toNat).length < 140737488355328 then (some ((y23007 ++ (l0.drop ((wrap64 (a1 + (l2.length : Int))) : Int).toNat)), 0)) else (none)) else (none)) else (none))) else (none)) = some (r1, r2) := H
          have A10 := Aside0.mk A100
          clear A100
          by_cases c11 : t23004.length + l2.length < 140737488355328
          · rw [if_pos c11] at H
            have LMc11 := Aside0.mk c11
            clear c11
            obtain ⟨y23007, hy23007⟩ : ∃ y_ : List Int, y_ = (t23004 ++ l2) := ⟨_, rfl⟩
            replace H : (if 0 ≤ (wrap64 (a1 + (l2.length : Int))) then (if (wrap64 (a1 + (l2.length : Int))) ≤ (l0.length : Int) then (if y23007.length + (l0.drop ((wrap64 (a1 + (l2.length : Int))) : Int).toNat).length < 140737488355328 then (some ((y23007 ++ (l0.drop ((wrap64 (a1 + (l2.length : Int))) : Int).toNat)), 0)) else (none)) else (none)) else (none)) = some (r1, r2) := by first | (rw [hy23007]; with_reducible exact H) | (have H2_ := (Option.bind_some _ _).symm.trans H; rw [hy23007]; with_reducible exact H2_) | (have H2_ := (Option.bind_some _ _).symm.trans H; with_reducible exact H2_) | with_reducible exact H | (rw [hy23007]; exact H) | exact H
            have Ny23007 := Aside0.mk hy23007
            clear hy23007
            obtain ⟨ji12, hji12⟩ : ∃ j_ : Int, (wrap64 (a1 + (l2.length : Int))) = j_ := ⟨_, rfl⟩
            replace H : (if 0 ≤ (ji12) then (if (ji12) ≤ (l0.length : Int) then (if y23007.length + (l0.drop ((ji12) : Int).toNat).length < 140737488355328 then (some ((y23007 ++ (l0.drop ((ji12) : Int).toNat)), 0)) else (none)) else (none)) else (none)) = some (r1, r2) := by first | (rw [hji12] at H; exact H) | (simp only [hji12] at H ⊢; exact H)
            (try rw [hji12] at A4)
            (try rw [hji12] at A6)
            (try rw [hji12] at A10)
            have hji12w : (IntKind.i64.wrap (a1 + (l2.length : Int))) = ji12 := (i64_w _).trans hji12
            by_cases c13 : 0 ≤ (ji12)
            · rw [if_pos c13] at H
              have c13b0 := eq_true c13
              have c13b1 : decide (0 ≤ (ji12)) = true := decide_eq_true c13
              clear c13
              by_cases c14 : (ji12) ≤ (l0.length : Int)
              · rw [if_pos c14] at H
                have c14b0 := eq_true c14
                have c14b1 : decide ((ji12) ≤ (l0.length : Int)) = true := decide_eq_true c14
                clear c14
                by_cases c15 : y23007.length + (l0.drop ((ji12) : Int).toNat).length < 140737488355328
                · rw [if_pos c15] at H
                  have LMc15 := Aside0.mk c15
                  clear c15
                  obtain ⟨y23011, hy23011⟩ : ∃ y_ : List Int, y_ = (y23007 ++ (l0.drop ((ji12) : Int).toNat)) := ⟨_, rfl⟩
                  replace H : (some (y23011, 0)) = some (r1, r2) := by first | (rw [hy23011]; with_reducible exact H) | (have H2_ := (Option.bind_some _ _).symm.trans H; rw [hy23011]; with_reducible exact H2_) | (have H2_ := (Option.bind_some _ _).symm.trans H; with_reducible exact H2_) | with_reducible exact H | (rw [hy23011]; exact H) | exact H
                  have Ny23011 := Aside0.mk hy23011
                  clear hy23011
                  simp only [Option.some.injEq, Prod.mk.injEq] at H
                  obtain ⟨rfl, rfl⟩ := H
                  go_enter Try.func22, Try.ntmps22
                  go_wp2_with (first | ((with_reducible refine gate_callee (f := 18) rfl ?_); refine goesL_ (some 10) rfl rfl Try.func18 (by kernel_rfl) rfl #[.slice A0 l0.length c0] rfl (by (try simp only [List.map_toArray, List.map_cons, List.map_nil]); first | done | rfl | (simp only [List.length_drop, List.length_take]; rfl)) ?_; (with_reducible refine (tinderref20_Formed.calls _ _ l0 true _ ?side1 ?side2 A4.out).mono ?_); (case side1 => repeat (first | exact HR0.out | (with_reducible refine Kd.C_alloc ?_ _) | (with_reducible refine Kd.C_drewN ?_ _) | (with_reducible refine Kd.C_drew ?_))); (case side2 => exact HC0.out); rintro e w' ⟨rfl, ⟨nd, rfl⟩⟩; refine ⟨_, rfl, ?_⟩) | ((with_reducible refine gate_callee (f := 23) rfl ?_); refine goesL_ (some 16) rfl rfl Try.func23 (by kernel_rfl) rfl #[.slice A0 l0.length c0, .int .i64 a1, .int .i64 (l2.length : Int)] rfl (by (try simp only [List.map_toArray, List.map_cons, List.map_nil]); first | done | rfl | (simp only [List.length_drop, List.length_take]; rfl)) ?_; (with_reducible refine (tinderref20_In.calls _ _ l0 a1 (l2.length : Int) true _ ?side1 ?side2 A6.out).mono ?_); (case side1 => repeat (first | exact HR0.out | (with_reducible refine Kd.C_alloc ?_ _) | (with_reducible refine Kd.C_drewN ?_ _) | (with_reducible refine Kd.C_drew ?_))); (case side2 => exact HC0.out); rintro e w' ⟨rfl, ⟨nd, rfl⟩⟩; refine ⟨_, rfl, ?_⟩; obtain ⟨i016, hi016, _, hsz16, _⟩ := info_parts info5; obtain ⟨hcut16, hA16, hC16⟩ := print_take_of (P := Try.prog) (Value.int .u8) 0 30 5 .i64 Try.underlying30 hi016 hsz16 A0 c0 l0 a1 (of_decide_eq_true (by first | (with_reducible assumption) | assumption)) (of_decide_eq_true (by first | (with_reducible assumption) | assumption)) HC0.out; have HR23003 := Aside0.mk (Kd.C_of_reads (h1 := fun _ => rfl) (hA16 _ (Kd.reads_of_C HR0.out))); have HC23003 := Aside0.mk hC16; clear hA16 hC16 hi016 hsz16) | ((with_reducible refine gate_callee (f := 11) rfl ?_); refine goesL_ (some 21) rfl rfl Try.func11 (by kernel_rfl) rfl #[.slice A0 (l0.take (a1 : Int).toNat).length c0] rfl (by (try simp only [List.map_toArray, List.map_cons, List.map_nil]); first | done | (rw [show (l0.take (a1 : Int).toNat).length = a1.toNat from (by rw [List.length_take]; have h_ : (a1 : Int) ≤ (l0.length : Int) := of_decide_eq_true (by first | (with_reducible assumption) | assumption); omega)] <;> rfl) | rfl | (simp only [List.length_drop, List.length_take]; rfl)) ?_; (with_reducible refine (tinderref04_Copy.calls _ _ (l0.take (a1 : Int).toNat) t23004 _ ?side1 ?side2 A10.out).mono ?_); (case side1 => repeat (first | exact HR23003.out | (with_reducible refine Kd.C_alloc ?_ _) | (with_reducible refine Kd.C_drewN ?_ _) | (with_reducible refine Kd.C_drew ?_))); (case side2 => exact HC23003.out); rintro e w17 ⟨v23005, rfl, ho0, hb⟩; refine ⟨_, rfl, ?_⟩; have n0_ := Aside0.mk (Kd.R_lower ho0 (below_size (by repeat (first | (with_reducible first | exact HB.out | apply below_alloc | apply pw_below_drewN | apply below_drew1) | exact HB.out)))); have n1_ := Aside0.mk (below_step (by repeat (first | (with_reducible first | exact HB.out | apply below_alloc | apply pw_below_drewN | apply below_drew1) | exact HB.out)) hb); clear HB; have HO23006 := n0_; have HB := n1_; clear n0_ n1_; (try clear hb); (try clear hb2); (try clear hk); (try clear hi); (try clear ho0)) | ((with_reducible refine gate_builtin (b := .append) (xs := #[.tmp 22, .tmp 23]) rfl ?_); at_builtin; refine Kd.R_append_rows (Kd.int .u8) (w0 := w) w.heap.size rfl (.tmp 22) (.tmp 23) 30 5 (.int .u8 0) 1 rfl Try.underlying30 info5 rfl (by decide) (by omega) v23005 t23004 l2 _ _ _ (fun _ => True) (fun _ => False) rfl rfl ?aO ?aR (fun _ _ h => h) (fun _ h => h.elim) ?aF ?aB ?aS ?aL ?_; (case aR => repeat (first | exact (Kd.C_below HR2.out HB.out) | (with_reducible refine Kd.C_alloc ?_ _) | (with_reducible refine Kd.C_drewN ?_ _) | (with_reducible refine Kd.C_drew ?_))); (case aB => exact (by repeat (first | (with_reducible first | exact HB.out | apply below_alloc | apply pw_below_drewN | apply below_drew1) | exact HB.out))); (case aF => exact (fun _ _ => trivial)); (case aO => exact (by (with_reducible repeat (first | apply Kd.R_alloc | apply Kd.R_drewN | apply Kd.R_drew)); exact HO23006.out)); (case aS => exact (below_size (by repeat (first | (with_reducible first | exact HB.out | apply below_alloc | apply pw_below_drewN | apply below_drew1) | exact HB.out)))); (case aL => have := LMc11.out; omega); intro v23008 w18 ho hb hg hat; rw [← Ny23007.out] at ho; have n0_ := Aside0.mk (hb); have n1_ := Aside0.mk (ho); clear HB; clear HO23006; have HB := n0_; have HO23009 := n1_; clear n0_ n1_; clear ho hb hg hat; obtain ⟨i019, hi019, _, hsz19, _⟩ := info_parts info5; obtain ⟨A19, hcut19, hA19, hC19⟩ := print_drop_of (P := Try.prog) (Value.int .u8) 0 30 5 .i64 Try.underlying30 hi019 hsz19 A0 c0 l0 (ji12) (of_decide_eq_true (by first | (with_reducible assumption) | assumption)) (of_decide_eq_true (by first | (with_reducible assumption) | assumption)) HC0.out; have HR23010 := Aside0.mk (Kd.C_of_reads (h1 := fun _ => rfl) (hA19 _ (Kd.reads_of_C HR0.out))); have HC23010 := Aside0.mk hC19; clear hA19 hC19 hi019 hsz19) | ((with_reducible refine gate_builtin (b := .append) (xs := #[.tmp 25, .tmp 31]) rfl ?_); at_builtin; refine Kd.R_append_rows (Kd.int .u8) (w0 := w) w.heap.size rfl (.tmp 25) (.tmp 31) 30 5 (.int .u8 0) 1 rfl Try.underlying30 info5 rfl (by decide) (by omega) v23008 y23007 (l0.drop ((ji12) : Int).toNat) _ _ _ (fun _ => True) (fun _ => False) rfl rfl ?aO ?aR (fun _ _ h => h) (fun _ h => h.elim) ?aF ?aB ?aS ?aL ?_; (case aR => first | (rw [← show (l0.drop ((ji12) : Int).toNat).length = (l0.length - (ji12).toNat) from List.length_drop]; repeat (first | exact (Kd.C_below HR23010.out HB.out) | (with_reducible refine Kd.C_alloc ?_ _) | (with_reducible refine Kd.C_drewN ?_ _) | (with_reducible refine Kd.C_drew ?_))) | (repeat (first | exact (Kd.C_below HR23010.out HB.out) | (with_reducible refine Kd.C_alloc ?_ _) | (with_reducible refine Kd.C_drewN ?_ _) | (with_reducible refine Kd.C_drew ?_)))); (case aB => exact (by repeat (first | (with_reducible first | exact HB.out | apply below_alloc | apply pw_below_drewN | apply below_drew1) | exact HB.out))); (case aF => exact (fun _ _ => trivial)); (case aO => exact (by (with_reducible repeat (first | apply Kd.R_alloc | apply Kd.R_drewN | apply Kd.R_drew)); exact HO23009.out)); (case aS => exact (below_size (by repeat (first | (with_reducible first | exact HB.out | apply below_alloc | apply pw_below_drewN | apply below_drew1) | exact HB.out)))); (case aL => have := LMc15.out; have hlx_ := (show (l0.drop ((ji12) : Int).toNat).length = (l0.length - (ji12).toNat) from List.length_drop); omega); intro v23012 w20 ho hb hg hat; rw [← Ny23011.out] at ho; have n0_ := Aside0.mk (hb); have n1_ := Aside0.mk (ho); clear HB; clear HO23009; have HB := n0_; have HO23013 := n1_; clear n0_ n1_; clear ho hb hg hat))
                  go_ret2
                  exact ⟨_, by first | rfl | (simp [errW_none, errW_some] <;> rfl) | (simp only [← hji12]; first | rfl | (simp [errW_none, errW_some] <;> rfl)) | (simp [*, errW_none, errW_some] <;> rfl), by (with_reducible repeat (first | apply Kd.R_alloc | apply Kd.R_drewN | apply Kd.R_drew)); exact HO23013.out, by repeat (first | (with_reducible first | exact HB.out | apply below_alloc | apply pw_below_drewN | apply below_drew1) | exact HB.out)⟩
                · rw [if_neg c15] at H
                  exact absurd H (by simp)
              · rw [if_neg c14] at H
                exact absurd H (by simp)
            · rw [if_neg c13] at H
              exact absurd H (by simp)
          · rw [if_neg c11] at H
            exact absurd H (by simp)
        · rw [if_neg c9] at H
          exact absurd H (by simp)
      · rw [if_neg c8] at H
        exact absurd H (by simp)
    · replace c7 := Bool.eq_false_iff.mpr c7
      subst c7
      have H1 : (some (([] : List Int), 23)) = some (r1, r2) := by rw [if_neg (show ¬ (false = true) by decide)] at H; exact H
      clear H
      have H := H1
      clear H1
      simp only [Option.some.injEq, Prod.mk.injEq] at H
      obtain ⟨rfl, rfl⟩ := H
      go_enter Try.func22, Try.ntmps22
      go_wp2_with (first | ((with_reducible refine gate_callee (f := 18) rfl ?_); refine goesL_ (some 10) rfl rfl Try.func18 (by kernel_rfl) rfl #[.slice A0 l0.length c0] rfl (by (try simp only [List.map_toArray, List.map_cons, List.map_nil]); first | done | rfl | (simp only [List.length_drop, List.length_take]; rfl)) ?_; (with_reducible refine (tinderref20_Formed.calls _ _ l0 true _ ?side1 ?side2 A4.out).mono ?_); (case side1 => repeat (first | exact HR0.out | (with_reducible refine Kd.C_alloc ?_ _) | (with_reducible refine Kd.C_drewN ?_ _) | (with_reducible refine Kd.C_drew ?_))); (case side2 => exact HC0.out); rintro e w' ⟨rfl, ⟨nd, rfl⟩⟩; refine ⟨_, rfl, ?_⟩) | ((with_reducible refine gate_callee (f := 23) rfl ?_); refine goesL_ (some 16) rfl rfl Try.func23 (by kernel_rfl) rfl #[.slice A0 l0.length c0, .int .i64 a1, .int .i64 (l2.length : Int)] rfl (by (try simp only [List.map_toArray, List.map_cons, List.map_nil]); first | done | rfl | (simp only [List.length_drop, List.length_take]; rfl)) ?_; (with_reducible refine (tinderref20_In.calls _ _ l0 a1 (l2.length : Int) false _ ?side1 ?side2 A6.out).mono ?_); (case side1 => repeat (first | exact HR0.out | (with_reducible refine Kd.C_alloc ?_ _) | (with_reducible refine Kd.C_drewN ?_ _) | (with_reducible refine Kd.C_drew ?_))); (case side2 => exact HC0.out); rintro e w' ⟨rfl, ⟨nd, rfl⟩⟩; refine ⟨_, rfl, ?_⟩))
      go_ret2
      exact ⟨_, by first | rfl | (simp [errW_none, errW_some] <;> rfl) | (simp [*, errW_none, errW_some] <;> rfl), by first | exact Kd.R_nil _ _ _ _ _ | exact Kd.N_nil _ _ _ _ _ | exact Kd.V_nil _ _ _ _ _ | exact Kd.Q_nil _ _ _ _ _ | exact Kd.S_nil _ _ _ _ _, by repeat (first | (with_reducible first | exact HB.out | apply below_alloc | apply pw_below_drewN | apply below_drew1) | exact HB.out)⟩
  · replace c5 := Bool.eq_false_iff.mpr c5
    subst c5
    have H1 : (some (([] : List Int), 1)) = some (r1, r2) := by rw [if_neg (show ¬ (false = true) by decide)] at H; exact H
    clear H
    have H := H1
    clear H1
    simp only [Option.some.injEq, Prod.mk.injEq] at H
    obtain ⟨rfl, rfl⟩ := H
    go_enter Try.func22, Try.ntmps22
    go_wp2_with (first | ((with_reducible refine gate_callee (f := 18) rfl ?_); refine goesL_ (some 10) rfl rfl Try.func18 (by kernel_rfl) rfl #[.slice A0 l0.length c0] rfl (by (try simp only [List.map_toArray, List.map_cons, List.map_nil]); first | done | rfl | (simp only [List.length_drop, List.length_take]; rfl)) ?_; (with_reducible refine (tinderref20_Formed.calls _ _ l0 false _ ?side1 ?side2 A4.out).mono ?_); (case side1 => repeat (first | exact HR0.out | (with_reducible refine Kd.C_alloc ?_ _) | (with_reducible refine Kd.C_drewN ?_ _) | (with_reducible refine Kd.C_drew ?_))); (case side2 => exact HC0.out); rintro e w' ⟨rfl, ⟨nd, rfl⟩⟩; refine ⟨_, rfl, ?_⟩))
    go_ret2
    exact ⟨_, by first | rfl | (simp [errW_none, errW_some] <;> rfl) | (simp [*, errW_none, errW_some] <;> rfl), by first | exact Kd.R_nil _ _ _ _ _ | exact Kd.N_nil _ _ _ _ _ | exact Kd.V_nil _ _ _ _ _ | exact Kd.Q_nil _ _ _ _ _ | exact Kd.S_nil _ _ _ _ _, by repeat (first | (with_reducible first | exact HB.out | apply below_alloc | apply pw_below_drewN | apply below_drew1) | exact HB.out)⟩

end Go.Proofs.Ytpjlhehmobhijaa.Q
