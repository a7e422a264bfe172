/- Contracts of Go functions and plain facts, of several texts, one behind the other; no condition. -/
import Derived.Test.YtnbomjfpnpmllaaMApart1
import Derived.Deep.MidRow
import Derived.Laws.Cover3
import Derived.RangeFuncNested
import Derived.RangeFuncBound
import Derived.RangeFuncCalls
import Derived.RangeFuncLeaves
import Derived.Shelf.Abstract
import Derived.WalkKit
import Derived.OwnWalkIn
import Derived.TacticsInMore
import Derived.LoopNIn
import Derived.LoopIn
import Derived.Maps.AppendAt
import Derived.Sort.QuietIn
import Derived.OrdersIn
import Derived.RangeFuncWrites
import Derived.RangeFuncBox
section
namespace Go.Proofs.Ytnbomjfpnpmllaa.Q
open Go.RowKit Go.Proofs.YtnbomjfpnpmllaaW.PrintWords Go.Proofs.YtnbomjfpnpmllaaW.PrintLast Go.Proofs.YtnbomjfpnpmllaaW.PrintMore
set_option linter.unusedVariables false
set_option linter.unusedSimpArgs false

attribute [local go_sem] max2_int min2_int max_two min_two max_three min_three max_four min_four
/-! ### tinderref20_Put: function 39 -/
def tinderref20_Put.f (l0 : List Int) (a1 : Int) (l2 : List Int) : Option (List Int × Int) := (tinderref20_Formed.f l0).bind fun t40001 => (if t40001 = true then ((tinderref20_In.f l0 a1 (l2.length : Int)).bind fun t40002 => (if t40002 = true then (if 0 ≤ a1 then (if a1 ≤ (l0.length : Int) then ((tinderref04_Copy.f (l0.take (a1 : Int).toNat)).bind fun t40004 => (if t40004.length + l2.length < 140737488355328 then ((some (t40004 ++ l2 : List Int)).bind fun y40007 => (if 0 ≤ (wrap64 (a1 + (l2.length : Int))) then (if (wrap64 (a1 + (l2.length : Int))) ≤ (l0.length : Int) then (if y40007.length + (l0.drop ((wrap64 (a1 + (l2.length : Int))) : Int).toNat).length < 140737488355328 then (some ((y40007 ++ (l0.drop ((wrap64 (a1 + (l2.length : Int))) : Int).toNat)), 0)) else (none)) else (none)) else (none))) else (none))) else (none)) else (none)) else (some (([] : List Int), 23)))) else (some (([] : List Int), 1)))
set_option maxHeartbeats 8000000 in
set_option maxRecDepth 100000 in
theorem tinderref20_Put.calls (A0 : Option Addr) (c0 : Nat) (l0 : List Int) (a1 : Int) (A2 : Option Addr) (c2 : Nat) (l2 : List Int) (r1 : List Int) (r2 : Int) (w : World) (hr0 : Kd.C (Kd.int .u8) w A0 l0.length l0) (hc0 : l0.length ≤ c0) (hr2 : Kd.C (Kd.int .u8) w A2 l2.length l2) (hc2 : l2.length ≤ c2) (h : tinderref20_Put.f l0 a1 l2 = some (r1, r2)) :
    Calls Try.prog 39 #[.slice A0 l0.length c0, .int .i64 a1, .slice A2 l2.length c2] w fun e w' => ∃ v0_ : Value, e = .returned (.tuple #[v0_, .int .i64 r2]) ∧ Kd.R (Kd.int .u8) 5 w' w.heap.size (fun _ => True) v0_ r1 ∧ Below w.heap.size w w' := by
  have HR0 := Aside0.mk hr0
  have HC0 := Aside0.mk hc0
  clear hr0 hc0
  have HR2 := Aside0.mk hr2
  have HC2 := Aside0.mk hc2
  clear hr2 hc2
  have HB := Aside0.mk (Below.refl w.heap.size w)
  have H : ((tinderref20_Formed.f l0).bind fun t40001 => (if t40001 = true then ((tinderref20_In.f l0 a1 (l2.length : Int)).bind fun t40002 => (if t40002 = true then (if 0 ≤ a1 then (if a1 ≤ (l0.length : Int) then ((tinderref04_Copy.f (l0.take (a1 : Int).toNat)).bind fun t40004 => (if t40004.length + l2.length < 140737488355328 then ((some (t40004 ++ l2 : List Int)).bind fun y40007 => (if 0 ≤ (wrap64 (a1 + (l2.length : Int))) then (if (wrap64 (a1 + (l2.length : Int))) ≤ (l0.length : Int) then (if y40007.length + (l0.drop ((wrap64 (a1 + (l2.length : Int))) : Int).toNat).length < 140737488355328 then (some ((y40007 ++ (l0.drop ((wrap64 (a1 + (l2.length : Int))) : Int).toNat)), 0)) else (none)) else (none)) else (none))) else (none))) else (none)) else (none)) else (some (([] : List Int), 23)))) else (some (([] : List Int), 1)))) = some (r1, r2) := h
  clear h
  replace H := Option.bind_eq_some_iff.mp H
  obtain ⟨t40001, A40, H⟩ := H
  replace H : (if t40001 = true then ((tinderref20_In.f l0 a1 (l2.length : Int)).bind fun t40002 => (if t40002 = true then (if 0 ≤ a1 then (if a1 ≤ (l0.length : Int) then ((tinderref04_Copy.f (l0.take (a1 : Int).toNat)).bind fun t40004 => (if t40004.length + l2.length < 140737488355328 then ((some (t40004 ++ l2 : List Int)).bind fun y40007 => (if 0 ≤ (wrap64 (a1 + (l2.length : Int))) then (if (wrap64 (a1 + (l2.length : Int))) ≤ (l0.length : Int) then (if y40007.length + (l0.drop ((wrap64 (a1 + (l2.length : Int))) : Int).toNat).length < 140737488355328 then (some ((y40007 ++ (l0.drop ((wrap64 (a1 + (l2.length : Int))) : Int).toNat)), 0)) else (none)) else (none)) else (none))) else (none))) else (none)) else (none)) else (some (([] : List Int), 23)))) else (some (([] : List Int), 1))) = some (r1, r2) := H
  have A4 := Aside0.mk A40
  clear A40
  by_cases c5 : t40001 = true
  · subst c5
    have H1 : ((tinderref20_In.f l0 a1 (l2.length : Int)).bind fun t40002 => (if t40002 = true then (if 0 ≤ a1 then (if a1 ≤ (l0.length : Int) then ((tinderref04_Copy.f (l0.take (a1 : Int).toNat)).bind fun t40004 => (if t40004.length + l2.length < 140737488355328 then ((some (t40004 ++ l2 : List Int)).bind fun y40007 => (if 0 ≤ (wrap64 (a1 + (l2.length : Int))) then (if (wrap64 (a1 + (l2.length : Int))) ≤ (l0.length : Int) then (if y40007.length + (l0.drop ((wrap64 (a1 + (l2.length : Int))) : Int).toNat).length < 140737488355328 then (some ((y40007 ++ (l0.drop ((wrap64 (a1 + (l2.length : Int))) : Int).toNat)), 0)) else (none)) else (none)) else (none))) else (none))) else (none)) else (none)) else (some (([] : List Int), 23)))) = some (r1, r2) := by rw [if_pos rfl] at H; exact H
    clear H
    have H := H1
    clear H1
    replace H := Option.bind_eq_some_iff.mp H
    obtain ⟨t40002, A60, H⟩ := H
    replace H : (if t40002 = true then (if 0 ≤ a1 then (if a1 ≤ (l0.length : Int) then ((tinderref04_Copy.f (l0.take (a1 : Int).toNat)).bind fun t40004 => (if t40004.length + l2.length < 140737488355328 then ((some (t40004 ++ l2 : List Int)).bind fun y40007 => (if 0 ≤ (wrap64 (a1 + (l2.length : Int))) then (if (wrap64 (a1 + (l2.length : Int))) ≤ (l0.length : Int) then (if y40007.length + (l0.drop ((wrap64 (a1 + (l2.length : Int))) : Int).toNat).length < 140737488355328 then (some ((y40007 ++ (l0.drop ((wrap64 (a1 + (l2.length : Int))) : Int).toNat)), 0)) else (none)) else (none)) else (none))) else (none))) else (none)) else (none)) else (some (([] : List Int), 23))) = some (r1, r2) := H
    have A6 := Aside0.mk A60
    clear A60
    by_cases c7 : t40002 = true
    · subst c7
      have H1 : (if 0 ≤ a1 then (if a1 ≤ (l0.length : Int) then ((tinderref04_Copy.f (l0.take (a1 : Int).toNat)).bind fun t40004 => (if t40004.length + l2.length < 140737488355328 then ((some (t40004 ++ l2 : List Int)).bind fun y40007 => (if 0 ≤ (wrap64 (a1 + (l2.length : Int))) then (if (wrap64 (a1 + (l2.length : Int))) ≤ (l0.length : Int) then (if y40007.length + (l0.drop ((wrap64 (a1 + (l2.length : Int))) : Int).toNat).length < 140737488355328 then (some ((y40007 ++ (l0.drop ((wrap64 (a1 + (l2.length : Int))) : Int).toNat)), 0)) else (none)) else (none)) else (none))) else (none))) else (none)) else (none)) = some (r1, r2) := by rw [if_pos rfl] at H; exact H
      clear H
      have H := H1
      clear H1
      by_cases c8 : 0 ≤ a1
      · rw [if_pos c8] at H
        have c8b0 := eq_true c8
        have c8b1 : decide (0 ≤ a1) = true := decide_eq_true c8
        clear c8
        by_cases c9 : a1 ≤ (l0.length : Int)
        · rw [if_pos c9] at H
          have c9b0 := eq_true c9
          have c9b1 : decide (a1 ≤ (l0.length : Int)) = true := decide_eq_true c9
          clear c9
          replace H := Option.bind_eq_some_iff.mp H
          obtain ⟨t40004, A100, H⟩ := H
          replace H : (if t40004.length + l2.length < 140737488355328 then ((some (t40004 ++ l2 : List Int)).bind fun y40007 => (if 0 ≤ (wrap64 (a1 + (l2.length : Int))) then (if (wrap64 (a1 + (l2.length : Int))) ≤ (l0.length : Int) then (if y40007.length + (l0.drop ((wrap64 (a1 + (l2.length : Int))) : Int).toNat).length < 140737488355328 then (some ((y40007 ++ (l0.drop ((wrap64 (a1 + (l2.length : Int))) : Int).toNat)), 0)) else (none)) else (none)) else (none))) else (none)) = some (r1, r2) := H
          have A10 := Aside0.mk A100
          clear A100
          by_cases c11 : t40004.length + l2.length < 140737488355328
          · rw [if_pos c11] at H
            have LMc11 := Aside0.mk c11
            clear c11
            obtain ⟨y40007, hy40007⟩ : ∃ y_ : List Int, y_ = (t40004 ++ l2) := ⟨_, rfl⟩
            replace H : (if 0 ≤ (wrap64 (a1 + (l2.length : Int))) then (if (wrap64 (a1 + (l2.length : Int))) ≤ (l0.length : Int) then (if y40007.length + (l0.drop ((wrap64 (a1 + (l2.length : Int))) : Int).toNat).length < 140737488355328 then (some ((y40007 ++ (l0.drop ((wrap64 (a1 + (l2.length : Int))) : Int).toNat)), 0)) else (none)) else (none)) else (none)) = some (r1, r2) := by first | (rw [hy40007]; with_reducible exact H) | (have H2_ := (Option.bind_some _ _).symm.trans H; rw [hy40007]; with_reducible exact H2_) | (have H2_ := (Option.bind_some _ _).symm.trans H; with_reducible exact H2_) | with_reducible exact H | (rw [hy40007]; exact H) | exact H
            have Ny40007 := Aside0.mk hy40007
            clear hy40007
            obtain ⟨ji12, hji12⟩ : ∃ j_ : Int, (wrap64 (a1 + (l2.length : Int))) = j_ := ⟨_, rfl⟩
            replace H : (if 0 ≤ (ji12) then (if (ji12) ≤ (l0.length : Int) then (if y40007.length + (l0.drop ((ji12) : Int).toNat).length < 140737488355328 then (some ((y40007 ++ (l0.drop ((ji12) : Int).toNat)), 0)) else (none)) else (none)) else (none)) = some (r1, r2) := by first | (rw [hji12] at H; exact H) | (simp only [hji12] at H ⊢; exact H)
            (try rw [hji12] at A4)
            (try rw [hji12] at A6)
            (try rw [hji12] at A10)
            have hji12w : (IntKind.i64.wrap (a1 + (l2.length : Int))) = ji12 := (i64_w _).trans hji12
            by_cases c13 : 0 ≤ (ji12)
            · rw [if_pos c13] at H
              have c13b0 := eq_true c13
              have c13b1 : decide (0 ≤ (ji12)) = true := decide_eq_true c13
              clear c13
              by_cases c14 : (ji12) ≤ (l0.length : Int)
              · rw [if_pos c14] at H
                have c14b0 := eq_true c14
                have c14b1 : decide ((ji12) ≤ (l0.length : Int)) = true := decide_eq_true c14
                clear c14
                by_cases c15 : y40007.length + (l0.drop ((ji12) : Int).toNat).length < 140737488355328
                · rw [if_pos c15] at H
                  have LMc15 := Aside0.mk c15
                  clear c15
                  obtain ⟨y40011, hy40011⟩ : ∃ y_ : List Int, y_ = (y40007 ++ (l0.drop ((ji12) : Int).toNat)) := ⟨_, rfl⟩
                  replace H : (some (y40011, 0)) = some (r1, r2) := by first | (rw [hy40011]; with_reducible exact H) | (have H2_ := (Option.bind_some _ _).symm.trans H; rw [hy40011]; with_reducible exact H2_) | (have H2_ := (Option.bind_some _ _).symm.trans H; with_reducible exact H2_) | with_reducible exact H | (rw [hy40011]; exact H) | exact H
                  have Ny40011 := Aside0.mk hy40011
                  clear hy40011
                  simp only [Option.some.injEq, Prod.mk.injEq] at H
                  obtain ⟨rfl, rfl⟩ := H
                  go_enter Try.func39, Try.ntmps39
                  go_wp2_with (first | ((with_reducible refine gate_callee (f := 33) rfl ?_); refine goesL_ (some 10) rfl rfl Try.func33 (by kernel_rfl) rfl #[.slice A0 l0.length c0] rfl (by (try simp only [List.map_toArray, List.map_cons, List.map_nil]); first | done | rfl | (simp only [List.length_drop, List.length_take]; rfl)) ?_; (with_reducible refine (tinderref20_Formed.calls _ _ l0 true _ ?side1 ?side2 A4.out).mono ?_); (case side1 => repeat (first | exact HR0.out | (with_reducible refine Kd.C_alloc ?_ _) | (with_reducible refine Kd.C_drewN ?_ _) | (with_reducible refine Kd.C_drew ?_))); (case side2 => exact HC0.out); rintro e w' ⟨rfl, ⟨nd, rfl⟩⟩; refine ⟨_, rfl, ?_⟩) | ((with_reducible refine gate_callee (f := 48) rfl ?_); refine goesL_ (some 16) rfl rfl Try.func48 (by kernel_rfl) rfl #[.slice A0 l0.length c0, .int .i64 a1, .int .i64 (l2.length : Int)] rfl (by (try simp only [List.map_toArray, List.map_cons, List.map_nil]); first | done | rfl | (simp only [List.length_drop, List.length_take]; rfl)) ?_; (with_reducible refine (tinderref20_In.calls _ _ l0 a1 (l2.length : Int) true _ ?side1 ?side2 A6.out).mono ?_); (case side1 => repeat (first | exact HR0.out | (with_reducible refine Kd.C_alloc ?_ _) | (with_reducible refine Kd.C_drewN ?_ _) | (with_reducible refine Kd.C_drew ?_))); (case side2 => exact HC0.out); rintro e w' ⟨rfl, ⟨nd, rfl⟩⟩; refine ⟨_, rfl, ?_⟩; obtain ⟨i016, hi016, _, hsz16, _⟩ := info_parts info5; obtain ⟨hcut16, hA16, hC16⟩ := print_take_of (P := Try.prog) (Value.int .u8) 0 27 5 .i64 Try.underlying27 hi016 hsz16 A0 c0 l0 a1 (of_decide_eq_true (by first | (with_reducible assumption) | assumption)) (of_decide_eq_true (by first | (with_reducible assumption) | assumption)) HC0.out; have HR40003 := Aside0.mk (Kd.C_of_reads (h1 := fun _ => rfl) (hA16 _ (Kd.reads_of_C HR0.out))); have HC40003 := Aside0.mk hC16; clear hA16 hC16 hi016 hsz16) | ((with_reducible refine gate_callee (f := 17) rfl ?_); refine goesL_ (some 21) rfl rfl Try.func17 (by kernel_rfl) rfl #[.slice A0 (l0.take (a1 : Int).toNat).length c0] rfl (by (try simp only [List.map_toArray, List.map_cons, List.map_nil]); first | done | (rw [show (l0.take (a1 : Int).toNat).length = a1.toNat from (by rw [List.length_take]; have h_ : (a1 : Int) ≤ (l0.length : Int) := of_decide_eq_true (by first | (with_reducible assumption) | assumption); omega)] <;> rfl) | rfl | (simp only [List.length_drop, List.length_take]; rfl)) ?_; (with_reducible refine (tinderref04_Copy.calls _ _ (l0.take (a1 : Int).toNat) t40004 _ ?side1 ?side2 A10.out).mono ?_); (case side1 => repeat (first | exact HR40003.out | (with_reducible refine Kd.C_alloc ?_ _) | (with_reducible refine Kd.C_drewN ?_ _) | (with_reducible refine Kd.C_drew ?_))); (case side2 => exact HC40003.out); rintro e w17 ⟨v40005, rfl, ho0, hb⟩; refine ⟨_, rfl, ?_⟩; have n0_ := Aside0.mk (Kd.R_lower ho0 (below_size (by repeat (first | (with_reducible first | exact HB.out | apply below_alloc | apply pw_below_drewN | apply below_drew1) | exact HB.out)))); have n1_ := Aside0.mk (below_step (by repeat (first | (with_reducible first | exact HB.out | apply below_alloc | apply pw_below_drewN | apply below_drew1) | exact HB.out)) hb); clear HB; have HO40006 := n0_; have HB := n1_; clear n0_ n1_; (try clear hb); (try clear hb2); (try clear hk); (try clear hi); (try clear ho0)) | ((with_reducible refine gate_builtin (b := .append) (xs := #[.tmp 22, .tmp 23]) rfl ?_); at_builtin; refine Kd.R_append_rows (Kd.int .u8) (w0 := w) w.heap.size rfl (.tmp 22) (.tmp 23) 27 5 (.int .u8 0) 1 rfl Try.underlying27 info5 rfl (by decide) (by omega) v40005 t40004 l2 _ _ _ (fun _ => True) (fun _ => False) rfl rfl ?aO ?aR (fun _ _ h => h) (fun _ h => h.elim) ?aF ?aB ?aS ?aL ?_; (case aR => repeat (first | exact (Kd.C_below HR2.out HB.out) | (with_reducible refine Kd.C_alloc ?_ _) | (with_reducible refine Kd.C_drewN ?_ _) | (with_reducible refine Kd.C_drew ?_))); (case aB => exact (by repeat (first | (with_reducible first | exact HB.out | apply below_alloc | apply pw_below_drewN | apply below_drew1) | exact HB.out))); (case aF => exact (fun _ _ => trivial)); (case aO => exact (by (with_reducible repeat (first | apply Kd.R_alloc | apply Kd.R_drewN | apply Kd.R_drew)); exact HO40006.out)); (case aS => exact (below_size (by repeat (first | (with_reducible first | exact HB.out | apply below_alloc | apply pw_below_drewN | apply below_drew1) | exact HB.out)))); (case aL => have := LMc11.out; omega); intro v40008 w18 ho hb hg hat; rw [← Ny40007.out] at ho; have n0_ := Aside0.mk (hb); have n1_ := Aside0.mk (ho); clear HB; clear HO40006; have HB := n0_; have HO40009 := n1_; clear n0_ n1_; clear ho hb hg hat; obtain ⟨i019, hi019, _, hsz19, _⟩ := info_parts info5; obtain ⟨A19, hcut19, hA19, hC19⟩ := print_drop_of (P := Try.prog) (Value.int .u8) 0 27 5 .i64 Try.underlying27 hi019 hsz19 A0 c0 l0 (ji12) (of_decide_eq_true (by first | (with_reducible assumption) | assumption)) (of_decide_eq_true (by first | (with_reducible assumption) | assumption)) HC0.out; have HR40010 := Aside0.mk (Kd.C_of_reads (h1 := fun _ => rfl) (hA19 _ (Kd.reads_of_C HR0.out))); have HC40010 := Aside0.mk hC19; clear hA19 hC19 hi019 hsz19) | ((with_reducible refine gate_builtin (b := .append) (xs := #[.tmp 25, .tmp 31]) rfl ?_); at_builtin; refine Kd.R_append_rows (Kd.int .u8) (w0 := w) w.heap.size rfl (.tmp 25) (.tmp 31) 27 5 (.int .u8 0) 1 rfl Try.underlying27 info5 rfl (by decide) (by omega) v40008 y40007 (l0.drop ((ji12) : Int).toNat) _ _ _ (fun _ => True) (fun _ => False) rfl rfl ?aO ?aR (fun _ _ h => h) (fun _ h => h.elim) ?aF ?aB ?aS ?aL ?_; (case aR => first | (rw [← show (l0.drop ((ji12) : Int).toNat).length = (l0.length - (ji12).toNat) from List.length_drop]; repeat (first | exact (Kd.C_below HR40010.out HB.out) | (with_reducible refine Kd.C_alloc ?_ _) | (with_reducible refine Kd.C_drewN ?_ _) | (with_reducible refine Kd.C_drew ?_))) | (repeat (first | exact (Kd.C_below HR40010.out HB.out) | (with_reducible refine Kd.C_alloc ?_ _) | (with_reducible refine Kd.C_drewN ?_ _) | (with_reducible refine Kd.C_drew ?_)))); (case aB => exact (by repeat (first | (with_reducible first | exact HB.out | apply below_alloc | apply pw_below_drewN | apply below_drew1) | exact HB.out))); (case aF => exact (fun _ _ => trivial)); (case aO => exact (by (with_reducible repeat (first | apply Kd.R_alloc | apply Kd.R_drewN | apply Kd.R_drew)); exact HO40009.out)); (case aS => exact (below_size (by repeat (first | (with_reducible first | exact HB.out | apply below_alloc | apply pw_below_drewN | apply below_drew1) | exact HB.out)))); (case aL => have := LMc15.out; have hlx_ := (show (l0.drop ((ji12) : Int).toNat).length = (l0.length - (ji12).toNat) from List.length_drop); omega); intro v40012 w20 ho hb hg hat; rw [← Ny40011.out] at ho; have n0_ := Aside0.mk (hb); have n1_ := Aside0.mk (ho); clear HB; clear HO40009; have HB := n0_; have HO40013 := n1_; clear n0_ n1_; clear ho hb hg hat))
                  go_ret2
                  exact ⟨_, by first | rfl | (simp [errW_none, errW_some] <;> rfl) | (simp only [← hji12]; first | rfl | (simp [errW_none, errW_some] <;> rfl)) | (simp [*, errW_none, errW_some] <;> rfl), by (with_reducible repeat (first | apply Kd.R_alloc | apply Kd.R_drewN | apply Kd.R_drew)); exact HO40013.out, by repeat (first | (with_reducible first | exact HB.out | apply below_alloc | apply pw_below_drewN | apply below_drew1) | exact HB.out)⟩
                · rw [if_neg c15] at H
                  exact absurd H (by simp)
              · rw [if_neg c14] at H
                exact absurd H (by simp)
            · rw [if_neg c13] at H
              exact absurd H (by simp)
          · rw [if_neg c11] at H
            exact absurd H (by simp)
        · rw [if_neg c9] at H
          exact absurd H (by simp)
      · rw [if_neg c8] at H
        exact absurd H (by simp)
    · replace c7 := Bool.eq_false_iff.mpr c7
      subst c7
      have H1 : (some (([] : List Int), 23)) = some (r1, r2) := by rw [if_neg (show ¬ (false = true) by decide)] at H; exact H
      clear H
      have H := H1
      clear H1
      simp only [Option.some.injEq, Prod.mk.injEq] at H
      obtain ⟨rfl, rfl⟩ := H
      go_enter Try.func39, Try.ntmps39
      go_wp2_with (first | ((with_reducible refine gate_callee (f := 33) rfl ?_); refine goesL_ (some 10) rfl rfl Try.func33 (by kernel_rfl) rfl #[.slice A0 l0.length c0] rfl (by (try simp only [List.map_toArray, List.map_cons, List.map_nil]); first | done | rfl | (simp only [List.length_drop, List.length_take]; rfl)) ?_; (with_reducible refine (tinderref20_Formed.calls _ _ l0 true _ ?side1 ?side2 A4.out).mono ?_); (case side1 => repeat (first | exact HR0.out | (with_reducible refine Kd.C_alloc ?_ _) | (with_reducible refine Kd.C_drewN ?_ _) | (with_reducible refine Kd.C_drew ?_))); (case side2 => exact HC0.out); rintro e w' ⟨rfl, ⟨nd, rfl⟩⟩; refine ⟨_, rfl, ?_⟩) | ((with_reducible refine gate_callee (f := 48) rfl ?_); refine goesL_ (some 16) rfl rfl Try.func48 (by kernel_rfl) rfl #[.slice A0 l0.length c0, .int .i64 a1, .int .i64 (l2.length : Int)] rfl (by (try simp only [List.map_toArray, List.map_cons, List.map_nil]); first | done | rfl | (simp only [List.length_drop, List.length_take]; rfl)) ?_; (with_reducible refine (tinderref20_In.calls _ _ l0 a1 (l2.length : Int) false _ ?side1 ?side2 A6.out).mono ?_); (case side1 => repeat (first | exact HR0.out | (with_reducible refine Kd.C_alloc ?_ _) | (with_reducible refine Kd.C_drewN ?_ _) | (with_reducible refine Kd.C_drew ?_))); (case side2 => exact HC0.out); rintro e w' ⟨rfl, ⟨nd, rfl⟩⟩; refine ⟨_, rfl, ?_⟩))
      go_ret2
      exact ⟨_, by first | rfl | (simp [errW_none, errW_some] <;> rfl) | (simp [*, errW_none, errW_some] <;> rfl), by first | exact Kd.R_nil _ _ _ _ _ | exact Kd.N_nil _ _ _ _ _ | exact Kd.V_nil _ _ _ _ _ | exact Kd.Q_nil _ _ _ _ _ | exact Kd.S_nil _ _ _ _ _, by repeat (first | (with_reducible first | exact HB.out | apply below_alloc | apply pw_below_drewN | apply below_drew1) | exact HB.out)⟩
  · replace c5 := Bool.eq_false_iff.mpr c5
    subst c5
    have H1 : (some (([] : List Int), 1)) = some (r1, r2) := by rw [if_neg (show ¬ (false = true) by decide)] at H; exact H
    clear H
    have H := H1
    clear H1
    simp only [Option.some.injEq, Prod.mk.injEq] at H
    obtain ⟨rfl, rfl⟩ := H
    go_enter Try.func39, Try.ntmps39
    go_wp2_with (first | ((with_reducible refine gate_callee (f := 33) rfl ?_); refine goesL_ (some 10) rfl rfl Try.func33 (by kernel_rfl) rfl #[.slice A0 l0.length c0] rfl (by (try simp only [List.map_toArray, List.map_cons, List.map_nil]); first | done | rfl | (simp only [List.length_drop, List.length_take]; rfl)) ?_; (with_reducible refine (tinderref20_Formed.calls _ _ l0 false _ ?side1 ?side2 A4.out).mono ?_); (case side1 => repeat (first | exact HR0.out | (with_reducible refine Kd.C_alloc ?_ _) | (with_reducible refine Kd.C_drewN ?_ _) | (with_reducible refine Kd.C_drew ?_))); (case side2 => exact HC0.out); rintro e w' ⟨rfl, ⟨nd, rfl⟩⟩; refine ⟨_, rfl, ?_⟩))
    go_ret2
    exact ⟨_, by first | rfl | (simp [errW_none, errW_some] <;> rfl) | (simp [*, errW_none, errW_some] <;> rfl), by first | exact Kd.R_nil _ _ _ _ _ | exact Kd.N_nil _ _ _ _ _ | exact Kd.V_nil _ _ _ _ _ | exact Kd.Q_nil _ _ _ _ _ | exact Kd.S_nil _ _ _ _ _, by repeat (first | (with_reducible first | exact HB.out | apply below_alloc | apply pw_below_drewN | apply below_drew1) | exact HB.out)⟩

end Go.Proofs.Ytnbomjfpnpmllaa.Q
end
section
namespace Go.Proofs.Ytnbomjfpnpmllaa.Q
open Go.RowKit Go.Proofs.YtnbomjfpnpmllaaW.PrintWords Go.Proofs.YtnbomjfpnpmllaaW.PrintLast Go.Proofs.YtnbomjfpnpmllaaW.PrintMore
set_option linter.unusedVariables false
set_option linter.unusedSimpArgs false

attribute [local go_sem] max2_int min2_int max_two min_two max_three min_three max_four min_four
/-! ### tinderref04_Same: function 12 -/
def tinderref04_Same.f (l0 : List Int) (l1 : List Int) : Option (Bool) := some ((strOfNums l0).toList == (strOfNums l1).toList)
set_option maxHeartbeats 8000000 in
set_option maxRecDepth 100000 in
theorem tinderref04_Same.calls (A0 : Option Addr) (c0 : Nat) (l0 : List Int) (A1 : Option Addr) (c1 : Nat) (l1 : List Int) (r : Bool) (w : World) (hr0 : Kd.C (Kd.int .u8) w A0 l0.length l0) (hc0 : l0.length ≤ c0) (hr1 : Kd.C (Kd.int .u8) w A1 l1.length l1) (hc1 : l1.length ≤ c1) (h : tinderref04_Same.f l0 l1 = some r) :
    Calls Try.prog 12 #[.slice A0 l0.length c0, .slice A1 l1.length c1] w fun e w' => e = .returned (.bool r) ∧ Drawn0 w w' := by
  have HR0 := Aside0.mk hr0
  have HC0 := Aside0.mk hc0
  clear hr0 hc0
  have HR1 := Aside0.mk hr1
  have HC1 := Aside0.mk hc1
  clear hr1 hc1
  have H : (some ((strOfNums l0).toList == (strOfNums l1).toList)) = some r := h
  clear h
  obtain rfl := Option.some.inj H
  have hcv3 := Kd.C_string (P := Try.prog) (A := A0) (c := c0) Try.underlying27 Try.underlying5 Try.underlying9 HR0.out
  have hcv4 := Kd.C_string (P := Try.prog) (A := A1) (c := c1) Try.underlying27 Try.underlying5 Try.underlying9 HR1.out
  go_enter Try.func12, Try.ntmps12
  go_wp2
  go_ret
  exact ⟨by first | rfl | (simp; done) | (simp [*]; done), by repeat (first | exact Drawn0.refl _ | apply Drawn0.step)⟩

end Go.Proofs.Ytnbomjfpnpmllaa.Q
end
section
namespace Go.Proofs.Ytnbomjfpnpmllaa.Q
open Go.RowKit Go.Proofs.YtnbomjfpnpmllaaW.PrintWords Go.Proofs.YtnbomjfpnpmllaaW.PrintLast Go.Proofs.YtnbomjfpnpmllaaW.PrintMore
theorem wrap_id {x : Int} (h1 : -9223372036854775808 ≤ x) (h2 : x ≤ 9223372036854775807) : wrap64 x = x := by unfold wrap64; omega
theorem ref04_Same_self (l : List Int) : tinderref04_Same.f l l = some true := by unfold tinderref04_Same.f; simp
theorem ref04_Copy_eq (l : List Int) (h : l.length ≤ 140737488351232) : tinderref04_Copy.f l = some l := by
  unfold tinderref04_Copy.f
  rw [if_pos (by simp; omega), List.nil_append]
theorem ref20_Formed_eq (l : List Int) : tinderref20_Formed.f l = some (diskB l) := by
  unfold tinderref20_Formed.f diskB
  split
  · rw [Option.some.injEq, decide_eq_decide]; omega
  · rw [Option.some.injEq, eq_comm, decide_eq_false_iff_not]; omega
theorem ref20_In_eq (l : List Int) (a n : Int) (hl : l.length ≤ 140737488351232) : tinderref20_In.f l a n = some (decide (0 ≤ a ∧ 0 ≤ n ∧ a ≤ l.length ∧ n ≤ l.length - a)) := by
  unfold tinderref20_In.f
  split
  · split
    · have e : wrap64 ((l.length : Int) - a) = (l.length : Int) - a := wrap_id (by omega) (by omega)
      rw [e]
      split
      · rw [Option.some.injEq, decide_eq_decide]; omega
      · rw [Option.some.injEq, eq_comm, decide_eq_false_iff_not]; omega
    · rw [Option.some.injEq, eq_comm, decide_eq_false_iff_not]; omega
  · rw [Option.some.injEq, eq_comm, decide_eq_false_iff_not]; omega
theorem ref20_Get_eq (l : List Int) (a n : Int) (hl : l.length ≤ 140737488351232) : tinderref20_Get.f l a n = some (if diskB l = true then (if 0 ≤ a ∧ 0 ≤ n ∧ a ≤ l.length ∧ n ≤ l.length - a then ((l.drop a.toNat).take n.toNat, 0) else ([], 23)) else ([], 1)) := by
  unfold tinderref20_Get.f
  rw [ref20_Formed_eq, Option.bind_some, ref20_In_eq l a n hl, Option.bind_some]
  by_cases hd : diskB l = true
  · rw [if_pos hd, if_pos hd]
    by_cases hn : 0 ≤ a ∧ 0 ≤ n ∧ a ≤ l.length ∧ n ≤ l.length - a
    · have e : wrap64 (a + n) = a + n := wrap_id (by omega) (by omega)
      rw [if_pos hn, if_pos (decide_eq_true hn), e, if_pos hn.1, if_pos (by omega), if_pos (by omega), ref04_Copy_eq _ (by simp; omega), Option.bind_some, List.drop_take]
      congr 3
      omega
    · rw [if_neg hn, if_neg (by simpa using hn)]
  · rw [if_neg hd, if_neg hd]
theorem ref20_Put_eq (l : List Int) (a : Int) (b : List Int) (hl : l.length ≤ 140737488351232) (hb : b.length ≤ 140737488351232) : tinderref20_Put.f l a b = block_Put.f l a b := by
  unfold tinderref20_Put.f block_Put.f
  rw [ref20_Formed_eq, Option.bind_some, ref20_In_eq l a _ hl, Option.bind_some, if_pos hl]
  by_cases hd : diskB l = true
  · have hln : l.length % 512 = 0 ∧ l.length ≤ 32768 := by simpa [diskB] using hd
    rw [if_pos hd, if_pos hd]
    by_cases hn : 0 ≤ a ∧ a ≤ l.length ∧ b.length ≤ l.length - a
    · have e : wrap64 (a + (b.length : Int)) = a + (b.length : Int) := wrap_id (by omega) (by omega)
      have hl1 : (l.take a.toNat).length = a.toNat := by rw [List.length_take]; omega
      rw [if_pos hn, if_pos (decide_eq_true ⟨hn.1, by omega, hn.2.1, hn.2.2⟩), if_pos hn.1, if_pos hn.2.1, ref04_Copy_eq _ (by omega), Option.bind_some, if_pos (by omega), Option.bind_some, e, if_pos (by omega), if_pos (by omega), if_pos (by rw [List.length_append, List.length_drop]; omega)]
      rw [splice, List.append_assoc]
      congr 5
      omega
    · rw [if_neg hn, if_neg (by simp; omega)]
  · rw [if_neg hd, if_neg hd]
end Go.Proofs.Ytnbomjfpnpmllaa.Q
end
section
namespace Go.Proofs.Ytnbomjfpnpmllaa.Q
open Go.RowKit Go.Proofs.YtnbomjfpnpmllaaW.PrintWords Go.Proofs.YtnbomjfpnpmllaaW.PrintLast Go.Proofs.YtnbomjfpnpmllaaW.PrintMore
def byteCells (L : List Int) : List Value := L.map (Value.int .u8)
theorem byteCells_len (L : List Int) : (byteCells L).length = L.length := List.length_map _
theorem byteCells_one (L : List Int) : ∀ v ∈ byteCells L, v.oneCell' = true := fun v hv => by
  obtain ⟨x, _, rfl⟩ := List.mem_map.1 hv
  rfl
theorem byteCells_get (L : List Int) (j : Nat) (v : Value) (h : (byteCells L)[j]? = some v) : ∃ x, L[j]? = some x ∧ v = .int .u8 x := by
  unfold byteCells at h
  rw [List.getElem?_map] at h
  obtain ⟨x, hx, rfl⟩ := Option.map_eq_some_iff.1 h
  exact ⟨x, hx, rfl⟩
theorem C_cells {w : World} {ad : Addr} {n : Nat} {L : List Int} (h : Kd.C (Kd.int .u8) w (some ad) n L) : ∀ j v, (byteCells L)[j]? = some v → w.cell? (ad.add j) = some v := fun j v hv => by
  obtain ⟨x, hx, rfl⟩ := byteCells_get L j v hv
  have hj : j < L.length := (List.getElem?_eq_some_iff.1 hx).1
  obtain ⟨ad', ea, hc⟩ := Kd.at_int h (j : Int) (by omega) (by have := Kd.C_len h; omega)
  cases ea
  rw [Int.toNat_natCast] at hc
  rw [hc]
  have : rd L (j : Int) = x := by simp [rd, List.getD_eq_getElem?_getD, hx]
  rw [this]
theorem C_of_range {w : World} {b o n : Nat} {L : List Int} (h : w.rangeAt b o (byteCells L)) (hl : L.length = n) (hn : n ≤ 9223372036854775807) : Kd.C (Kd.int .u8) w (some ⟨b, o, none⟩) n L := by
  refine ⟨hl, hn, fun hp => ⟨_, rfl, fun j p hj => ⟨[.int .u8 p], rfl, rfl, fun i u hu => ?_⟩⟩⟩
  have hi : i = 0 := by
    have := (List.getElem?_eq_some_iff.1 hu).1
    simp at this
    exact this
  subst hi
  simp at hu
  subst hu
  rw [Addr.add_mid]
  have := h j (.int .u8 p) (by unfold byteCells; rw [List.getElem?_map, hj]; rfl)
  show w.cell? ⟨b, o + (j * 1 + 0), none⟩ = _
  rw [Nat.mul_one, Nat.add_zero]
  exact this
theorem range_of_C {w : World} {b o n : Nat} {L : List Int} (h : Kd.C (Kd.int .u8) w (some ⟨b, o, none⟩) n L) : w.rangeAt b o (byteCells L) := fun j v hv => by
  have := C_cells h j v hv
  rwa [Addr.add_mid] at this
theorem range_append {w : World} {b o : Nat} {xs ys : List Value} (h1 : w.rangeAt b o xs) (h2 : w.rangeAt b (o + xs.length) ys) : w.rangeAt b o (xs ++ ys) := fun j v hv => by
  by_cases hj : j < xs.length
  · rw [List.getElem?_append_left hj] at hv
    exact h1 j v hv
  · rw [List.getElem?_append_right (by omega)] at hv
    have := h2 _ v hv
    rwa [show o + xs.length + (j - xs.length) = o + j by omega] at this
section
variable {P : Program}
theorem run_loadVar_any (w : World) (ad : Addr) (ty : TypeId) (cs : List Value) (d : TypeDesc) (hc : ∀ j v, cs[j]? = some v → w.cell? (ad.add j) = some v)
    (hu : P.underlying ty = some d) (hd : d.isRow = true) (hi : (P.info? ty).map (·.size) = some cs.length) :
    (loadVar ty ad).run P w = .ok (.agg cs.toArray) w := by
  have hl : (loadCells ad cs.length).run P w = .ok cs.toArray w := run_loadCells_list (P := P) w ad cs hc
  cases hq : P.info? ty with
  | none => simp [hq] at hi
  | some i =>
    have hs : i.size = cs.length := by simpa [hq] using hi
    have hagg : (isAgg ty).run P w = .ok true w := by
      unfold isAgg
      rw [Sem.run_bind, run_underlying hu w]
      cases d <;> simp_all
    simp [loadVar, Sem.run_bind, hagg, sizeOf, typeInfo, hq, hs, hl]
theorem wpList_load_any {ops : Array Oper} {rest : List Oper} {op : Oper} {a : Act} {w : World} {Q : Exit → Act → World → Prop} (hgd : op.guard = none) (ty : TypeId) (x : Operand) (ho : op.op = .load ty x)
    (ad : Addr) (hx : a.eval x = .pointer (some ad)) (cs : List Value) (d : TypeDesc) (hc : ∀ j v, cs[j]? = some v → w.cell? (ad.add j) = some v)
    (hu : P.underlying ty = some d) (hd : d.isRow = true) (hi : (P.info? ty).map (·.size) = some cs.length)
    (h : wpList P ops Q rest (a.put op.dst (.agg cs.toArray)) w) : wpList P ops Q (op :: rest) a w :=
  wpList_plain hgd fun K hK => by
    unfold Oper.wp execOp
    simp only [ho, hx, Instr.loadAt, Instr.sureAddr, Sem.run_bind, Sem.run_pure, Result.andThen_ok, run_loadVar_any w ad ty cs d hc hu hd hi]
    exact hK _ _ h
end
theorem below_setCells {w W : World} {g o : Nat} (h : Below w.heap.size w W) (hg : w.heap.size ≤ g) (vs : List Value) : Below w.heap.size w (W.setCells g o vs) := by
  obtain ⟨h1, h2, h3, h4⟩ := setCells_same g vs o W
  exact ⟨h1.trans h.os, h2.trans h.tape, h3.trans h.output, by rw [h4]; exact h.size, fun k hk => (setCells_far vs o k (by omega)).trans (h.block k hk)⟩
end Go.Proofs.Ytnbomjfpnpmllaa.Q
end
section
namespace Go.Proofs.Ytnbomjfpnpmllaa.Q
open Go.RowKit Go.Proofs.YtnbomjfpnpmllaaW.PrintWords Go.Proofs.YtnbomjfpnpmllaaW.PrintLast
def xorB (a b : Int) : Int := bits .xor .u8 a b
def crossAt (l : List Int) : Nat → Int × Int
  | 0 => (0, 0)
  | i + 1 => if i % 2 = 0 then (xorB (crossAt l i).1 (l.getD i 0), (crossAt l i).2) else ((crossAt l i).1, xorB (crossAt l i).2 (l.getD i 0))
def crossF (l : List Int) : Int × Int := crossAt l l.length
theorem cross_even (l : List Int) (i : Nat) (h : i % 2 = 0) : crossAt l (i + 1) = (xorB (crossAt l i).1 (l.getD i 0), (crossAt l i).2) := by rw [crossAt, if_pos h]
theorem cross_odd (l : List Int) (i : Nat) (h : ¬ i % 2 = 0) : crossAt l (i + 1) = ((crossAt l i).1, xorB (crossAt l i).2 (l.getD i 0)) := by rw [crossAt, if_neg h]
theorem size52 : (Try.prog.info? 52).map (·.size) = some 2 := by kernel_rfl
theorem results_one {P : Program} {fn : Func} {p : Tmp} {ty : TypeId} (h : fn.results = #[.cell p ty]) (tmps : Array Value) (w : World) (ad : Addr) (hp : tmps.getD p undef = .pointer (some ad)) (cs : List Value) (d : TypeDesc) (hc : ∀ j v, cs[j]? = some v → w.cell? (ad.add j) = some v)
    (hu : P.underlying ty = some d) (hd : d.isRow = true) (hi : (P.info? ty).map (·.size) = some cs.length) : (results fn tmps).run P w = .ok (.agg cs.toArray) w := by
  have e : (results fn tmps).run P w = ((asAddr (tmps.getD p undef)).run P w).andThen fun a w₁ => (loadVar ty a).run P w₁ := by
    simp only [results, h]
    simp
  rw [e, hp]
  simp [asAddr, run_loadVar_any w ad ty cs d hc hu hd hi]
set_option maxHeartbeats 4000000 in
set_option maxRecDepth 100000 in
theorem cross_calls (A : Option Addr) (c : Nat) (l : List Int) (w : World) (hC : Kd.C (Kd.int .u8) w A l.length l) (hl : l.length ≤ 140737488351232) :
    Calls Try.prog 25 #[.slice A l.length c] w fun e w' => e = .returned (.agg #[.int .u8 (crossF l).1, .int .u8 (crossF l).2]) ∧ Below w.heap.size w w' := by
  have HC := Aside0.mk hC
  have HL := Aside0.mk hl
  clear hC hl
  go_enter Try.func25, Try.ntmps25
  go_wp2_with (first
    | ((with_reducible refine gate_dst (N := 2) rfl ?_); refine box_event ?hg (N := 2) ?hd (cs := #[.int .u8 0, .int .u8 0]) (t := 52) ?hr ?_; (case hd => rfl); (case hg => rfl); (case hr => first | (go_simp; done) | (go_simp; rfl)); intro gb hg w1 hbox hb; have BK := Aside0.mk hbox; have HB := Aside0.mk hb; have GB := Aside0.mk (show w.heap.size ≤ gb from hg ▸ Nat.le_refl _); clear hbox hb hg))
  go_loopg [7] l.length (fun kq v7 w' => ∃ (i : Int) (x y : Int), v7 = .int .i64 i ∧ Aside0 (0 ≤ i ∧ i + kq = l.length) ∧ Aside0 (crossAt l i.toNat = (x, y)) ∧ Aside0 (w'.heap[gb]? = some (.cells #[.int .u8 x, .int .u8 y] 52 (0, 0))) ∧ Aside0 (Below w.heap.size w w'))
  case atStart => exact ⟨0, 0, 0, rfl, ⟨by omega, by omega⟩, ⟨rfl⟩, BK, HB⟩
  case round =>
    clear BK HB
    obtain ⟨i, x, y, rfl, HI, HX, BK, HB⟩ := hrel
    cases gk with
    | zero =>
      have hlt : decide (i < (l.length : Int)) = false := decide_eq_false (by have := HI.out; omega)
      have hf := HX.out
      rw [show i.toNat = l.length by have := HI.out; omega] at hf
      have hc0 := (blk_cell BK.out 0).trans rfl
      have hc1 := (blk_cell BK.out 1).trans rfl
      have hf0 := blk_frozen BK.out 0
      have hf1 := blk_frozen BK.out 1
      have HF := Aside0.mk hf
      clear hf
      go_wp2
      have hB2 := blk_put (blk_put BK.out 0 (.int .u8 x) rfl) 1 (.int .u8 y) rfl
      refine bodyPost_ret (v := .agg #[.int .u8 x, .int .u8 y]) ?_ rfl ⟨?_, below_set (below_set HB.out GB.out) GB.out⟩
      · refine results_one (p := 2) (ty := 52) rfl _ _ ⟨gb, 0, none⟩ rfl [.int .u8 x, .int .u8 y] (.array 2 5) (fun j v h => ?_) Try.underlying52 rfl size52
        rw [Addr.add_mid, Nat.zero_add, blk_cell hB2]
        simpa using h
      · unfold crossF
        rw [HF.out]
    | succ k1 =>
      have hi := HI.out
      have hL := HL.out
      have hlt : decide (i < (l.length : Int)) = true := decide_eq_true (by omega)
      have p1 : (0 ≤ i) = True := eq_true (by omega)
      have p2 : (i < (l.length : Int)) = True := eq_true (by omega)
      have hw2 : wrap64 (i + 1) = i + 1 := by unfold wrap64; omega
      obtain ⟨ad, eA, hx⟩ := Kd.at_int (Kd.C_below HC.out HB.out) i (by omega) (by omega)
      cases eA
      have hc0 := (blk_cell BK.out 0).trans rfl
      have hc1 := (blk_cell BK.out 1).trans rfl
      have hf0 := blk_frozen BK.out 0
      have hf1 := blk_frozen BK.out 1
      by_cases hev : i.toNat % 2 = 0
      · have hm : Int.tmod i 2 = 0 := by rw [Int.tmod_eq_emod_of_nonneg hi.1]; omega
        have hm2 : i % 2 = 0 := by omega
        have he := cross_even l i.toNat hev
        rw [HX.out, show i.toNat + 1 = (i + 1).toNat by omega] at he
        have HE := Aside0.mk he
        have HI1 := Aside0.mk hi
        clear hi hL he hev
        go_wp2
        go_roundg k1
        case measure => omega
        case rel =>
          have hi := HI1.out
          exact ⟨i + 1, _, _, rfl, ⟨by omega, by omega⟩, HE, ⟨blk_put BK.out 0 _ rfl⟩, ⟨below_set HB.out GB.out⟩⟩
      · have hm : Int.tmod i 2 = 1 := by rw [Int.tmod_eq_emod_of_nonneg hi.1]; omega
        have hm2 : i % 2 = 1 := by omega
        have he := cross_odd l i.toNat hev
        rw [HX.out, show i.toNat + 1 = (i + 1).toNat by omega] at he
        have HE := Aside0.mk he
        have HI1 := Aside0.mk hi
        clear hi hL he hev
        go_wp2
        go_roundg k1
        case measure => omega
        case rel =>
          have hi := HI1.out
          exact ⟨i + 1, _, _, rfl, ⟨by omega, by omega⟩, HE, ⟨blk_put BK.out 1 _ rfl⟩, ⟨below_set HB.out GB.out⟩⟩
end Go.Proofs.Ytnbomjfpnpmllaa.Q
end
section
namespace Go.Proofs.Ytnbomjfpnpmllaa.Q
open Go.RowKit Go.Proofs.YtnbomjfpnpmllaaW.PrintWords Go.Proofs.YtnbomjfpnpmllaaW.PrintLast Go.Proofs.YtnbomjfpnpmllaaW.PrintMore
set_option linter.unusedVariables false
set_option linter.unusedSimpArgs false

attribute [local go_sem] max2_int min2_int max_two min_two max_three min_three max_four min_four
/-! ### prop_EncodeInt: function 24 -/
def prop_EncodeInt.f (a0 : Int) : Option (List Int) := some (([(a0 / 16777216) % 256, (a0 / 65536) % 256, (a0 / 256) % 256, (a0) % 256] : List Int))
set_option maxHeartbeats 8000000 in
set_option maxRecDepth 100000 in
theorem prop_EncodeInt.calls (a0 : Int) (r : List Int) (w : World) (h : prop_EncodeInt.f a0 = some r) :
    Calls Try.prog 24 #[.int .u32 a0] w fun e w' => ∃ v0_ : Value, e = .returned (v0_) ∧ Kd.R (Kd.int .u8) 5 w' w.heap.size (fun _ => True) v0_ r ∧ Below w.heap.size w w' := by
  have HB := Aside0.mk (Below.refl w.heap.size w)
  have H : (some (([(a0 / 16777216) % 256, (a0 / 65536) % 256, (a0 / 256) % 256, (a0) % 256] : List Int))) = some r := h
  clear h
  obtain ⟨y25001, hy25001⟩ : ∃ y_ : List Int, y_ = (([(a0 / 16777216) % 256, (a0 / 65536) % 256, (a0 / 256) % 256, (a0) % 256] : List Int)) := ⟨_, rfl⟩
  replace H : (some y25001) = some r := by first | (rw [hy25001]; with_reducible exact H) | (have H2_ := (Option.bind_some _ _).symm.trans H; rw [hy25001]; with_reducible exact H2_) | (have H2_ := (Option.bind_some _ _).symm.trans H; with_reducible exact H2_) | with_reducible exact H | (rw [hy25001]; exact H) | exact H
  have Ny25001 := Aside0.mk hy25001
  clear hy25001
  obtain rfl := Option.some.inj H
  go_enter Try.func24, Try.ntmps24
  go_wp2_with (first | ((with_reducible refine gate_dst (N := 14) rfl ?_); refine Kd.R_lit (Kd.int .u8) _ 5 ?hg (N := 14) ?hd (xs := ([(a0 / 16777216) % 256, (a0 / 65536) % 256, (a0 / 256) % 256, (a0) % 256] : List Int)) (inner := [.int .u8 ((a0 / 16777216) % 256), .int .u8 ((a0 / 65536) % 256), .int .u8 ((a0 / 256) % 256), .int .u8 ((a0) % 256)]) (ok := fun _ => True) (okp := fun _ => True) ?hr ?hp (fun _ hk => hk) trivial (Below.refl _ _) (Nat.le_refl _) (by simp) ?_; (case hd => rfl); (case hg => rfl); (case hr => first | (go_simp; done) | (go_simp; rfl)); (case hp => exact (Reps.one (show Kd.M (Kd.int .u8) _ _ _ ((a0 / 16777216) % 256) [.int .u8 ((a0 / 16777216) % 256)] from rfl) (Reps.one (show Kd.M (Kd.int .u8) _ _ _ ((a0 / 65536) % 256) [.int .u8 ((a0 / 65536) % 256)] from rfl) (Reps.one (show Kd.M (Kd.int .u8) _ _ _ ((a0 / 256) % 256) [.int .u8 ((a0 / 256) % 256)] from rfl) (Reps.one (show Kd.M (Kd.int .u8) _ _ _ ((a0) % 256) [.int .u8 ((a0) % 256)] from rfl) (Reps.none _ _)))))); intro v25002 w2 ho3 hb hg_ hnew_; clear hg_ hnew_; (first | rw [← Ny25001.out] at ho3 | (simp only [Int.reduceToNat] at ho3; rw [← Ny25001.out] at ho3)); have n0_ := Aside0.mk (Kd.R_lower ho3 (below_size (by repeat (first | (with_reducible first | exact HB.out | apply below_alloc | apply pw_below_drewN | apply below_drew1) | exact HB.out)))); have n1_ := Aside0.mk (below_step (by repeat (first | (with_reducible first | exact HB.out | apply below_alloc | apply pw_below_drewN | apply below_drew1) | exact HB.out)) hb); clear HB; have HO25003 := n0_; have HB := n1_; clear n0_ n1_; clear hb ho3))
  go_ret
  exact ⟨_, by first | rfl | (simp [errW_none, errW_some] <;> rfl) | (simp [*, errW_none, errW_some] <;> rfl), by (with_reducible repeat (first | apply Kd.R_alloc | apply Kd.R_drewN | apply Kd.R_drew)); exact HO25003.out, by repeat (first | (with_reducible first | exact HB.out | apply below_alloc | apply pw_below_drewN | apply below_drew1) | exact HB.out)⟩

end Go.Proofs.Ytnbomjfpnpmllaa.Q
end
section
namespace Go.Proofs.Ytnbomjfpnpmllaa.Q
open Go.RowKit Go.Proofs.YtnbomjfpnpmllaaW.PrintWords Go.Proofs.YtnbomjfpnpmllaaW.PrintLast Go.Proofs.YtnbomjfpnpmllaaW.PrintMore
def zerosL (n : Nat) : List Int := List.replicate n 0
def Spare (w : World) (g : Nat) (L : List Int) : Prop := w.heap[g]? = some (.cells (byteCells (L ++ zerosL (512 - L.length))).toArray 5 (0, 0))
theorem info5s : (Try.prog.info? 5).map (fun i => (i.zero, i.size, i.bytes)) = some (some (.int .u8 0), 1, 1) := by kernel_rfl
theorem zeros_drop (n m : Nat) : (zerosL n).drop m = zerosL (n - m) := by simp [zerosL]
theorem C_blk {w : World} {g t : Nat} {L : List Int} (h : w.heap[g]? = some (.cells (byteCells L).toArray t (0, 0))) (n : Nat) (hn : L.length = n) (hm : n ≤ 9223372036854775807) : Kd.C (Kd.int .u8) w (some ⟨g, 0, none⟩) n L :=
  C_of_range (fun j v hv => by rw [Nat.zero_add, blk_cell h]; simpa using hv) hn hm
theorem C_of_spare {w : World} {g : Nat} {L : List Int} (h : Spare w g L) (n : Nat) (hn : L.length = n) (hm : n ≤ 512) : Kd.C (Kd.int .u8) w (some ⟨g, 0, none⟩) n L :=
  C_of_range (fun j v hv => by
    rw [Nat.zero_add, blk_cell h]
    have hj := (List.getElem?_eq_some_iff.1 hv).1
    unfold byteCells at hv hj ⊢
    rw [List.map_append]
    simp only [List.getElem?_toArray]
    rw [List.getElem?_append_left hj]
    exact hv) hn (by omega)
theorem cross_at (A : Option Addr) (c n : Nat) (l : List Int) (w : World) (hl : l.length = n) (hn : n ≤ 140737488351232) (hC : Kd.C (Kd.int .u8) w A n l) :
    Calls Try.prog 25 #[.slice A n c] w fun e w' => e = .returned (.agg #[.int .u8 (crossF l).1, .int .u8 (crossF l).2]) ∧ Below w.heap.size w w' := by
  subst hl
  exact cross_calls A c l w hC hn
theorem made_zero : madeCells #[Value.int .u8 0] (512 * 1) = (byteCells ([] ++ zerosL (512 - 0))).toArray := by kernel_rfl
theorem run_append_spare {P : Program} (hu : P.underlying 27 = some (.slice 5)) (hinf : (P.info? 5).map (fun i => (i.zero, i.size, i.bytes)) = some (some (.int .u8 0), 1, 1)) {w : World} {g : Nat} {L M : List Int} {A : Option Addr} {m c : Nat} (h : Spare w g L) (hC : Kd.C (Kd.int .u8) w A m M) (hm : 0 < m) (hr : L.length + m ≤ 512) (ty : TypeId) :
    ∃ w', (Builtin.append_ #[27, 27] ty #[.slice (some ⟨g, 0, none⟩) L.length 512, .slice A m c]).run P w = .ok (.slice (some ⟨g, 0, none⟩) (L.length + m) 512) w' ∧ Spare w' g (L ++ M) ∧ w.grownBy w' (some g) := by
  obtain ⟨i0, hi, hz0, hz1, hz2⟩ := info_parts hinf
  have hM : M.length = m := hC.1
  obtain ⟨ad, rfl, _⟩ := hC.2.2 hm
  have hcs := C_cells hC
  have hs : (byteCells (L ++ zerosL (512 - L.length))).length = 512 := by rw [byteCells_len, List.length_append]; simp [zerosL]; omega
  have hrun := run_append_room (P := P) w 27 ty 5 i0 hu hi g L.length 512 _ h ad m c (byteCells M) (by rw [byteCells_len, hM, hz1, Nat.mul_one]) hcs (byteCells_one M) hr (by rw [byteCells_len, hz1]; simp only [List.size_toArray]; rw [hs]; omega)
  refine ⟨_, hrun, ?_, setRow_grown _ _ _⟩
  unfold Spare
  rw [setRow_heap w g _ _ 5 (0, 0) h, hz1, Nat.mul_one]
  refine congrArg some (congrArg (fun x => Obj.cells (List.toArray x) 5 (0, 0)) ?_)
  unfold byteCells
  rw [← List.map_take, ← List.map_drop, ← List.map_append, ← List.map_append]
  congr 1
  rw [List.take_left' rfl, List.length_map, hM]
  congr 1
  rw [List.drop_append, List.drop_of_length_le (by omega), List.nil_append, zeros_drop, List.length_append]
  congr 1
  omega
theorem wp_append_spare {P : Program} (hu : P.underlying 27 = some (.slice 5)) (hinf : (P.info? 5).map (fun i => (i.zero, i.size, i.bytes)) = some (some (.int .u8 0), 1, 1)) {o : Oper} {a : Act} {K : Act → World → Prop} {Q : Exit → Act → World → Prop} {w : World} (s x : Operand)
    (ho : o.op = .call { callee := .builtin .append, args := #[s, x], argTypes := #[27, 27] }) (g : Nat) (L M : List Int) (A : Option Addr) (m c : Nat) (n : Nat) (hs : a.eval s = .slice (some ⟨g, 0, none⟩) n 512) (hx : a.eval x = .slice A m c) (hn : n = L.length)
    (h : Spare w g L) (hC : Kd.C (Kd.int .u8) w A m M) (hm : 0 < m) (hr : L.length + m ≤ 512)
    (hK : ∀ w', Spare w' g (L ++ M) → w.grownBy w' (some g) → K (a.put o.dst (.slice (some ⟨g, 0, none⟩) (n + m) 512)) w') : o.wp P a w K Q := by
  subst hn
  obtain ⟨w', hrun, h1, h2⟩ := run_append_spare hu hinf h hC hm hr o.type (c := c)
  unfold Oper.wp execOp
  simp only [ho, resolve, invoke, builtin, Sem.run_bind, Sem.run_pure, Result.andThen_ok, List.map_toArray, List.map_cons, List.map_nil, hs, hx, hrun]
  exact hK w' h1 h2
/-- append within the room, in a straight row of operations. -/
theorem wpList_append_spare {ops : Array Oper} {rest : List Oper} {o : Oper} {a : Act} {Q : Exit → Act → World → Prop} {w : World} (hgd : o.guard = none) (s x : Operand)
    (ho : o.op = .call { callee := .builtin .append, args := #[s, x], argTypes := #[27, 27] }) (g : Nat) (L M : List Int) (A : Option Addr) (m c : Nat) (n : Nat) (hs : a.eval s = .slice (some ⟨g, 0, none⟩) n 512) (hx : a.eval x = .slice A m c) (hn : n = L.length)
    (h : Spare w g L) (hC : Kd.C (Kd.int .u8) w A m M) (hm : 0 < m) (hr : L.length + m ≤ 512)
    (hK : ∀ w', Spare w' g (L ++ M) → w.grownBy w' (some g) → wpList Try.prog ops Q rest (a.put o.dst (.slice (some ⟨g, 0, none⟩) (n + m) 512)) w') : wpList Try.prog ops Q (o :: rest) a w :=
  wpList_plain hgd fun _ hK' => wp_append_spare Try.underlying27 info5s s x ho g L M A m c n hs hx hn h hC hm hr fun w' h1 h2 => hK' _ _ (hK w' h1 h2)
theorem make_spare {ops : Array Oper} {rest : List Oper} {o : Oper} {a : Act} {Q : Exit → Act → World → Prop} {W : World} (hgd : o.guard = none) (x y : Operand) (ho : o.op = .makeSlice 27 x y) (hx : a.eval x = .int .i64 0) (hy : a.eval y = .int .i64 512)
    (h : Spare (W.alloc (.cells (madeCells #[Value.int .u8 0] (512 * 1)) 5)) W.heap.size [] → wpList Try.prog ops Q rest (a.put o.dst (.slice (some ⟨W.heap.size, 0, none⟩) 0 512)) (W.alloc (.cells (madeCells #[Value.int .u8 0] (512 * 1)) 5))) : wpList Try.prog ops Q (o :: rest) a W := by
  obtain ⟨i0, hi, hz0, hz1, hz2⟩ := info_parts info5s
  have hr := run_make (P := Try.prog) W 27 5 i0 (.int .u8 0) Try.underlying27 hi hz0 .i64 .i64 0 512 (by omega) (by omega) (by rw [hz2]; decide) (by omega)
  rw [hz1] at hr
  refine Kd.event_run hgd (w1 := W.alloc (.cells (madeCells #[Value.int .u8 0] (512 * 1)) 5)) (v := .slice (some ⟨W.heap.size, 0, none⟩) 0 512) (by simp only [execOp, ho, hx, hy]; rw [Sem.run_bind, hr]; rfl) (h ?_)
  unfold Spare
  rw [made_zero]
  exact blk_new W _
end Go.Proofs.Ytnbomjfpnpmllaa.Q
end
section
set_option linter.unusedSimpArgs false
set_option linter.unusedVariables false
namespace Go.Proofs.Ytnbomjfpnpmllaa.Q
open Go.RowKit Go.Proofs.YtnbomjfpnpmllaaW.PrintWords Go.Proofs.YtnbomjfpnpmllaaW.PrintLast Go.Proofs.YtnbomjfpnpmllaaW.PrintMore
abbrev Part := Int × Int
def partCells (ps : List Part) : List Value := ps.flatMap fun p => [.int .u32 p.1, .int .u32 p.2]
def fourF (a : Int) : List Int := [(a / 16777216) % 256, (a / 65536) % 256, (a / 256) % 256, a % 256]
def headF (ps : List Part) : List Int := ps.flatMap fun p => fourF p.1 ++ fourF p.2
def bodyF (ps : List Part) : List Int := headF ps ++ zerosL (508 - (headF ps).length) ++ [218, 190]
def labelF (ps : List Part) : List Int := bodyF ps ++ [(crossF (bodyF ps)).1, (crossF (bodyF ps)).2]
def big (p : Part) : Bool := decide (64 < p.1) || decide (64 < p.2)
def makeF (ps : List Part) : List Int × Int := if ps.any big then ([], 1) else (labelF ps, 0)
theorem partCells_len (ps : List Part) : (partCells ps).length = 2 * ps.length := by
  induction ps with
  | nil => rfl
  | cons p ps ih => simp only [partCells, List.flatMap_cons, List.length_append, List.length_cons, List.length_nil] at ih ⊢; omega
theorem headF_len (ps : List Part) : (headF ps).length = 8 * ps.length := by
  induction ps with
  | nil => rfl
  | cons p ps ih => simp only [headF, fourF, List.flatMap_cons, List.length_append, List.length_cons, List.length_nil] at ih ⊢; omega
theorem partCells_get (ps : List Part) (i : Nat) (hi : i < ps.length) : (partCells ps)[2 * i]? = some (.int .u32 (ps.getD i (0, 0)).1) ∧ (partCells ps)[2 * i + 1]? = some (.int .u32 (ps.getD i (0, 0)).2) := by
  induction ps generalizing i with
  | nil => simp at hi
  | cons p ps ih =>
    cases i with
    | zero => exact ⟨rfl, rfl⟩
    | succ i =>
      have := ih i (by simpa using hi)
      simp only [partCells, List.flatMap_cons] at this ⊢
      rw [show 2 * (i + 1) = 2 * i + 1 + 1 by omega]
      simpa using this
theorem partCells_one (ps : List Part) : ∀ v ∈ partCells ps, v.oneCell' = true := fun v hv => by
  unfold partCells at hv
  obtain ⟨p, _, hp⟩ := List.mem_flatMap.1 hv
  simp at hp
  rcases hp with rfl | rfl <;> rfl
theorem size25 : (Try.prog.info? 25).map (·.size) = some 16 := by kernel_rfl
theorem box_sl {P : Program} {ops : Array Oper} {rest : List Oper} {o : Oper} {a : Act} {Q : Exit → Act → World → Prop} {W : World} (hgd : o.guard = none) {N : Tmp} (_hd : o.dst = some N) {cs : Array Value} {t : TypeId} {n : Nat}
    (hrun : (execOp a.eval o).run P W = .ok (.value (.slice (some ⟨W.heap.size, 0, none⟩) n n)) (W.alloc (.cells cs t (0, 0))))
    (h : ∀ g, g = W.heap.size → ∀ w1, w1.heap[g]? = some (.cells cs t (0, 0)) → Below W.heap.size W w1 → wpList P ops Q rest (a.put o.dst (.slice (some ⟨g, 0, none⟩) n n)) w1) : wpList P ops Q (o :: rest) a W :=
  Kd.event_run hgd hrun (h _ rfl _ (blk_new W _) (below_alloc (Below.refl _ _) _))
theorem size24 : (Try.prog.info? 24).map (·.size) = some 2 := by kernel_rfl
theorem run_index_part {P : Program} (hu : P.underlying 25 = some (.array 8 24)) {d24 : TypeDesc} (h24 : P.underlying 24 = some d24) (hd : d24.isRow = true) (hs : (P.info? 24).map (·.size) = some 2) (W : World) (cs : List Value) (i : Int) (a b : Value) (hi : 0 ≤ i ∧ i < 8) (ha : cs[2 * i.toNat]? = some a) (hb : cs[2 * i.toNat + 1]? = some b) :
    (Instr.index 25 (.agg cs.toArray) (.int .i64 i)).run P W = .ok (.agg #[a, b]) W := by
  obtain ⟨i24, hi24, hsz⟩ := Option.map_eq_some_iff.1 hs
  have hw : wrap64 i = i := by unfold wrap64; omega
  have hsize : (sizeOf 24).run P W = .ok 2 W := by simp [sizeOf, typeInfo, hi24, hsz]
  have hagg : (isAgg 24).run P W = .ok true W := by
    unfold isAgg
    rw [Sem.run_bind, run_underlying h24 W]
    cases d24 <;> simp_all [TypeDesc.isRow]
  have hex : cs.toArray.extract (i.toNat * 2) (i.toNat * 2 + 2) = #[a, b] := by
    have h1 := (List.getElem?_eq_some_iff.1 hb).1
    apply Array.ext_getElem?
    intro k
    rw [Array.getElem?_extract]
    simp only [List.size_toArray, List.getElem?_toArray]
    match k with
    | 0 => rw [if_pos (by simp only [Nat.min_def]; split <;> omega), Nat.add_zero, Nat.mul_comm, ha]; rfl
    | 1 => rw [if_pos (by simp only [Nat.min_def]; split <;> omega), Nat.mul_comm, hb]; rfl
    | k + 2 => rw [if_neg (by simp only [Nat.min_def]; split <;> omega)]; rfl
  have hex2 : List.take 2 (List.drop (i.toNat * 2) cs) = [a, b] := by
    have := congrArg Array.toList hex
    simpa [List.extract_eq_take_drop] using this
  simp [Instr.index, asIntOf, Sem.run_bind, run_underlying hu W, part, hagg, hsize, hex2, hi.1, hi.2]
theorem event_index {ops : Array Oper} {rest : List Oper} {o : Oper} {a : Act} {Q : Exit → Act → World → Prop} {W : World} (hgd : o.guard = none) (x y : Operand) (ho : o.op = .index 25 x y) (cs : List Value) (i : Int) (u v : Value) (hx : a.eval x = .agg cs.toArray) (hy : a.eval y = .int .i64 i)
    (hi : 0 ≤ i ∧ i < 8) (ha : cs[2 * i.toNat]? = some u) (hb : cs[2 * i.toNat + 1]? = some v) (h : wpList Try.prog ops Q rest (a.put o.dst (.agg #[u, v])) W) : wpList Try.prog ops Q (o :: rest) a W := by
  have hr := run_index_part (P := Try.prog) Try.underlying25 Try.underlying24 rfl size24 W cs i u v hi ha hb
  refine Kd.event_run hgd (w1 := W) (v := .agg #[u, v]) (by simp only [execOp, ho, hx, hy]; rw [Sem.run_bind, hr]; rfl) h
theorem spare_pad {w : World} {g : Nat} {L : List Int} (h : Spare w g L) (n : Nat) (hn : L.length + n ≤ 512) : Spare w g (L ++ zerosL n) := by
  unfold Spare at h ⊢
  rw [h]
  refine congrArg some (congrArg (fun x => Obj.cells (List.toArray (byteCells x)) 5 (0, 0)) ?_)
  rw [List.append_assoc, List.length_append]
  congr 1
  have : (zerosL n).length = n := by simp [zerosL]
  rw [this]
  unfold zerosL
  rw [List.replicate_append_replicate]
  congr 1
  omega
theorem R_of_spare {w : World} {g base : Nat} {L : List Int} (h : Spare w g L) (hb : base ≤ g) (hl : L.length ≤ 512) : Kd.R (Kd.int .u8) 5 w base (fun _ => True) (.slice (some ⟨g, 0, none⟩) L.length 512) L := by
  refine Kd.R_of_own (xs := L) ⟨by simp [encs, Kd.int], .inr ⟨g, 512, _, rfl, hb, h, hl, by decide, ?_, ?_⟩⟩ (fun _ _ => trivial)
  · rw [List.size_toArray, byteCells_len, List.length_append]
    simp only [zerosL, List.length_replicate]
    show _ = 512 * 1
    omega
  · simp only [byteCells, List.map_append]
    show List.take (L.length * 1) _ = _
    rw [Nat.mul_one]
    exact List.take_left' (by simp [encs, Kd.int, Kd.scalar])
theorem four_at (a : Int) (w : World) : Calls Try.prog 24 #[.int .u32 a] w fun e w' => ∃ A c, e = .returned (.slice A 4 c) ∧ Kd.C (Kd.int .u8) w' A 4 (fourF a) ∧ Below w.heap.size w w' := by
  refine (prop_EncodeInt.calls a (fourF a) w rfl).mono ?_
  rintro e w' ⟨v, rfl, hR, hb⟩
  obtain ⟨A, c, rfl, hc, hC⟩ := Kd.R_reads hR
  exact ⟨A, c, rfl, hC, hb⟩
theorem any_big (ps : List Part) (i : Nat) (hi : i < ps.length) (h : big (ps.getD i (0, 0)) = true) : ps.any big = true := by
  rw [List.any_eq_true]
  refine ⟨ps.getD i (0, 0), ?_, h⟩
  simp [List.getD_eq_getElem?_getD, List.getElem?_eq_getElem hi]
theorem any_take_succ (ps : List Part) (i : Nat) (hi : i < ps.length) : (ps.take (i + 1)).any big = ((ps.take i).any big || big (ps.getD i (0, 0))) := by
  rw [List.take_succ_eq_append_getElem hi, List.any_append]
  simp [List.getD_eq_getElem?_getD, List.getElem?_eq_getElem hi]
theorem headF_take_succ (ps : List Part) (i : Nat) (hi : i < ps.length) : headF (ps.take (i + 1)) = headF (ps.take i) ++ fourF (ps.getD i (0, 0)).1 ++ fourF (ps.getD i (0, 0)).2 := by
  rw [List.take_succ_eq_append_getElem hi]
  unfold headF
  rw [List.flatMap_append, List.append_assoc]
  simp [List.getD_eq_getElem?_getD, List.getElem?_eq_getElem hi]
set_option maxHeartbeats 8000000 in
set_option maxRecDepth 100000 in
theorem make_calls (ps : List Part) (w : World) (hl : ps.length = 8) :
    Calls Try.prog 10 #[.agg (partCells ps).toArray] w fun e w' => ∃ v : Value, e = .returned (.tuple #[v, .int .i64 (makeF ps).2]) ∧ Kd.R (Kd.int .u8) 5 w' w.heap.size (fun _ => True) v (makeF ps).1 ∧ Below w.heap.size w w' := by
  obtain ⟨cs, hcs⟩ : ∃ cs, cs = partCells ps := ⟨_, rfl⟩
  obtain ⟨R, hR⟩ : ∃ R, R = makeF ps := ⟨_, rfl⟩
  have HR := Aside0.mk hR
  rw [← hcs, ← hR]
  clear hR
  have hL : cs.length = 16 := by rw [hcs, partCells_len, hl]
  have HL := Aside0.mk hL
  have HCS := Aside0.mk hcs
  have HPL := Aside0.mk hl
  clear hL hcs hl
  go_enter Try.func10, Try.ntmps10
  go_wp2_with (first
    | ((with_reducible refine gate_dst (N := 1) rfl ?_); refine box_event ?hg (N := 1) ?hd (cs := cs.toArray) (t := 25) ?hr ?_; (case hd => rfl); (case hg => rfl); (case hr => first | (go_simp; done) | (go_simp; rfl)); intro gb hg w1 hbox hb; have BK := Aside0.mk hbox; have HB := Aside0.mk hb; have GB := Aside0.mk (show w.heap.size ≤ gb from hg ▸ Nat.le_refl _); clear hbox hb hg)
    | ((with_reducible refine gate_dst (N := 8) rfl ?_); refine make_spare rfl (.const (.int .i64 0)) (.const (.int .i64 512)) rfl rfl rfl ?_; intro hsp; have SP := Aside0.mk hsp; clear hsp)
    | ((with_reducible refine gate_dst (N := 9) rfl ?_); refine wpList_load_any rfl 25 (.tmp 1) rfl ⟨gb, 0, none⟩ rfl cs (.array 8 24) ?hc Try.underlying25 rfl (by rw [HL.out]; exact size25) ?_; (case hc => exact fun j v hv => by rw [Addr.add_mid, Nat.zero_add, blk_cell (blk_alloc BK.out _)]; simpa using hv)))
  obtain ⟨g0, hg0⟩ : ∃ g0, g0 = w1.heap.size := ⟨_, rfl⟩
  have HB2 := Aside0.mk (below_alloc HB.out (.cells (madeCells #[Value.int .u8 0] (512 * 1)) 5))
  have G0 := Aside0.mk (show w.heap.size ≤ g0 from hg0 ▸ below_size HB.out)
  rw [← hg0] at SP
  rw [← hg0]
  generalize w1.alloc (.cells (madeCells #[Value.int .u8 0] (512 * 1)) 5) = W2 at SP HB2 ⊢
  clear hg0 BK HB GB
  go_loopg [4, 10] 8 (fun kq v4 v10 w' => ∃ (i : Int) (L : List Int), v10 = .int .i64 i ∧ v4 = .slice (some ⟨g0, 0, none⟩) L.length 512 ∧ Aside0 (0 ≤ i ∧ i + kq = 8) ∧ Aside0 (L = headF (ps.take i.toNat)) ∧ Aside0 ((ps.take i.toNat).any big = false) ∧ Aside0 (Spare w' g0 L) ∧ Aside0 (Below w.heap.size w w'))
  case atStart => exact ⟨0, [], rfl, rfl, ⟨by omega, by omega⟩, ⟨rfl⟩, ⟨rfl⟩, SP, HB2⟩
  case round =>
    clear SP HB2
    obtain ⟨i, L, rfl, rfl, HI, HLe, HA, SP, HB⟩ := hrel
    cases gk with
    | zero =>
      have hi8 : i = 8 := by have := HI.out; omega
      have hlt : decide (i < (8 : Int)) = false := decide_eq_false (by omega)
      have hLe := HLe.out
      have hA := HA.out
      have hPL := HPL.out
      rw [hi8, show (8 : Int).toNat = ps.length from hPL.symm, List.take_length] at hLe hA
      have hLl : L.length = 64 := by rw [hLe, headF_len, hPL]
      obtain ⟨B, hB⟩ : ∃ B, B = L ++ zerosL (508 - L.length) := ⟨_, rfl⟩
      have hBl : B.length = 508 := by rw [hB, List.length_append]; simp [zerosL]; omega
      have hBo : bodyF ps = B ++ [218, 190] := by unfold bodyF; rw [hB, hLe]
      have SPB := Aside0.mk (show Spare wr g0 B from hB ▸ spare_pad SP.out _ (by omega))
      have hR : R = ((B ++ [218, 190]) ++ [(crossF (B ++ [218, 190])).1, (crossF (B ++ [218, 190])).2], 0) := by rw [HR.out]; unfold makeF labelF; rw [hA, hBo]; rfl
      obtain ⟨Y, hY⟩ : ∃ Y, Y = B ++ [218, 190] := ⟨_, rfl⟩
      have HYl := Aside0.mk (show Y.length = 510 by rw [hY, List.length_append, hBl]; rfl)
      rw [← hY] at hR
      obtain ⟨x, hx⟩ : ∃ x, x = (crossF Y).1 := ⟨_, rfl⟩
      obtain ⟨y, hy⟩ : ∃ y, y = (crossF Y).2 := ⟨_, rfl⟩
      rw [← hx, ← hy] at hR
      obtain rfl := hR
      have HX := Aside0.mk (show ∀ (n : Nat) (W : World), Spare W g0 Y → Calls Try.prog 25 #[.slice (some ⟨g0, 0, none⟩) 510 512] W (fun e w' => e = .returned (.agg #[.int .u8 x, .int .u8 y]) ∧ Below W.heap.size W w') from fun n W h => by
        rw [hx, hy]
        exact cross_at _ _ _ _ _ HYl.out (by omega) (C_of_spare h 510 HYl.out (by omega)))
      have HY := Aside0.mk hY
      have HBl := Aside0.mk hBl
      clear HR hx hy hY hBl hBo hLl hLe hA hPL hB hi8 HLe HA SP
      go_wp2_with (first
        | ((with_reducible refine gate_dst (N := 34) rfl ?_); refine box_sl ?hg (N := 34) ?hd (cs := (byteCells [218, 190]).toArray) (t := 5) (n := 2) ?hr ?_; (case hd => rfl); (case hg => rfl); (case hr => first | (go_simp; done) | (go_simp; rfl)); intro gl hg w3 hbox hb; have BK := Aside0.mk hbox; have HB3 := Aside0.mk (below_step HB.out hb); have SP3 := Aside0.mk (blk_below SPB.out hb); clear hbox hb hg)
        | ((with_reducible refine gate_dst (N := 35) rfl ?_); refine wpList_append_spare rfl (.tmp 33) (.tmp 34) rfl g0 B [218, 190] _ 2 _ 508 rfl rfl HBl.out.symm SP3.out (C_blk BK.out 2 rfl (by omega)) (by omega) (by rw [HBl.out]; omega) ?_; intro w4 hs hg; have SP4 := Aside0.mk hs; have HB4 := Aside0.mk (pw_below_grown HB3.out _ (below_size HB3.out) hg (fun k hk => Option.some.inj hk ▸ G0.out)); clear hs hg)
        | (go_at_call 25; (with_reducible refine (HX.out 0 _ (HY.out ▸ SP4.out)).mono ?_); rintro e w5 ⟨rfl, hb⟩; have HB5 := Aside0.mk (below_step HB4.out hb); have SP5 := Aside0.mk (show Spare w5 g0 Y from HY.out ▸ blk_below SP4.out hb); clear hb)
        | ((with_reducible refine gate_dst (N := 7) rfl ?_); refine box_event ?hg (N := 7) ?hd (cs := #[.int .u8 0, .int .u8 0]) (t := 52) ?hr ?_; (case hd => rfl); (case hg => rfl); (case hr => first | (go_simp; done) | (go_simp; rfl)); intro gx hg w6 hbox hb; have hc0 := (blk_cell hbox 0).trans rfl; have hc1 := (blk_cell hbox 1).trans rfl; have hf0 := blk_frozen hbox 0; have hf1 := blk_frozen hbox 1; have BX := Aside0.mk hbox; have GX := Aside0.mk (show w.heap.size ≤ gx from hg ▸ below_size HB5.out); have HB6 := Aside0.mk (below_step HB5.out hb); have SP6 := Aside0.mk (show Spare w6 g0 Y from blk_below SP5.out hb); clear hbox hb hg)
        | ((with_reducible refine gate_dst (N := 40) rfl ?_); refine wpList_append_spare rfl (.tmp 38) (.tmp 39) rfl g0 Y [x, y] _ 2 _ 510 rfl rfl HYl.out.symm (blk_far (blk_far SP6.out (p := ⟨gx, 0, none⟩) (blk_ne SP6.out BX.out (by decide)) _) (p := ⟨gx, 1, none⟩) (blk_ne SP6.out BX.out (by decide)) _) (C_blk (L := [x, y]) (blk_put (blk_put BX.out 0 (.int .u8 x) rfl) 1 (.int .u8 y) rfl) 2 rfl (by omega)) (by omega) (by rw [HYl.out]; omega) ?_; intro w7 hs hg; have SP7 := Aside0.mk hs; have HB7 := Aside0.mk (pw_below_grown (below_set (below_set HB6.out GX.out) GX.out) _ (below_size (below_set (below_set HB6.out GX.out) GX.out)) hg (fun k hk => Option.some.inj hk ▸ G0.out)); clear hs hg))
      refine bodyPost_ret (results_tmp2 rfl _ _ _) rfl ⟨_, rfl, ?_, HB7.out⟩
      have h := R_of_spare SP7.out G0.out (by rw [List.length_append, HYl.out]; exact Nat.le_refl 512)
      rw [List.length_append, HYl.out] at h
      exact h
    | succ k1 =>
      have hi := HI.out
      have hlt : decide (i < (8 : Int)) = true := decide_eq_true (by omega)
      obtain ⟨s, hs⟩ : ∃ s, s = (ps.getD i.toNat (0, 0)).1 := ⟨_, rfl⟩
      obtain ⟨c, hc⟩ : ∃ c, c = (ps.getD i.toNat (0, 0)).2 := ⟨_, rfl⟩
      have hg := partCells_get ps i.toNat (by have := HPL.out; omega)
      rw [← hs, ← hc, ← HCS.out] at hg
      have HG := Aside0.mk hg
      have HI1 := Aside0.mk hi
      have HS := Aside0.mk hs
      have HC := Aside0.mk hc
      clear hg hi hs hc
      have hri : 0 ≤ i ∧ i < 8 := by have := HI1.out; omega
      have HRI := Aside0.mk hri
      have hw2 : wrap64 (i + 1) = i + 1 := by unfold wrap64; omega
      have HLl := Aside0.mk (show L.length = 8 * i.toNat by rw [HLe.out, headF_len, List.length_take, HPL.out]; omega)
      clear hri
      by_cases hb1 : 64 < s
      · have hd1 : decide (64 < s) = true := decide_eq_true hb1
        go_wp2_with (first
          | ((with_reducible refine gate_dst (N := 12) rfl ?_); refine event_index rfl (.tmp 9) (.tmp 10) rfl cs i _ _ rfl rfl HRI.out HG.out.1 HG.out.2 ?_)
          | ((with_reducible refine gate_dst (N := 6) rfl ?_); refine box_event ?hg (N := 6) ?hd (cs := #[.int .u32 0, .int .u32 0]) (t := 24) ?hr ?_; (case hd => rfl); (case hg => rfl); (case hr => first | (go_simp; done) | (go_simp; rfl)); intro gx hg w6 hbox hb; have hc0 := (blk_cell hbox 0).trans rfl; have hc1 := (blk_cell hbox 1).trans rfl; have hf0 := blk_frozen hbox 0; have hf1 := blk_frozen hbox 1; have BX := Aside0.mk hbox; have GX := Aside0.mk (show w.heap.size ≤ gx from hg ▸ below_size HB.out); have HB6 := Aside0.mk (below_step HB.out hb); have SP6 := Aside0.mk (show Spare w6 g0 L from blk_below SP.out hb); clear hbox hb hg))
        refine bodyPost_ret (results_tmp2 rfl _ _ _) rfl ⟨.slice none 0 0, ?_, ?_, below_set (below_set HB6.out GX.out) GX.out⟩
        · rw [HR.out, makeF, if_pos (any_big ps i.toNat (by have := HRI.out; have := HPL.out; omega) (by rw [big, ← HS.out, hd1]; rfl))]
          rfl
        · rw [HR.out, makeF, if_pos (any_big ps i.toNat (by have := HRI.out; have := HPL.out; omega) (by rw [big, ← HS.out, hd1]; rfl))]
          exact Kd.R_nil _ _ _ _ _
      · by_cases hb2 : 64 < c
        · have hd1 : decide (64 < s) = false := decide_eq_false hb1
          have hd2 : decide (64 < c) = true := decide_eq_true hb2
          go_wp2_with (first
          | ((with_reducible refine gate_dst (N := 12) rfl ?_); refine event_index rfl (.tmp 9) (.tmp 10) rfl cs i _ _ rfl rfl HRI.out HG.out.1 HG.out.2 ?_)
          | ((with_reducible refine gate_dst (N := 6) rfl ?_); refine box_event ?hg (N := 6) ?hd (cs := #[.int .u32 0, .int .u32 0]) (t := 24) ?hr ?_; (case hd => rfl); (case hg => rfl); (case hr => first | (go_simp; done) | (go_simp; rfl)); intro gx hg w6 hbox hb; have hc0 := (blk_cell hbox 0).trans rfl; have hc1 := (blk_cell hbox 1).trans rfl; have hf0 := blk_frozen hbox 0; have hf1 := blk_frozen hbox 1; have BX := Aside0.mk hbox; have GX := Aside0.mk (show w.heap.size ≤ gx from hg ▸ below_size HB.out); have HB6 := Aside0.mk (below_step HB.out hb); have SP6 := Aside0.mk (show Spare w6 g0 L from blk_below SP.out hb); clear hbox hb hg))
          refine bodyPost_ret (results_tmp2 rfl _ _ _) rfl ⟨.slice none 0 0, ?_, ?_, below_set (below_set HB6.out GX.out) GX.out⟩
          · rw [HR.out, makeF, if_pos (any_big ps i.toNat (by have := HRI.out; have := HPL.out; omega) (by rw [big, ← HC.out, hd2, Bool.or_true]))]
            rfl
          · rw [HR.out, makeF, if_pos (any_big ps i.toNat (by have := HRI.out; have := HPL.out; omega) (by rw [big, ← HC.out, hd2, Bool.or_true]))]
            exact Kd.R_nil _ _ _ _ _
        · have hd1 : decide (64 < s) = false := decide_eq_false hb1
          have hd2 : decide (64 < c) = false := decide_eq_false hb2
          go_wp2_with (first
          | ((with_reducible refine gate_dst (N := 12) rfl ?_); refine event_index rfl (.tmp 9) (.tmp 10) rfl cs i _ _ rfl rfl HRI.out HG.out.1 HG.out.2 ?_)
          | ((with_reducible refine gate_dst (N := 6) rfl ?_); refine box_event ?hg (N := 6) ?hd (cs := #[.int .u32 0, .int .u32 0]) (t := 24) ?hr ?_; (case hd => rfl); (case hg => rfl); (case hr => first | (go_simp; done) | (go_simp; rfl)); intro gx hg w6 hbox hb; have hc0 := (blk_cell hbox 0).trans rfl; have hc1 := (blk_cell hbox 1).trans rfl; have hf0 := blk_frozen hbox 0; have hf1 := blk_frozen hbox 1; have BX := Aside0.mk hbox; have GX := Aside0.mk (show w.heap.size ≤ gx from hg ▸ below_size HB.out); have HB6 := Aside0.mk (below_step HB.out hb); have SP6 := Aside0.mk (show Spare w6 g0 L from blk_below SP.out hb); clear hbox hb hg)
            | (go_at_call 24; (with_reducible refine (four_at s _).mono ?_); rintro e w7 ⟨A7, c7, rfl, hC, hb⟩; have HC7 := Aside0.mk hC; have HB7 := Aside0.mk (below_step (below_set (below_set HB6.out GX.out) GX.out) hb); have SP7 := Aside0.mk (show Spare w7 g0 L from blk_below (blk_far (blk_far SP6.out (p := ⟨gx, 0, none⟩) (blk_ne SP6.out BX.out (by decide)) _) (p := ⟨gx, 1, none⟩) (blk_ne SP6.out BX.out (by decide)) _) hb); have BX7 := Aside0.mk (blk_below (blk_put (blk_put BX.out 0 (.int .u32 s) rfl) 1 (.int .u32 c) rfl) hb); clear hC hb)
            | ((with_reducible refine gate_dst (N := 25) rfl ?_); refine wpList_append_spare rfl (.tmp 21) (.tmp 24) rfl g0 L (fourF s) _ 4 _ L.length rfl rfl rfl SP7.out HC7.out (by omega) (by rw [HLl.out]; have := HRI.out; omega) ?_; intro w8 hs hg; have hc8 := (blk_cell (blk_grown BX7.out hg (fun e => blk_ne BX7.out SP7.out (by decide) (Option.some.inj e))) 1).trans rfl; have SP8 := Aside0.mk hs; have HB8 := Aside0.mk (pw_below_grown HB7.out _ (below_size HB7.out) hg (fun k hk => Option.some.inj hk ▸ G0.out)); clear hs hg)
            | (go_at_call 24; (with_reducible refine (four_at c _).mono ?_); rintro e w9 ⟨A9, c9, rfl, hC, hb⟩; have HC9 := Aside0.mk hC; have HB9 := Aside0.mk (below_step HB8.out hb); have SP9 := Aside0.mk (show Spare w9 g0 (L ++ fourF s) from blk_below SP8.out hb); clear hC hb)
            | ((with_reducible refine gate_dst (N := 30) rfl ?_); refine wpList_append_spare rfl (.tmp 26) (.tmp 29) rfl g0 (L ++ fourF s) (fourF c) _ 4 _ (L.length + 4) rfl rfl (by rw [List.length_append]; rfl) SP9.out HC9.out (by omega) (by rw [List.length_append, HLl.out]; show _ + 4 + 4 ≤ _; have := HRI.out; omega) ?_; intro w10 hs hg; have SP10 := Aside0.mk hs; have HB10 := Aside0.mk (pw_below_grown HB9.out _ (below_size HB9.out) hg (fun k hk => Option.some.inj hk ▸ G0.out)); clear hs hg))
          go_roundg k1
          case measure => omega
          case rel =>
            have hi := HI1.out
            have hps := HPL.out
            refine ⟨i + 1, L ++ fourF s ++ fourF c, congrArg (Value.int .i64) hw2, ?_, ⟨by omega, by omega⟩, ⟨?_⟩, ⟨?_⟩, SP10, HB10⟩
            · rw [List.length_append, List.length_append]; rfl
            · rw [show (i + 1).toNat = i.toNat + 1 by omega, headF_take_succ ps i.toNat (by omega), HLe.out, HS.out, HC.out]
            · rw [show (i + 1).toNat = i.toNat + 1 by omega, any_take_succ ps i.toNat (by omega), HA.out, big, ← HS.out, ← HC.out, hd1, hd2]; rfl
end Go.Proofs.Ytnbomjfpnpmllaa.Q
end
section
namespace Go.Proofs.Ytnbomjfpnpmllaa.Q
open Go.RowKit Go.Proofs.YtnbomjfpnpmllaaW.PrintWords Go.Proofs.YtnbomjfpnpmllaaW.PrintLast Go.Proofs.YtnbomjfpnpmllaaW.PrintMore
set_option linter.unusedVariables false
set_option linter.unusedSimpArgs false

attribute [local go_sem] max2_int min2_int max_two min_two max_three min_three max_four min_four
/-! ### tinderref05_EncodeInt: function 40 -/
def tinderref05_EncodeInt.l0 : Nat → Int → List Int → Int → Option (List Int)
  | 0, _, _, _ => none
  | k + 1, x0, x3, x4 => if x4 ≥ 0 then (if 0 ≤ (IntKind.u64.wrap (wrap64 (8 * x4))) then (if x3.length < 140737488355328 then (tinderref05_EncodeInt.l0 k x0 (x3 ++ [(Int.tmod (shr .u32 x0 (IntKind.u64.wrap (wrap64 (8 * x4)))) 256) % 256]) (wrap64 (x4 - 1))) else (none)) else (none)) else (some x3)
def tinderref05_EncodeInt.f (k : Nat) (a0 : Int) : Option (List Int) := tinderref05_EncodeInt.l0 k a0 ([] : List Int) 3
theorem tinderref05_EncodeInt.mono_l : ∀ k, (∀ y0 y1 y2, LeO (tinderref05_EncodeInt.l0 k y0 y1 y2) (tinderref05_EncodeInt.l0 (k + 1) y0 y1 y2))
  | 0 => fun _ _ _ r h => by simp [tinderref05_EncodeInt.l0] at h
  | k + 1 => by
    have ih0 := tinderref05_EncodeInt.mono_l k
    · intro y0 y1 y2
      unfold tinderref05_EncodeInt.l0
      repeat' first
      | (with_reducible exact ih0 _ _ _)
      | (with_reducible exact LeO.refl _)
      | (with_reducible exact LeO.none _)
      | (with_reducible refine LeO.ite ?_ ?_)
      | (with_reducible refine LeO.bind ?_ (fun _ => ?_))
      | exact ih0 _ _ _
      | exact LeO.none _
      | refine LeO.ite ?_ ?_
      | refine LeO.bind ?_ (fun _ => ?_)
theorem tinderref05_EncodeInt.mono : ∀ a0 k, LeO (tinderref05_EncodeInt.f k a0) (tinderref05_EncodeInt.f (k + 1) a0) := by
  intro a0 k
  have ih0 := tinderref05_EncodeInt.mono_l k
  unfold tinderref05_EncodeInt.f
  repeat' first
      | (with_reducible exact ih0 _ _ _)
      | (with_reducible exact LeO.refl _)
      | (with_reducible exact LeO.none _)
      | (with_reducible refine LeO.ite ?_ ?_)
      | (with_reducible refine LeO.bind ?_ (fun _ => ?_))
      | exact ih0 _ _ _
      | exact LeO.none _
      | refine LeO.ite ?_ ?_
      | refine LeO.bind ?_ (fun _ => ?_)
set_option maxHeartbeats 8000000 in
set_option maxRecDepth 100000 in
theorem tinderref05_EncodeInt.calls (k : Nat) (a0 : Int) (r : List Int) (w : World) (h : tinderref05_EncodeInt.f k a0 = some r) :
    Calls Try.prog 40 #[.int .u32 a0] w fun e w' => ∃ v0_ : Value, e = .returned (v0_) ∧ Kd.R (Kd.int .u8) 5 w' w.heap.size (fun _ => True) v0_ r ∧ Below w.heap.size w w' := by
  have HB := Aside0.mk (Below.refl w.heap.size w)
  have H : (tinderref05_EncodeInt.l0 k a0 ([] : List Int) 3) = some r := h
  clear h
  have H' := Aside0.mk H
  clear H
  go_enter Try.func40, Try.ntmps40
  go_wp2
  go_loopg [3, 4] k (fun kq v3 v4 w' => ∃ (x3_1 : List Int) (x4_1 : Int), v4 = .int .i64 x4_1 ∧ Aside0 (tinderref05_EncodeInt.l0 kq a0 x3_1 x4_1 = some r) ∧ Aside0 (kq ≤ k) ∧ Aside0 (Kd.R (Kd.int .u8) 5 w' w.heap.size (fun _ => True) v3 x3_1) ∧ Aside0 (Below w.heap.size w w'))
  case atStart => exact ⟨(([] : List Int)), (3), (by first | rfl | (simp; done) | (simp [*]; done)), H', ⟨Nat.le_refl _⟩, ⟨by first | exact Kd.R_nil _ _ _ _ _ | exact Kd.N_nil _ _ _ _ _ | exact Kd.V_nil _ _ _ _ _ | exact Kd.Q_nil _ _ _ _ _ | exact Kd.S_nil _ _ _ _ _⟩, ⟨by repeat (first | (with_reducible first | exact HB.out | apply below_alloc | apply pw_below_drewN | apply below_drew1) | exact HB.out)⟩⟩
  case round =>
    clear H'
    obtain ⟨x3_1, x4_1, rfl, HA, HK1, HO_3, HB⟩ := hrel
    cases gk with
    | zero => exact absurd HA.out (by simp [tinderref05_EncodeInt.l0])
    | succ k1 =>
      have H := HA.out
      clear HA
      simp only [tinderref05_EncodeInt.l0] at H
      by_cases c2 : x4_1 ≥ 0
      · rw [if_pos c2] at H
        have c2b0 : decide (0 ≤ x4_1) = true := decide_eq_true c2
        clear c2
        obtain ⟨ji3, hji3⟩ : ∃ j_ : Int, (IntKind.u64.wrap (wrap64 (8 * x4_1))) = j_ := ⟨_, rfl⟩
        replace H : (if 0 ≤ (ji3) then (if x3_1.length < 140737488355328 then (tinderref05_EncodeInt.l0 k1 a0 (x3_1 ++ [(Int.tmod (shr .u32 a0 (ji3)) 256) % 256]) (wrap64 (x4_1 - 1))) else (none)) else (none)) = some r := by first | (rw [hji3] at H; exact H) | (simp only [hji3] at H ⊢; exact H)
        by_cases c4 : 0 ≤ (ji3)
        · rw [if_pos c4] at H
          have c4b0 := eq_true c4
          have c4b1 : decide (0 ≤ (ji3)) = true := decide_eq_true c4
          clear c4
          obtain ⟨ji5, hji5⟩ : ∃ j_ : Int, (shr .u32 a0 (ji3)) = j_ := ⟨_, rfl⟩
          replace H : (if x3_1.length < 140737488355328 then (tinderref05_EncodeInt.l0 k1 a0 (x3_1 ++ [(Int.tmod (ji5) 256) % 256]) (wrap64 (x4_1 - 1))) else (none)) = some r := by first | (rw [hji5] at H; exact H) | (simp only [hji5] at H ⊢; exact H)
          have hji5_ : (a0 / 2 ^ min (ji3).toNat 32) = ji5 := hji5
          have hji5z : (ji3) ≤ 32 → (a0 / 2 ^ (ji3).toNat) = ji5 := shr_small hji5
          by_cases c6 : x3_1.length < 140737488355328
          · rw [if_pos c6] at H
            have LMc6 := Aside0.mk c6
            clear c6
            obtain ⟨y41001, hy41001⟩ : ∃ y_ : List Int, y_ = (x3_1 ++ [(Int.tmod (ji5) 256) % 256]) := ⟨_, rfl⟩
            replace H : (tinderref05_EncodeInt.l0 k1 a0 y41001 (wrap64 (x4_1 - 1))) = some r := by first | (rw [hy41001]; with_reducible exact H) | (have H2_ := (Option.bind_some _ _).symm.trans H; rw [hy41001]; with_reducible exact H2_) | (have H2_ := (Option.bind_some _ _).symm.trans H; with_reducible exact H2_) | with_reducible exact H | (rw [hy41001]; exact H) | exact H
            have Ny41001 := Aside0.mk hy41001
            clear hy41001
            have H' := Aside0.mk H
            clear H
            go_wp2_with (first | ((with_reducible refine gate_builtin (b := .append) (xs := #[.tmp 9, .tmp 17]) rfl ?_); at_builtin; refine Kd.R_append (Kd.int .u8) (w0 := w) w.heap.size rfl (.tmp 9) (.tmp 17) 27 5 (.int .u8 0) 1 rfl Try.underlying27 info5 rfl (by decide) (by omega) u3 x3_1 ((Int.tmod (ji5) 256) % 256) [.int .u8 ((Int.tmod (ji5) 256) % 256)] (fun _ => True) (fun _ => False) rfl rfl ?aP (fun _ hk => hk.elim) ?aF ?aO ?aB ?aS ?aL ?_; (case aP => exact rfl); (case aB => exact (by repeat (first | (with_reducible first | exact HB.out | apply below_alloc | apply pw_below_drewN | apply below_drew1) | exact HB.out))); (case aF => exact (fun _ _ => trivial)); (case aO => exact (by (with_reducible repeat (first | apply Kd.R_alloc | apply Kd.R_drewN | apply Kd.R_drew)); exact HO_3.out)); (case aS => exact (below_size (by repeat (first | (with_reducible first | exact HB.out | apply below_alloc | apply pw_below_drewN | apply below_drew1) | exact HB.out)))); (case aL => have := LMc6.out; omega); intro v41002 w7 ho hb hg hat; rw [← Ny41001.out] at ho; have n0_ := Aside0.mk (hb); have n1_ := Aside0.mk (ho); clear HB; clear HO_3; have HB := n0_; have HO41003 := n1_; clear n0_ n1_; clear ho hb hg hat))
            go_roundg k1
            case measure => have := HK1.out; omega
            case rel => exact ⟨(y41001), (wrap64 (x4_1 - 1)), (by first | rfl | (simp; done) | (simp [*]; done)), H', ⟨by have := HK1.out; omega⟩, ⟨by (with_reducible repeat (first | apply Kd.R_alloc | apply Kd.R_drewN | apply Kd.R_drew)); exact HO41003.out⟩, ⟨by repeat (first | (with_reducible first | exact HB.out | apply below_alloc | apply pw_below_drewN | apply below_drew1) | exact HB.out)⟩⟩
          · rw [if_neg c6] at H
            exact absurd H (by simp)
        · rw [if_neg c4] at H
          exact absurd H (by simp)
      · rw [if_neg c2] at H
        have c2b0 : decide (0 ≤ x4_1) = false := decide_eq_false c2
        clear c2
        obtain rfl := Option.some.inj H
        go_wp2
        go_ret
        exact ⟨_, by first | rfl | (simp [errW_none, errW_some] <;> rfl) | (simp [*, errW_none, errW_some] <;> rfl), by (with_reducible repeat (first | apply Kd.R_alloc | apply Kd.R_drewN | apply Kd.R_drew)); exact HO_3.out, by repeat (first | (with_reducible first | exact HB.out | apply below_alloc | apply pw_below_drewN | apply below_drew1) | exact HB.out)⟩

end Go.Proofs.Ytnbomjfpnpmllaa.Q
end
section
set_option linter.unusedSimpArgs false
set_option linter.unusedVariables false
namespace Go.Proofs.Ytnbomjfpnpmllaa.Q
open Go.RowKit Go.Proofs.YtnbomjfpnpmllaaW.PrintWords Go.Proofs.YtnbomjfpnpmllaaW.PrintLast Go.Proofs.YtnbomjfpnpmllaaW.PrintMore
def Parts (ps : List Part) : Prop := ∀ p ∈ ps, (0 ≤ p.1 ∧ p.1 < 4294967296) ∧ (0 ≤ p.2 ∧ p.2 < 4294967296)
theorem Parts.at_ {ps : List Part} (h : Parts ps) (i : Nat) (hi : i < ps.length) : (0 ≤ (ps.getD i (0, 0)).1 ∧ (ps.getD i (0, 0)).1 < 4294967296) ∧ (0 ≤ (ps.getD i (0, 0)).2 ∧ (ps.getD i (0, 0)).2 < 4294967296) := by
  refine h _ ?_
  simp [List.getD_eq_getElem?_getD, List.getElem?_eq_getElem hi]
theorem refEnc_eq (a : Int) (h0 : 0 ≤ a) (h1 : a < 4294967296) : tinderref05_EncodeInt.f 5 a = some (fourF a) := by
  have q3 : IntKind.u64.wrap (wrap64 (8 * 3)) = 24 := by kernel_rfl
  have q2 : IntKind.u64.wrap (wrap64 (8 * 2)) = 16 := by kernel_rfl
  have q1 : IntKind.u64.wrap (wrap64 (8 * 1)) = 8 := by kernel_rfl
  have q0 : IntKind.u64.wrap (wrap64 (8 * 0)) = 0 := by kernel_rfl
  have s3 : wrap64 (3 - 1) = 2 := by kernel_rfl
  have s2 : wrap64 (2 - 1) = 1 := by kernel_rfl
  have s1 : wrap64 (1 - 1) = 0 := by kernel_rfl
  have s0 : wrap64 (0 - 1) = -1 := by kernel_rfl
  have e3 : Int.tmod (shr .u32 a 24) 256 % 256 = a / 16777216 % 256 := by rw [show shr .u32 a 24 = a / 16777216 from rfl, Int.tmod_eq_emod_of_nonneg (by omega)]; omega
  have e2 : Int.tmod (shr .u32 a 16) 256 % 256 = a / 65536 % 256 := by rw [show shr .u32 a 16 = a / 65536 from rfl, Int.tmod_eq_emod_of_nonneg (by omega)]; omega
  have e1 : Int.tmod (shr .u32 a 8) 256 % 256 = a / 256 % 256 := by rw [show shr .u32 a 8 = a / 256 from rfl, Int.tmod_eq_emod_of_nonneg (by omega)]; omega
  have e0 : Int.tmod (shr .u32 a 0) 256 % 256 = a % 256 := by rw [show shr .u32 a 0 = a / 1 from rfl, Int.tmod_eq_emod_of_nonneg (by omega)]; omega
  unfold tinderref05_EncodeInt.f
  unfold tinderref05_EncodeInt.l0
  rw [if_pos (by decide), q3, if_pos (by decide), if_pos (by decide), e3, s3]
  unfold tinderref05_EncodeInt.l0
  rw [if_pos (by decide), q2, if_pos (by decide), if_pos (by simp), e2, s2]
  unfold tinderref05_EncodeInt.l0
  rw [if_pos (by decide), q1, if_pos (by decide), if_pos (by simp), e1, s1]
  unfold tinderref05_EncodeInt.l0
  rw [if_pos (by decide), q0, if_pos (by decide), if_pos (by simp), e0, s0]
  unfold tinderref05_EncodeInt.l0
  rw [if_neg (by decide)]
  rfl
theorem four_ref (a : Int) (w : World) (h0 : 0 ≤ a) (h1 : a < 4294967296) : Calls Try.prog 40 #[.int .u32 a] w fun e w' => ∃ A c, e = .returned (.slice A 4 c) ∧ Kd.C (Kd.int .u8) w' A 4 (fourF a) ∧ Below w.heap.size w w' := by
  refine (tinderref05_EncodeInt.calls 5 a (fourF a) w (refEnc_eq a h0 h1)).mono ?_
  rintro e w' ⟨v, rfl, hR, hb⟩
  obtain ⟨A, c, rfl, hc, hC⟩ := Kd.R_reads hR
  exact ⟨A, c, rfl, hC, hb⟩
section
variable {ops : Array Oper} {rest : List Oper} {o : Oper} {a : Act} {Q : Exit → Act → World → Prop}
theorem app_bytes {w0 W : World} (hgd : o.guard = none) (s x : Operand) (ho : o.op = .call { callee := .builtin .append, args := #[s, x], argTypes := #[27, 27] })
    (v : Value) (xs ys : List Int) (A : Option Addr) (m c : Nat) (hs : a.eval s = v) (hx : a.eval x = .slice A m c) (HO : Kd.R (Kd.int .u8) 5 W w0.heap.size (fun _ => True) v xs) (HC : Kd.C (Kd.int .u8) W A m ys)
    (HB : Below w0.heap.size w0 W) (hl : xs.length + m ≤ 1000000)
    (h : ∀ v1 w1, Kd.R (Kd.int .u8) 5 w1 w0.heap.size (fun _ => True) v1 (xs ++ ys) → Below w0.heap.size w0 w1 → W.grownBy w1 v.ownBlock → wpList Try.prog ops Q rest (a.put o.dst v1) w1) : wpList Try.prog ops Q (o :: rest) a W :=
  Kd.R_append_rows (Kd.int .u8) (w0 := w0) w0.heap.size hgd s x 27 5 (.int .u8 0) 1 ho Try.underlying27 info5s rfl (by decide) (by omega) v xs ys _ _ _ (fun _ => True) (fun _ => False) hs hx HO HC (fun _ _ h => h) (fun _ h => h.elim) (fun _ _ => trivial) HB (below_size HB) (by omega) (fun v1 w1 h1 h2 h3 _ => h v1 w1 h1 h2 h3)
end
theorem C_lit {W : World} (L : List Int) (n : Nat) (hn : L.length = n) (hm : n ≤ 9223372036854775807) (t : TypeId) : Kd.C (Kd.int .u8) (W.alloc (.cells (byteCells L).toArray t)) (some ⟨W.heap.size, 0, none⟩) n L := C_blk (blk_new W _) n hn hm
theorem headF_snoc0 (ps : List Part) : headF (ps.take 0) = [] := by simp [headF]
set_option maxHeartbeats 8000000 in
set_option maxRecDepth 100000 in
theorem refBytes_calls (ps : List Part) (w : World) (hl : ps.length = 8) (hr : Parts ps) :
    Calls Try.prog 26 #[.agg (partCells ps).toArray] w fun e w' => ∃ v : Value, e = .returned v ∧ Kd.R (Kd.int .u8) 5 w' w.heap.size (fun _ => True) v (labelF ps) ∧ Below w.heap.size w w' := by
  obtain ⟨cs, hcs⟩ : ∃ cs, cs = partCells ps := ⟨_, rfl⟩
  obtain ⟨R, hR⟩ : ∃ R, R = labelF ps := ⟨_, rfl⟩
  have HR := Aside0.mk hR
  rw [← hcs, ← hR]
  clear hR
  have hL : cs.length = 16 := by rw [hcs, partCells_len, hl]
  have HL := Aside0.mk hL
  have HCS := Aside0.mk hcs
  have HPL := Aside0.mk hl
  have HPR := Aside0.mk hr
  clear hL hcs hl hr
  go_enter Try.func26, Try.ntmps26
  go_wp2_with (first
    | ((with_reducible refine gate_dst (N := 1) rfl ?_); refine box_event ?hg (N := 1) ?hd (cs := cs.toArray) (t := 25) ?hr ?_; (case hd => rfl); (case hg => rfl); (case hr => first | (go_simp; done) | (go_simp; rfl)); intro gb hg w1 hbox hb; have BK := Aside0.mk hbox; have HB := Aside0.mk hb; have GB := Aside0.mk (show w.heap.size ≤ gb from hg ▸ Nat.le_refl _); clear hbox hb hg))
  go_loopg [3, 4] 8 (fun kq v3 v4 w' => ∃ (i : Int) (L : List Int) (A3 : Option Addr) (c3 : Nat), v4 = .int .i64 i ∧ v3 = .slice A3 L.length c3 ∧ Aside0 (0 ≤ i ∧ i + kq = 8) ∧ Aside0 (L = headF (ps.take i.toNat)) ∧ Aside0 (Kd.R (Kd.int .u8) 5 w' w.heap.size (fun _ => True) (.slice A3 L.length c3) L) ∧ Aside0 (w'.heap[gb]? = some (.cells cs.toArray 25 (0, 0))) ∧ Aside0 (Below w.heap.size w w'))
  case atStart => exact ⟨0, [], none, 0, rfl, rfl, ⟨by omega, by omega⟩, ⟨(headF_snoc0 ps).symm⟩, ⟨Kd.R_nil _ _ _ _ _⟩, BK, HB⟩
  case round =>
    clear BK HB
    obtain ⟨i, L, A3, c3, rfl, rfl, HI, HLe, HO, BK, HB⟩ := hrel
    cases gk with
    | zero =>
      have hi8 : i = 8 := by have := HI.out; omega
      have hlt : decide (i < (8 : Int)) = false := decide_eq_false (by omega)
      have hLe := HLe.out
      rw [hi8, show (8 : Int).toNat = ps.length from HPL.out.symm, List.take_length] at hLe
      have hLl : L.length = 64 := by rw [hLe, headF_len, HPL.out]
      have HLe2 := Aside0.mk hLe
      have HLl := Aside0.mk hLl
      clear hLe hLl hi8 HLe
      clear HCS HPR BK GB
      go_wp2
      obtain ⟨B, hB⟩ : ∃ B, B = L ++ zerosL 444 := ⟨_, rfl⟩
      have HBd := Aside0.mk hB
      have hBo : bodyF ps = B ++ [218, 190] := by unfold bodyF; rw [hB, HLe2.out, headF_len, HPL.out]
      have HBo := Aside0.mk hBo
      clear hB hBo
      go_loopg [3] 444 (fun kq v3 w' => ∃ (M : List Int) (A4 : Option Addr) (c4 : Nat), v3 = .slice A4 M.length c4 ∧ Aside0 (M.length + kq = 508) ∧ Aside0 (M ++ zerosL kq = B) ∧ Aside0 (Kd.R (Kd.int .u8) 5 w' w.heap.size (fun _ => True) (.slice A4 M.length c4) M) ∧ Aside0 (Below w.heap.size w w'))
      case atStart => exact ⟨L, A3, c3, rfl, ⟨by have := HLl.out; omega⟩, ⟨HBd.out.symm⟩, HO, HB⟩
      case round =>
        clear HO HB
        obtain ⟨M, A4, c4, rfl, HM, HMB, HO, HB⟩ := hrel
        cases gk with
        | zero =>
          have hMl : M.length = 508 := HM.out
          have hlt2 : decide ((M.length : Int) < 508) = false := decide_eq_false (by omega)
          have hMB : M = B := by have := HMB.out; simpa [zerosL] using this
          obtain ⟨Y, hY⟩ : ∃ Y, Y = M ++ [218, 190] := ⟨_, rfl⟩
          have HYb := Aside0.mk (show bodyF ps = Y by rw [HBo.out, hY, hMB])
          have hYl : Y.length = 510 := by rw [hY, List.length_append, hMl]; rfl
          have HYl := Aside0.mk hYl
          have HY := Aside0.mk hY
          clear hMl hMB hY hYl HBo HBd HMB
          go_wp2_with (first
            | ((with_reducible refine gate_dst (N := 33) rfl ?_); refine box_sl ?hg (N := 33) ?hd (cs := (byteCells [218, 190]).toArray) (t := 5) (n := 2) ?hr ?_; (case hd => rfl); (case hg => rfl); (case hr => first | (go_simp; done) | (go_simp; rfl)); intro gl hg w3 hbox hb; have BK := Aside0.mk hbox; have HB3 := Aside0.mk (below_step HB.out hb); have HO3 := Aside0.mk (Kd.R_below HO.out hb); clear hbox hb hg)
            | ((with_reducible refine gate_dst (N := 34) rfl ?_); refine app_bytes (w0 := w) rfl (.tmp 32) (.tmp 33) rfl _ M [218, 190] _ 2 _ rfl rfl HO3.out (C_blk BK.out 2 rfl (by omega)) HB3.out (by have := HM.out; omega) ?_; intro v8 w8 hR8 hb8 hg8; have HO8 := Aside0.mk (show Kd.R (Kd.int .u8) 5 w8 w.heap.size (fun _ => True) v8 Y from HY.out ▸ hR8); have HB8 := Aside0.mk hb8; clear hR8 hb8 hg8))
          obtain ⟨A8, c8, hv8, hcc, _⟩ := Kd.R_reads HO8.out
          rw [HYl.out] at hv8
          subst hv8
          clear hcc BK HB3 HO3 HO HB
          go_loopg [5, 6, 7] 255 (fun kq v5 v6 v7 w' => ∃ (i x y : Int), v7 = .int .i64 i ∧ v5 = .int .u8 x ∧ v6 = .int .u8 y ∧ Aside0 (0 ≤ i ∧ i + 2 * kq = 510) ∧ Aside0 (crossAt Y i.toNat = (x, y)) ∧ Aside0 (Kd.R (Kd.int .u8) 5 w' w.heap.size (fun _ => True) (.slice A8 510 c8) Y) ∧ Aside0 (Below w.heap.size w w'))
          case atStart => exact ⟨0, 0, 0, rfl, rfl, rfl, ⟨by omega, by omega⟩, ⟨rfl⟩, HO8, HB8⟩
          case round =>
            clear HO8 HB8
            obtain ⟨j, x, y, rfl, rfl, rfl, HJ, HX, HO, HB⟩ := hrel
            cases gk with
            | zero =>
              have hj : j = 510 := by have := HJ.out; omega
              have hlt3 : decide (j < (510 : Int)) = false := decide_eq_false (by omega)
              have hX := HX.out
              rw [hj, show (510 : Int).toNat = Y.length from HYl.out.symm] at hX
              have hRR : R = Y ++ [x, y] := by rw [HR.out]; unfold labelF; rw [HYb.out]; unfold crossF; rw [hX]
              have HRR := Aside0.mk hRR
              clear hX hRR HX hj
              go_wp2_with (first
                | ((with_reducible refine gate_dst (N := 57) rfl ?_); refine box_sl ?hg (N := 57) ?hd (cs := (byteCells [x, y]).toArray) (t := 5) (n := 2) ?hr ?_; (case hd => rfl); (case hg => rfl); (case hr => first | (go_simp; done) | (go_simp; rfl)); intro gl hg w3 hbox hb; have BK := Aside0.mk hbox; have HB3 := Aside0.mk (below_step HB.out hb); have HO3 := Aside0.mk (Kd.R_below HO.out hb); clear hbox hb hg)
                | ((with_reducible refine gate_dst (N := 58) rfl ?_); refine app_bytes (w0 := w) rfl (.tmp 54) (.tmp 57) rfl _ Y [x, y] _ 2 _ rfl rfl HO3.out (C_blk (L := [x, y]) BK.out 2 rfl (by omega)) HB3.out (by have := HYl.out; omega) ?_; intro v8 w8 hR8 hb8 hg8; have HO8 := Aside0.mk hR8; have HB8 := Aside0.mk hb8; clear hR8 hb8 hg8))
              go_ret
              exact ⟨_, rfl, HRR.out ▸ HO8.out, HB8.out⟩
            | succ k3 =>
              have hj := HJ.out
              have hY := HYl.out
              have hlt3 : decide (j < (510 : Int)) = true := decide_eq_true (by omega)
              have q1 : (0 ≤ j) = True := eq_true (by omega)
              have q2 : (j < 510) = True := eq_true (by omega)
              have q3 : (0 ≤ j + 1) = True := eq_true (by omega)
              have q4 : (j + 1 < 510) = True := eq_true (by omega)
              have q5 : wrap64 (j + 1) = j + 1 := by unfold wrap64; omega
              have q7 : IntKind.i64.wrap (j + 1) = j + 1 := (i64_w _).trans q5
              have q6 : wrap64 (j + 2) = j + 2 := by unfold wrap64; omega
              have hC := (Kd.R_reads' HO.out).2.2
              obtain ⟨ad, eA, hx0⟩ := Kd.at_int hC j (by omega) (by omega)
              cases eA
              obtain ⟨ad2, eA2, hx1⟩ := Kd.at_int hC (j + 1) (by omega) (by omega)
              cases eA2
              have he1 := cross_even Y j.toNat (by omega)
              have he2 := cross_odd Y (j.toNat + 1) (by omega)
              rw [he1, HX.out] at he2
              rw [show j.toNat + 1 + 1 = (j + 2).toNat by omega] at he2
              rw [show (j.toNat + 1 : Nat) = (j + 1).toNat by omega] at he2
              have HE := Aside0.mk he2
              have HJ1 := Aside0.mk hj
              clear hj hY hC he1 he2
              go_wp2
              refine start_ (n := 15) (S := fun w' => w'.cell? (ad.add j.toNat) = some (.int .u8 (rd Y j)) ∧ w'.cell? (ad.add (j + 1).toNat) = some (.int .u8 (rd Y (j + 1)))) (ds := []) #[false, false, false, false, false, false, false, false, false, false, false, false, false, false, false] (by kernel_rfl) rfl rfl ⟨hx0, hx1⟩ (fun hHeld => ?_)
              refine pure_ (i := 0) (N := some 41) (v := ?_) (a' := ?_) #[true, false, false, false, false, false, false, false, false, false, false, false, false, false, false] rfl rfl (by kernel_rfl) (fun _ _ _ h => h) (Or.inl ⟨by rfl, ?_⟩) ?_ ?_
              rotate_left
              · intro w'
                go_simp
                with_reducible rfl
              rotate_left
              · simp only [Act.put, List.setIfInBounds_toArray, List.set_cons_zero, List.set_cons_succ]
                rfl
              refine pure_ (i := 1) (N := some 42) (v := ?_) (a' := ?_) #[true, true, false, false, false, false, false, false, false, false, false, false, false, false, false] rfl rfl (by kernel_rfl) (fun _ _ _ h => h) (Or.inl ⟨by rfl, ?_⟩) ?_ ?_
              rotate_left
              · intro w'
                go_simp
                with_reducible rfl
              rotate_left
              · simp only [Act.put, List.setIfInBounds_toArray, List.set_cons_zero, List.set_cons_succ]
                rfl
              refine pure_ (i := 2) (N := some 43) (v := ?_) (a' := ?_) #[true, true, true, false, false, false, false, false, false, false, false, false, false, false, false] rfl rfl (by kernel_rfl) (fun _ _ _ h => h) (Or.inl ⟨by rfl, ?_⟩) ?_ ?_
              rotate_left
              · intro w'
                go_simp
                with_reducible rfl
              rotate_left
              · simp only [Act.put, List.setIfInBounds_toArray, List.set_cons_zero, List.set_cons_succ]
                rfl
              refine pure_ (i := 3) (N := some 44) (v := ?_) (a' := ?_) #[true, true, true, true, false, false, false, false, false, false, false, false, false, false, false] rfl rfl (by kernel_rfl) (fun _ _ _ h => h) (Or.inl ⟨by rfl, ?_⟩) ?_ ?_
              rotate_left
              · intro w'
                go_simp
                with_reducible rfl
              rotate_left
              · simp only [Act.put, List.setIfInBounds_toArray, List.set_cons_zero, List.set_cons_succ]
                rfl
              refine take_ (i := 4) (N := some 45) (v := .int .u8 (rd Y j)) (a' := ?_) #[true, true, true, true, true, false, false, false, false, false, false, false, false, false, false] rfl rfl (by kernel_rfl) (fun _ _ _ h => h) (Or.inl ⟨by rfl, ?_⟩) hHeld ?_ ?_
              rotate_left
              rotate_left
              · simp only [Act.put, List.setIfInBounds_toArray, List.set_cons_zero, List.set_cons_succ]
                rfl
              rotate_left
              · rintro w' ⟨s0, s1⟩
                go_simp
              refine pure_ (i := 5) (N := some 46) (v := ?_) (a' := ?_) #[true, true, true, true, true, true, false, false, false, false, false, false, false, false, false] rfl rfl (by kernel_rfl) (fun _ _ _ h => h) (Or.inl ⟨by rfl, ?_⟩) ?_ ?_
              rotate_left
              · intro w'
                go_simp
                with_reducible rfl
              rotate_left
              · simp only [Act.put, List.setIfInBounds_toArray, List.set_cons_zero, List.set_cons_succ]
                rfl
              refine pure_ (i := 6) (N := some 47) (v := ?_) (a' := ?_) #[true, true, true, true, true, true, true, false, false, false, false, false, false, false, false] rfl rfl (by kernel_rfl) (fun _ _ _ h => h) (Or.inl ⟨by rfl, ?_⟩) ?_ ?_
              rotate_left
              · intro w'
                go_simp
                with_reducible rfl
              rotate_left
              · simp only [Act.put, List.setIfInBounds_toArray, List.set_cons_zero, List.set_cons_succ]
                rfl
              refine pure_ (i := 7) (N := some 48) (v := ?_) (a' := ?_) #[true, true, true, true, true, true, true, true, false, false, false, false, false, false, false] rfl rfl (by kernel_rfl) (fun _ _ _ h => h) (Or.inl ⟨by rfl, ?_⟩) ?_ ?_
              rotate_left
              · intro w'
                go_simp
                with_reducible rfl
              rotate_left
              · simp only [Act.put, List.setIfInBounds_toArray, List.set_cons_zero, List.set_cons_succ]
                rfl
              refine pure_ (i := 8) (N := some 49) (v := ?_) (a' := ?_) #[true, true, true, true, true, true, true, true, true, false, false, false, false, false, false] rfl rfl (by kernel_rfl) (fun _ _ _ h => h) (Or.inl ⟨by rfl, ?_⟩) ?_ ?_
              rotate_left
              · intro w'
                go_simp
                with_reducible rfl
              rotate_left
              · simp only [Act.put, List.setIfInBounds_toArray, List.set_cons_zero, List.set_cons_succ]
                rfl
              refine pure_ (i := 9) (N := some 50) (v := ?_) (a' := ?_) #[true, true, true, true, true, true, true, true, true, true, false, false, false, false, false] rfl rfl (by kernel_rfl) (fun _ _ _ h => h) (Or.inl ⟨by rfl, ?_⟩) ?_ ?_
              rotate_left
              · intro w'
                go_simp
                with_reducible rfl
              rotate_left
              · simp only [Act.put, List.setIfInBounds_toArray, List.set_cons_zero, List.set_cons_succ]
                rfl
              refine pure_ (i := 10) (N := some 51) (v := ?_) (a' := ?_) #[true, true, true, true, true, true, true, true, true, true, true, false, false, false, false] rfl rfl (by kernel_rfl) (fun _ _ _ h => h) (Or.inl ⟨by rfl, ?_⟩) ?_ ?_
              rotate_left
              · intro w'
                go_simp
                with_reducible rfl
              rotate_left
              · simp only [Act.put, List.setIfInBounds_toArray, List.set_cons_zero, List.set_cons_succ]
                rfl
              refine take_ (i := 11) (N := some 52) (v := .int .u8 (rd Y (j + 1))) (a' := ?_) #[true, true, true, true, true, true, true, true, true, true, true, true, false, false, false] rfl rfl (by kernel_rfl) (fun _ _ _ h => h) (Or.inl ⟨by rfl, ?_⟩) hHeld ?_ ?_
              rotate_left
              rotate_left
              · simp only [Act.put, List.setIfInBounds_toArray, List.set_cons_zero, List.set_cons_succ]
                rfl
              rotate_left
              · rintro w' ⟨s0, s1⟩
                go_simp
              refine pure_ (i := 12) (N := some 53) (v := ?_) (a' := ?_) #[true, true, true, true, true, true, true, true, true, true, true, true, true, false, false] rfl rfl (by kernel_rfl) (fun _ _ _ h => h) (Or.inl ⟨by rfl, ?_⟩) ?_ ?_
              rotate_left
              · intro w'
                go_simp
                with_reducible rfl
              rotate_left
              · simp only [Act.put, List.setIfInBounds_toArray, List.set_cons_zero, List.set_cons_succ]
                rfl
              refine pure_ (i := 13) (N := some 5) (v := ?_) (a' := ?_) #[true, true, true, true, true, true, true, true, true, true, true, true, true, true, false] rfl rfl (by kernel_rfl) (fun _ _ _ h => h) (Or.inl ⟨by rfl, ?_⟩) ?_ ?_
              rotate_left
              · intro w'
                go_simp
                with_reducible rfl
              rotate_left
              · simp only [Act.put, List.setIfInBounds_toArray, List.set_cons_zero, List.set_cons_succ]
                rfl
              refine pure_ (i := 14) (N := some 6) (v := ?_) (a' := ?_) #[true, true, true, true, true, true, true, true, true, true, true, true, true, true, true] rfl rfl (by kernel_rfl) (fun _ _ _ h => h) (Or.inl ⟨by rfl, ?_⟩) ?_ ?_
              rotate_left
              · intro w'
                go_simp
                with_reducible rfl
              rotate_left
              · simp only [Act.put, List.setIfInBounds_toArray, List.set_cons_zero, List.set_cons_succ]
                rfl
              refine done_ (n := 0) (by kernel_rfl) ?_
              go_wp2
              go_roundg k3
              case measure => omega
              case rel =>
                have hj := HJ1.out
                exact ⟨j + 2, _, _, congrArg (Value.int .i64) q6, rfl, rfl, ⟨by omega, by omega⟩, HE, HO, ⟨pw_below_drewN HB.out 1⟩⟩
        | succ k2 =>
          have hM := HM.out
          have hlt2 : decide ((M.length : Int) < 508) = true := decide_eq_true (by omega)
          clear hM
          go_wp2_with (first
            | ((with_reducible refine gate_dst (N := 30) rfl ?_); refine box_sl ?hg (N := 30) ?hd (cs := (byteCells [0]).toArray) (t := 5) (n := 1) ?hr ?_; (case hd => rfl); (case hg => rfl); (case hr => first | (go_simp; done) | (go_simp; rfl)); intro gl hg w3 hbox hb; have BK := Aside0.mk hbox; have HB3 := Aside0.mk (below_step HB.out hb); have HO3 := Aside0.mk (Kd.R_below HO.out hb); clear hbox hb hg)
            | ((with_reducible refine gate_dst (N := 31) rfl ?_); refine app_bytes (w0 := w) rfl (.tmp 29) (.tmp 30) rfl _ M [0] _ 1 _ rfl rfl HO3.out (C_blk BK.out 1 rfl (by omega)) HB3.out (by have := HM.out; omega) ?_; intro v8 w8 hR8 hb8 hg8; have HO8 := Aside0.mk hR8; have HB8 := Aside0.mk hb8; clear hR8 hb8 hg8))
          go_roundg k2
          case measure => omega
          case rel =>
            obtain ⟨A10, c10, rfl⟩ := Kd.R_slice HO8.out
            refine ⟨M ++ [0], A10, c10, rfl, ⟨?_⟩, ⟨?_⟩, HO8, HB8⟩
            · have := HM.out; rw [List.length_append]; show _ + 1 + _ = _; omega
            · rw [← HMB.out, List.append_assoc]; rfl
    | succ k1 =>
      have hi := HI.out
      have hlt : decide (i < (8 : Int)) = true := decide_eq_true (by omega)
      have hw2 : wrap64 (i + 1) = i + 1 := by unfold wrap64; omega
      have p1 : (0 ≤ i) = True := eq_true (by omega)
      have p2 : (i < 8) = True := eq_true (by omega)
      obtain ⟨s, hs⟩ : ∃ s, s = (ps.getD i.toNat (0, 0)).1 := ⟨_, rfl⟩
      obtain ⟨c, hc⟩ : ∃ c, c = (ps.getD i.toNat (0, 0)).2 := ⟨_, rfl⟩
      have hg := partCells_get ps i.toNat (by have := HPL.out; omega)
      have hrg := HPR.out.at_ i.toNat (by have := HPL.out; omega)
      rw [← hs, ← hc, ← HCS.out] at hg
      rw [← hs, ← hc] at hrg
      have hc0 : wr.cell? ⟨gb, i.toNat * 2, none⟩ = some (.int .u32 s) := by rw [blk_cell BK.out, Nat.mul_comm]; simpa using hg.1
      have HG := Aside0.mk hg
      have HRG := Aside0.mk hrg
      have HI1 := Aside0.mk hi
      have HS := Aside0.mk hs
      have HC := Aside0.mk hc
      have HLl := Aside0.mk (show L.length = 8 * i.toNat by rw [HLe.out, headF_len, List.length_take, HPL.out]; omega)
      clear hg hi hs hc hrg
      go_wp2_with (first
        | (go_at_call 40; (with_reducible refine (four_ref s _ HRG.out.1.1 HRG.out.1.2).mono ?_); rintro e w7 ⟨A7, c7, rfl, hC, hb⟩; have HC7 := Aside0.mk hC; have HB7 := Aside0.mk (below_step HB.out hb); have HO7 := Aside0.mk (Kd.R_below HO.out hb); have BK7 := Aside0.mk (blk_below BK.out hb); clear hC hb)
        | ((with_reducible refine gate_dst (N := 18) rfl ?_); refine app_bytes (w0 := w) rfl (.tmp 12) (.tmp 17) rfl _ L (fourF s) _ 4 _ rfl rfl HO7.out HC7.out HB7.out (by have := HLl.out; have := HI1.out; omega) ?_; intro v8 w8 hR8 hb8 hg8; have HO8 := Aside0.mk hR8; have HB8 := Aside0.mk hb8; have BK8 := Aside0.mk (blk_grown BK7.out hg8 (Kd.R_ne HO7.out BK7.out (by decide))); have hc8 : w8.cell? ⟨gb, i.toNat * 2 + 1, none⟩ = some (.int .u32 c) := (by rw [blk_cell BK8.out, Nat.mul_comm]; simpa using HG.out.2); clear hR8 hb8 hg8)
        | (go_at_call 40; (with_reducible refine (four_ref c _ HRG.out.2.1 HRG.out.2.2).mono ?_); rintro e w9 ⟨A9, c9, rfl, hC, hb⟩; have HC9 := Aside0.mk hC; have HB9 := Aside0.mk (below_step HB8.out hb); have HO9 := Aside0.mk (Kd.R_below HO8.out hb); have BK9 := Aside0.mk (blk_below BK8.out hb); clear hC hb)
        | ((with_reducible refine gate_dst (N := 25) rfl ?_); refine app_bytes (w0 := w) rfl (.tmp 19) (.tmp 24) rfl _ (L ++ fourF s) (fourF c) _ 4 _ rfl rfl HO9.out HC9.out HB9.out (by rw [List.length_append, HLl.out]; show _ + 4 + 4 ≤ _; have := HI1.out; omega) ?_; intro v10 w10 hR8 hb8 hg8; have HO10 := Aside0.mk hR8; have HB10 := Aside0.mk hb8; have BK10 := Aside0.mk (blk_grown BK9.out hg8 (Kd.R_ne HO9.out BK9.out (by decide))); clear hR8 hb8 hg8))
      go_roundg k1
      case measure => omega
      case rel =>
        have hi := HI1.out
        have hps := HPL.out
        obtain ⟨A10, c10, rfl⟩ := Kd.R_slice HO10.out
        refine ⟨i + 1, L ++ fourF s ++ fourF c, A10, c10, congrArg (Value.int .i64) hw2, rfl, ⟨by omega, by omega⟩, ⟨?_⟩, HO10, BK10, HB10⟩
        rw [show (i + 1).toNat = i.toNat + 1 by omega, headF_take_succ ps i.toNat (by omega), HLe.out, HS.out, HC.out]
end Go.Proofs.Ytnbomjfpnpmllaa.Q
end
section
set_option linter.unusedSimpArgs false
set_option linter.unusedVariables false
namespace Go.Proofs.Ytnbomjfpnpmllaa.Q
open Go.RowKit Go.Proofs.YtnbomjfpnpmllaaW.PrintWords Go.Proofs.YtnbomjfpnpmllaaW.PrintLast Go.Proofs.YtnbomjfpnpmllaaW.PrintMore
def noParts : List Part := List.replicate 8 (0, 0)
def PCell (w : World) (g : Nat) (ps : List Part) : Prop := w.heap[g]? = some (.cells (partCells ps).toArray 25 (0, 0))
theorem alloc25 (h : Bool) (W : World) : (Instr.alloc 25 h undef).run Try.prog W = .ok (.pointer (some ⟨W.heap.size, 0, none⟩)) (W.alloc (.cells (partCells noParts).toArray 25 (0, 0))) := by
  cases h <;> kernel_rfl
theorem PCell.get0 {w : World} {g : Nat} {ps : List Part} (h : PCell w g ps) (i : Nat) (hi : i < ps.length) : w.cell? ⟨g, i * 2, none⟩ = some (.int .u32 (ps.getD i (0, 0)).1) := by
  rw [blk_cell h, Nat.mul_comm]; simpa using (partCells_get ps i hi).1
theorem PCell.get1 {w : World} {g : Nat} {ps : List Part} (h : PCell w g ps) (i : Nat) (hi : i < ps.length) : w.cell? ⟨g, i * 2 + 1, none⟩ = some (.int .u32 (ps.getD i (0, 0)).2) := by
  rw [blk_cell h, Nat.mul_comm]; simpa using (partCells_get ps i hi).2
theorem partCells_set0 (ps : List Part) (i : Nat) (hi : i < ps.length) (a : Int) : (partCells ps).set (2 * i) (.int .u32 a) = partCells (ps.set i (a, (ps.getD i (0, 0)).2)) := by
  induction ps generalizing i with
  | nil => simp at hi
  | cons p ps ih =>
    cases i with
    | zero => rfl
    | succ i =>
      have := ih i (by simpa using hi)
      simp only [partCells, List.flatMap_cons, List.set_cons_succ] at this ⊢
      rw [show 2 * (i + 1) = 2 * i + 1 + 1 by omega]
      simpa using this
theorem partCells_set1 (ps : List Part) (i : Nat) (hi : i < ps.length) (a : Int) : (partCells ps).set (2 * i + 1) (.int .u32 a) = partCells (ps.set i ((ps.getD i (0, 0)).1, a)) := by
  induction ps generalizing i with
  | nil => simp at hi
  | cons p ps ih =>
    cases i with
    | zero => rfl
    | succ i =>
      have := ih i (by simpa using hi)
      simp only [partCells, List.flatMap_cons, List.set_cons_succ] at this ⊢
      rw [show 2 * (i + 1) = 2 * i + 1 + 1 by omega]
      simpa using this
theorem PCell.set0 {w : World} {g : Nat} {ps : List Part} (h : PCell w g ps) (i : Nat) (hi : i < ps.length) (a : Int) : PCell (w.setCell ⟨g, i * 2, none⟩ (.int .u32 a)) g (ps.set i (a, (ps.getD i (0, 0)).2)) :=
  blk_put h (i * 2) (.int .u32 a) (by rw [← partCells_set0 ps i hi, Nat.mul_comm]; simp)
theorem PCell.set1 {w : World} {g : Nat} {ps : List Part} (h : PCell w g ps) (i : Nat) (hi : i < ps.length) (a : Int) : PCell (w.setCell ⟨g, i * 2 + 1, none⟩ (.int .u32 a)) g (ps.set i ((ps.getD i (0, 0)).1, a)) :=
  blk_put h (i * 2 + 1) (.int .u32 a) (by rw [← partCells_set1 ps i hi, Nat.mul_comm]; simp)
theorem PCell.below {w w1 : World} {g : Nat} {ps : List Part} (h : PCell w g ps) (hb : Below w.heap.size w w1) : PCell w1 g ps := blk_below h hb
theorem run_store_parts {P : Program} (hi : (P.info? 25).map (·.size) = some 16) {w : World} {g : Nat} {cur cs : List Value} (hg : w.heap[g]? = some (.cells cur.toArray 25 (0, 0))) (hc : cur.length = 16) (hl : cs.length = 16) (h1 : ∀ v ∈ cs, v.oneCell' = true) :
    (Instr.storeAt 25 (.pointer (some ⟨g, 0, none⟩)) (.agg cs.toArray)).run P w = .ok () (w.setRow g cs.toArray) := by
  obtain ⟨i0, hi0, hsz⟩ := Option.map_eq_some_iff.1 hi
  have hst := run_storeCells_at P g 0 25 cs 0 cur.toArray w hg (by simp; omega) h1
  simp only [Nat.zero_add, List.take_zero, List.nil_append, List.drop_of_length_le (l := cur) (i := cs.length) (by omega), List.append_nil] at hst
  simp [Instr.storeAt, Instr.sureAddr, storeVar, sizeOf, typeInfo, hi0, hsz, Value.cells, hl, hst]
theorem store_parts {ops : Array Oper} {rest : List Oper} {o : Oper} {a : Act} {Q : Exit → Act → World → Prop} {w : World} (hgd : o.guard = none) (x y : Operand) (ho : o.op = .store 25 x y) (g : Nat) (qs ps : List Part)
    (hx : a.eval x = .pointer (some ⟨g, 0, none⟩)) (hy : a.eval y = .agg (partCells ps).toArray) (hg : PCell w g qs) (hq : qs.length = 8) (hl : ps.length = 8)
    (h : ∀ w1, PCell w1 g ps → w.grownBy w1 (some g) → wpList Try.prog ops Q rest (a.put o.dst undef) w1) : wpList Try.prog ops Q (o :: rest) a w := by
  have hr := run_store_parts (P := Try.prog) size25 hg (by rw [partCells_len]; omega) (by rw [partCells_len]; omega) (partCells_one ps)
  refine wpList_plain hgd fun K hK => ?_
  unfold Oper.wp execOp
  simp only [ho, hx, hy, Sem.run_bind, hr, Result.andThen_ok, Sem.run_pure]
  exact hK _ _ (h _ (setRow_heap w g _ _ 25 (0, 0) hg) (setRow_grown _ _ _))
theorem load_parts {ops : Array Oper} {rest : List Oper} {o : Oper} {a : Act} {Q : Exit → Act → World → Prop} {w : World} (hgd : o.guard = none) (x : Operand) (ho : o.op = .load 25 x) (g : Nat) (ps : List Part)
    (hx : a.eval x = .pointer (some ⟨g, 0, none⟩)) (hg : PCell w g ps) (hl : ps.length = 8) (h : wpList Try.prog ops Q rest (a.put o.dst (.agg (partCells ps).toArray)) w) : wpList Try.prog ops Q (o :: rest) a w :=
  wpList_load_any hgd 25 x ho ⟨g, 0, none⟩ hx (partCells ps) (.array 8 24) (fun j v hv => by rw [Addr.add_mid, Nat.zero_add, blk_cell hg]; simpa using hv) Try.underlying25 rfl (by rw [partCells_len, hl]; exact size25) h
theorem results_parts {fn : Func} {p u : Tmp} (h : fn.results = #[.cell p 25, .tmp u]) (tmps : Array Value) (w : World) (g : Nat) (ps : List Part) (hp : tmps.getD p undef = .pointer (some ⟨g, 0, none⟩)) (hg : PCell w g ps) (hl : ps.length = 8) :
    (results fn tmps).run Try.prog w = .ok (.tuple #[.agg (partCells ps).toArray, tmps.getD u undef]) w :=
  results_ct h tmps w g 25 _ (0, 0) (.array 8 24) hp hg Try.underlying25 rfl (by rw [List.size_toArray, partCells_len, hl]; exact size25)
theorem noParts_len : noParts.length = 8 := rfl
end Go.Proofs.Ytnbomjfpnpmllaa.Q
end
section
set_option linter.unusedSimpArgs false
set_option linter.unusedVariables false
namespace Go.Proofs.Ytnbomjfpnpmllaa.Q
open Go.RowKit Go.Proofs.YtnbomjfpnpmllaaW.PrintWords Go.Proofs.YtnbomjfpnpmllaaW.PrintLast Go.Proofs.YtnbomjfpnpmllaaW.PrintMore
def decAt (l : List Int) : Nat → Int
  | 0 => 0
  | i + 1 => (decAt l i * 256 % 4294967296 + rd l i % 4294967296) % 4294967296
def numB (l : List Int) : Int := decAt l 4
set_option maxHeartbeats 4000000 in
set_option maxRecDepth 100000 in
theorem dec_at (A : Option Addr) (c n : Nat) (l : List Int) (w : World) (hC : Kd.C (Kd.int .u8) w A n l) (hn : 4 ≤ n) (hnc : n ≤ c) :
    Calls Try.prog 30 #[.slice A n c] w fun e w' => ∃ v : Value, e = .returned (.tuple #[.int .u32 (numB l), v, .int .i64 0]) ∧ Below w.heap.size w w' := by
  have hl : l.length = n := hC.1
  have hn63 : n ≤ 9223372036854775807 := hC.2.1
  have HC := Aside0.mk hC
  have HN := Aside0.mk (And.intro hn hnc)
  have hlt0 : decide ((n : Int) < 4) = false := decide_eq_false (by omega)
  obtain ⟨R, hR⟩ : ∃ R, R = numB l := ⟨_, rfl⟩
  have HR := Aside0.mk hR
  rw [← hR]
  have HN63 := Aside0.mk hn63
  have HL := Aside0.mk hl
  clear hC hn hnc hl hR hn63
  go_enter Try.func30, Try.ntmps30
  go_wp2
  go_loopg [5, 6] 4 (fun kq v5 v6 w' => ∃ (i x : Int), v6 = .int .i64 i ∧ v5 = .int .u32 x ∧ Aside0 (0 ≤ i ∧ i + kq = 4) ∧ Aside0 (x = decAt l i.toNat) ∧ Aside0 (Below w.heap.size w w'))
  case atStart => exact ⟨0, 0, rfl, rfl, ⟨by omega, by omega⟩, ⟨rfl⟩, ⟨Below.refl _ _⟩⟩
  case round =>
    obtain ⟨i, x, rfl, rfl, HI, HX, HB⟩ := hrel
    cases gk with
    | zero =>
      have hi4 : i = 4 := by have := HI.out; omega
      have hlt : decide (i < (4 : Int)) = false := decide_eq_false (by omega)
      have hX := HX.out
      rw [hi4] at hX
      have HRX := Aside0.mk (show R = x by rw [HR.out, hX]; rfl)
      have q1 : ((4 : Int) ≤ (n : Int)) = True := eq_true (by have := HN.out; omega)
      clear hX hi4 HX
      go_wp2
      refine start_ (n := 6) (S := fun _ => True) (ds := []) #[false, false, false, false, false, false] (by kernel_rfl) rfl rfl trivial (fun hHeld => ?_)
      refine pure_ (i := 0) (N := some 22) (v := ?_) (a' := ?_) #[true, false, false, false, false, false] rfl rfl (by kernel_rfl) (fun _ _ _ h => h) (Or.inl ⟨by rfl, ?_⟩) ?_ ?_
      rotate_left
      · intro w'
        go_simp
        with_reducible rfl
      rotate_left
      · simp only [Act.put, List.setIfInBounds_toArray, List.set_cons_zero, List.set_cons_succ]
        rfl
      refine pure_ (i := 1) (N := some 23) (v := ?_) (a' := ?_) #[true, true, false, false, false, false] rfl rfl (by kernel_rfl) (fun _ _ _ h => h) (Or.inl ⟨by rfl, ?_⟩) ?_ ?_
      rotate_left
      · intro w'
        go_simp
        with_reducible rfl
      rotate_left
      · simp only [Act.put, List.setIfInBounds_toArray, List.set_cons_zero, List.set_cons_succ]
        rfl
      refine pure_ (i := 2) (N := some 24) (v := ?_) (a' := ?_) #[true, true, true, false, false, false] rfl rfl (by kernel_rfl) (fun _ _ _ h => h) (Or.inl ⟨by rfl, ?_⟩) ?_ ?_
      rotate_left
      · intro w'
        go_simp
        with_reducible rfl
      rotate_left
      · simp only [Act.put, List.setIfInBounds_toArray, List.set_cons_zero, List.set_cons_succ]
        rfl
      refine pure_ (i := 3) (N := some 2) (v := ?_) (a' := ?_) #[true, true, true, true, false, false] rfl rfl (by kernel_rfl) (fun _ _ _ h => h) (Or.inl ⟨by rfl, ?_⟩) ?_ ?_
      rotate_left
      · intro w'
        go_simp
        with_reducible rfl
      rotate_left
      · simp only [Act.put, List.setIfInBounds_toArray, List.set_cons_zero, List.set_cons_succ]
        rfl
      refine pure_ (i := 4) (N := some 3) (v := ?_) (a' := ?_) #[true, true, true, true, true, false] rfl rfl (by kernel_rfl) (fun _ _ _ h => h) (Or.inl ⟨by rfl, ?_⟩) ?_ ?_
      rotate_left
      · intro w'
        go_simp
        with_reducible rfl
      rotate_left
      · simp only [Act.put, List.setIfInBounds_toArray, List.set_cons_zero, List.set_cons_succ]
        rfl
      refine pure_ (i := 5) (N := some 4) (v := ?_) (a' := ?_) #[true, true, true, true, true, true] rfl rfl (by kernel_rfl) (fun _ _ _ h => h) (Or.inl ⟨by rfl, ?_⟩) ?_ ?_
      rotate_left
      · intro w'
        go_simp
        with_reducible rfl
      rotate_left
      · simp only [Act.put, List.setIfInBounds_toArray, List.set_cons_zero, List.set_cons_succ]
        rfl
      refine done_ (n := 0) (by kernel_rfl) ?_
      go_wp2
      all_goals exact bodyPost_ret (results_tmp3 rfl _ _ _) rfl ⟨⟨_, by rw [HRX.out]; rfl⟩, pw_below_drewN HB.out 1⟩
    | succ k1 =>
      have hi := HI.out
      have hlt : decide (i < (4 : Int)) = true := decide_eq_true (by omega)
      have hw2 : wrap64 (i + 1) = i + 1 := by unfold wrap64; omega
      have hN := HN.out
      have p1 : (0 ≤ i) = True := eq_true (by omega)
      have p2 : (i < (n : Int)) = True := eq_true (by omega)
      obtain ⟨ad, eA, hx⟩ := Kd.at_int (Kd.C_below HC.out HB.out) i (by omega) (by omega)
      cases eA
      have hD : decAt l (i + 1).toNat = (x * 256 % 4294967296 + rd l i % 4294967296) % 4294967296 := by
        rw [show (i + 1).toNat = i.toNat + 1 by omega, decAt, HX.out, show ((i.toNat : Nat) : Int) = i by omega]
      have HD := Aside0.mk hD
      have HI1 := Aside0.mk hi
      clear hi hN hD
      go_wp2
      go_roundg k1
      case measure => omega
      case rel =>
        have hi := HI1.out
        exact ⟨i + 1, _, congrArg (Value.int .i64) hw2, rfl, ⟨by omega, by omega⟩, ⟨HD.out.symm⟩, HB⟩
end Go.Proofs.Ytnbomjfpnpmllaa.Q
end
section
namespace Go.Proofs.Ytnbomjfpnpmllaa.Q
open Go.RowKit Go.Proofs.YtnbomjfpnpmllaaW.PrintWords Go.Proofs.YtnbomjfpnpmllaaW.PrintLast Go.Proofs.YtnbomjfpnpmllaaW.PrintMore
set_option linter.unusedVariables false
set_option linter.unusedSimpArgs false

attribute [local go_sem] max2_int min2_int max_two min_two max_three min_three max_four min_four
/-! ### prop_number: function 43 -/
def prop_number.f (l0 : List Int) : Option (Int) := if 0 < (l0.length : Int) then (if 1 < (l0.length : Int) then (if 2 < (l0.length : Int) then (if 3 < (l0.length : Int) then (some (Go.bits .or .u32 (Go.bits .or .u32 (Go.bits .or .u32 ((((rd l0 0) % 4294967296) * 16777216) % 4294967296) ((((rd l0 1) % 4294967296) * 65536) % 4294967296)) ((((rd l0 2) % 4294967296) * 256) % 4294967296)) ((rd l0 3) % 4294967296))) else (none)) else (none)) else (none)) else (none)
set_option maxHeartbeats 8000000 in
set_option maxRecDepth 100000 in
theorem prop_number.calls (A0 : Option Addr) (c0 : Nat) (l0 : List Int) (r : Int) (w : World) (hr0 : Kd.C (Kd.int .u8) w A0 l0.length l0) (hc0 : l0.length ≤ c0) (h : prop_number.f l0 = some r) :
    Calls Try.prog 43 #[.slice A0 l0.length c0] w fun e w' => e = .returned (.int .u32 r) ∧ Drawn0 w w' := by
  have HR0 := Aside0.mk hr0
  have HC0 := Aside0.mk hc0
  clear hr0 hc0
  have H : (if 0 < (l0.length : Int) then (if 1 < (l0.length : Int) then (if 2 < (l0.length : Int) then (if 3 < (l0.length : Int) then (some (Go.bits .or .u32 (Go.bits .or .u32 (Go.bits .or .u32 ((((rd l0 0) % 4294967296) * 16777216) % 4294967296) ((((rd l0 1) % 4294967296) * 65536) % 4294967296)) ((((rd l0 2) % 4294967296) * 256) % 4294967296)) ((rd l0 3) % 4294967296))) else (none)) else (none)) else (none)) else (none)) = some r := h
  clear h
  by_cases c2 : 0 < (l0.length : Int)
  · rw [if_pos c2] at H
    have c2b0 : decide (0 < (l0.length : Int)) = true := decide_eq_true c2
    have c2b1 : decide (0 < l0.length) = true := decide_eq_true (by omega)
    clear c2
    by_cases c3 : 1 < (l0.length : Int)
    · rw [if_pos c3] at H
      have c3b0 : decide (1 < (l0.length : Int)) = true := decide_eq_true c3
      have c3b1 : decide (1 < l0.length) = true := decide_eq_true (by omega)
      clear c3
      by_cases c4 : 2 < (l0.length : Int)
      · rw [if_pos c4] at H
        have c4b0 : decide (2 < (l0.length : Int)) = true := decide_eq_true c4
        have c4b1 : decide (2 < l0.length) = true := decide_eq_true (by omega)
        clear c4
        by_cases c5 : 3 < (l0.length : Int)
        · rw [if_pos c5] at H
          have c5b0 : decide (3 < (l0.length : Int)) = true := decide_eq_true c5
          have c5b1 : decide (3 < l0.length) = true := decide_eq_true (by omega)
          clear c5
          obtain rfl := Option.some.inj H
          have p44001 : 0 ≤ (0 : Int) := (by omega)
          have q44001 : 0 < (l0.length : Int) := of_decide_eq_true (by first | (with_reducible assumption) | assumption)
          obtain ⟨ad44001, e44001, hx44001_0⟩ := Kd.at_int HR0.out 0 p44001 q44001
          cases e44001
          have qi44001 : (0 < l0.length) = True := eq_true (by omega)
          (try rw [show ((0 : Int)).toNat = 0 from rfl] at hx44001_0)
          (try rw [Addr.add_zero'] at hx44001_0)
          replace p44001 := eq_true p44001
          replace q44001 := eq_true q44001
          have p44002 : 0 ≤ (1 : Int) := (by omega)
          have q44002 : 1 < (l0.length : Int) := of_decide_eq_true (by first | (with_reducible assumption) | assumption)
          obtain ⟨ad44002, e44002, hx44002_0⟩ := Kd.at_int HR0.out 1 p44002 q44002
          obtain rfl : ad44001 = ad44002 := (by injection e44002)
          (try simp only [show (1 : Int).toNat = 1 from rfl, Nat.reduceMul, Nat.reduceEqDiff, Go.Addr.add, ↓reduceIte] at hx44002_0)
          have qi44002 : (1 < l0.length) = True := eq_true (by omega)
          (try rw [show ((1 : Int)).toNat = 1 from rfl] at hx44002_0)
          replace p44002 := eq_true p44002
          replace q44002 := eq_true q44002
          have p44003 : 0 ≤ (2 : Int) := (by omega)
          have q44003 : 2 < (l0.length : Int) := of_decide_eq_true (by first | (with_reducible assumption) | assumption)
          obtain ⟨ad44003, e44003, hx44003_0⟩ := Kd.at_int HR0.out 2 p44003 q44003
          obtain rfl : ad44001 = ad44003 := (by injection e44003)
          (try simp only [show (2 : Int).toNat = 2 from rfl, Nat.reduceMul, Nat.reduceEqDiff, Go.Addr.add, ↓reduceIte] at hx44003_0)
          have qi44003 : (2 < l0.length) = True := eq_true (by omega)
          (try rw [show ((2 : Int)).toNat = 2 from rfl] at hx44003_0)
          replace p44003 := eq_true p44003
          replace q44003 := eq_true q44003
          have p44004 : 0 ≤ (3 : Int) := (by omega)
          have q44004 : 3 < (l0.length : Int) := of_decide_eq_true (by first | (with_reducible assumption) | assumption)
          obtain ⟨ad44004, e44004, hx44004_0⟩ := Kd.at_int HR0.out 3 p44004 q44004
          obtain rfl : ad44001 = ad44004 := (by injection e44004)
          (try simp only [show (3 : Int).toNat = 3 from rfl, Nat.reduceMul, Nat.reduceEqDiff, Go.Addr.add, ↓reduceIte] at hx44004_0)
          have qi44004 : (3 < l0.length) = True := eq_true (by omega)
          (try rw [show ((3 : Int)).toNat = 3 from rfl] at hx44004_0)
          replace p44004 := eq_true p44004
          replace q44004 := eq_true q44004
          go_enter Try.func43, Try.ntmps43
          go_wp2
          repeat (go_quiet (fail); try go_wp2)
          go_ret
          exact ⟨by first | rfl | (simp; done) | (simp [*]; done), by repeat (first | exact Drawn0.refl _ | apply Drawn0.step)⟩
        · rw [if_neg c5] at H
          exact absurd H (by simp)
      · rw [if_neg c4] at H
        exact absurd H (by simp)
    · rw [if_neg c3] at H
      exact absurd H (by simp)
  · rw [if_neg c2] at H
    exact absurd H (by simp)

end Go.Proofs.Ytnbomjfpnpmllaa.Q
end
section
namespace Go.Proofs.Ytnbomjfpnpmllaa.Q
open Go.RowKit Go.Shelf Go.Proofs.YtnbomjfpnpmllaaW.PrintWords Go.Proofs.YtnbomjfpnpmllaaW.PrintLast
attribute [local go_sem] Oper.semAt_some
/-- What the iterator asks of a round: its own two boxes stay. -/
def KpC (Bs Bn : Nat) (W W' : World) : Prop := W.heap.size ≤ W'.heap.size ∧ ∀ i, i = Bs ∨ i = Bn → i < W.heap.size → W'.heap[i]? = W.heap[i]?
theorem KpC.refl (Bs Bn : Nat) (W : World) : KpC Bs Bn W W := ⟨Nat.le_refl _, fun _ _ _ => rfl⟩
theorem KpC.trans {Bs Bn : Nat} {A B C : World} (h : KpC Bs Bn A B) (k : KpC Bs Bn B C) : KpC Bs Bn A C :=
  ⟨Nat.le_trans h.1 k.1, fun i hi hl => (k.2 i hi (Nat.lt_of_lt_of_le hl h.1)).trans (h.2 i hi hl)⟩
theorem KpC.heap {Bs Bn : Nat} {A B : World} (h : KpC Bs Bn A B) {i : Nat} (hi : i = Bs ∨ i = Bn) {o : Obj} (ho : A.heap[i]? = some o) : B.heap[i]? = some o := (h.2 i hi (Array.getElem?_eq_some_iff.1 ho).1).trans ho
/-- The k-th piece. -/
def piece (ad : Addr) (k : Nat) : Value := .slice (some (ad.add (4 * k))) 4 4
set_option maxRecDepth 100000 in
set_option maxHeartbeats 2000000 in
theorem chunk1_in (n : Nat) (hn : 1 ≤ n) (l Bs Bn : Nat) (A : Option Addr) (ad : Addr) (m cap : Nat) (hA : 0 < m → A = some ad) (hreach : 4 * m ≤ 140737488351232) (hcap : 4 * m ≤ cap) (B : Nat) (J Jx : List Nat → World → Prop) (hJ : AbidesFrom B J)
    (hY : ∀ pre x W, J pre W → pre.length < m → YieldAt Fence.wide (n - 1) Try.prog l #[piece ad (x % m)] W fun e W' =>
      (e = .returned (.bool true) ∧ J (pre ++ [x]) W' ∧ KpC Bs Bn W W') ∨ (e = .returned (.bool false) ∧ Jx (pre ++ [x]) W'))
    (W : World) (hBs : W.heap[Bs]? = some (.cells #[.slice A (4 * m) cap] 27 (0, 0))) (hBn : W.heap[Bn]? = some (.cells #[.int .i64 4] 3 (0, 0))) (h0 : J [] W) :
    CallsIn Fence.wide n Try.prog 50 #[.func (.yield l) #[] #[], .pointer (some ⟨Bs, 0, none⟩), .pointer (some ⟨Bn, 0, none⟩)] W fun e W' => (∃ v, e = .returned v) ∧
      ((∃ ys, ys = List.range m ∧ J ys W') ∨ (∃ pre, (∃ k, k ≤ m ∧ pre = List.range k) ∧ Jx pre W')) := by
  refine callsIn_of_wp Try.func50 rfl trivial ?_ rfl
  simp only [Try.ntmps50, List.size_toArray, List.length_cons, List.length_nil, Nat.reduceAdd, Nat.reduceSub, Array.replicate_succ, Array.replicate_zero, List.push_toArray, List.append_toArray, List.nil_append, List.cons_append]
  gi_wp2
  gi_loopw [4] (fun i wr => ∃ k : Nat, k ≤ m ∧ i = .int .i64 ((4 * k : Nat) : Int) ∧ J (List.range k) wr ∧ wr.heap[Bs]? = some (.cells #[.slice A (4 * m) cap] 27 (0, 0)) ∧ wr.heap[Bn]? = some (.cells #[.int .i64 4] 3 (0, 0)))
    (fun i _ => 4 * m - (intOf i).toNat)
  case atStart => exact ⟨0, Nat.zero_le _, rfl, h0, hBs, hBn⟩
  case round =>
    obtain ⟨k, hk, rfl, hJs, hs, hnn⟩ := hrel
    have hcs := (blk_cell hs 0).trans rfl
    have hcn := (blk_cell hnn 0).trans rfl
    by_cases hlt : k < m
    · obtain rfl := hA (by omega)
      have d1 : decide (((4 * k : Nat) : Int) < ((4 * m : Nat) : Int)) = true := decide_eq_true (by omega)
      have w1 : wrap64 ((4 * k : Nat) : Int) = ((4 * k : Nat) : Int) := by unfold wrap64; omega
      gi_wp2
      gi_quiet (fail)
      have hJq : J (List.range k) (wr.drewN nq) := hJ _ _ _ none hJs (grown_of_below (pw_below_drewN (Below.refl _ _) nq) none) (fun r e => by cases e)
      have hsq : (wr.drewN nq).heap[Bs]? = some (.cells #[.slice (some ad) (4 * m) cap] 27 (0, 0)) := hs
      have hnq : (wr.drewN nq).heap[Bn]? = some (.cells #[.int .i64 4] 3 (0, 0)) := hnn
      clear hcs hcn hs hnn hJs
      obtain ⟨wq, hwq⟩ : ∃ wq, wq = wr.drewN nq := ⟨_, rfl⟩
      rw [← hwq] at hJq hsq hnq ⊢
      clear hwq
      have hcs := (blk_cell hsq 0).trans rfl
      have hcn := (blk_cell hnq 0).trans rfl
      obtain ⟨fn, tmps, assign, body, hy, hR⟩ := hY _ k wq hJq (by rw [List.length_range]; exact hlt)
      rw [Nat.mod_eq_of_lt hlt] at hy
      simp only [piece] at hy
      gi_wp2
      refine hR.mono ?_
      rintro e W3 (⟨rfl, hJ3, hk3⟩ | ⟨rfl, hJx3⟩)
      · have hs3 := hk3.heap (.inl rfl) hsq
        have hn3 := hk3.heap (.inr rfl) hnq
        have hcs3 := (blk_cell hs3 0).trans rfl
        have hcn3 := (blk_cell hn3 0).trans rfl
        have w2 : wrap64 (((4 * k : Nat) : Int) + 4) = ((4 * (k + 1) : Nat) : Int) := by unfold wrap64; omega
        clear hcs hcn
        gi_wp2
        go_roundw
        case rel => exact ⟨k + 1, by omega, rfl, by rw [List.range_succ]; exact hJ3, hs3, hn3⟩
        case measure => simp [intOf]; omega
      · gi_wp2
        refine bodyPost_ret (results_none rfl _ _ _) rfl ?_
        exact ⟨⟨_, rfl⟩, .inr ⟨_, ⟨k + 1, by omega, List.range_succ.symm⟩, hJx3⟩⟩
    · obtain rfl : k = m := by omega
      have d1 : decide (((4 * k : Nat) : Int) < ((4 * k : Nat) : Int)) = false := decide_eq_false (by omega)
      gi_wp2
      go_end0
      exact ⟨⟨_, rfl⟩, .inl ⟨_, rfl, hJs⟩⟩
theorem chunk_stops (n : Nat) (hn : 1 ≤ n) (Bs Bn : Nat) (A : Option Addr) (ad : Addr) (m cap : Nat) (hA : 0 < m → A = some ad) (hreach : 4 * m ≤ 140737488351232) (hcap : 4 * m ≤ cap) (w : World)
    (hBs : w.heap[Bs]? = some (.cells #[.slice A (4 * m) cap] 27 (0, 0))) (hBn : w.heap[Bn]? = some (.cells #[.int .i64 4] 3 (0, 0))) :
    SeqStopsK Fence.wide n Try.prog 50 #[.pointer (some ⟨Bs, 0, none⟩), .pointer (some ⟨Bn, 0, none⟩)] (fun k : Nat => #[piece ad (k % m)]) (KpC Bs Bn) (fun ys => ys = List.range m) (fun pre => ∃ k, k ≤ m ∧ pre = List.range k) m w := fun l J Jx W hW hJ _ hY h0 =>
  chunk1_in n hn l Bs Bn A ad m cap hA hreach hcap _ J Jx hJ hY W (blk_below hBs hW) (blk_below hBn hW) h0
set_option maxHeartbeats 1000000 in
theorem chunk_in (n : Nat) (A : Option Addr) (len cap : Nat) (w : World) :
    CallsIn Fence.wide n Try.prog 42 #[.slice A len cap, .int .i64 4] w fun e w' => e = .returned (.func (.func 50) #[] #[.pointer (some ⟨w.heap.size, 0, none⟩), .pointer (some ⟨w.heap.size + 1, 0, none⟩)]) ∧ w' = (w.alloc (.cells #[.slice A len cap] 27)).alloc (.cells #[.int .i64 4] 3) := by
  refine callsIn_of_wp Try.func42 rfl trivial ?_ rfl
  simp only [Try.ntmps42, List.size_toArray, List.length_cons, List.length_nil, Nat.reduceAdd, Nat.reduceSub, Array.replicate_succ, Array.replicate_zero, List.push_toArray, List.append_toArray, List.nil_append, List.cons_append]
  gi_wp2
  go_ret
  exact ⟨by simp, rfl⟩
end Go.Proofs.Ytnbomjfpnpmllaa.Q
end
section
namespace Go.Proofs.Ytnbomjfpnpmllaa.Q
open Go.RowKit Go.Proofs.YtnbomjfpnpmllaaW.PrintWords Go.Proofs.YtnbomjfpnpmllaaW.PrintLast
section
variable {P : Program} {ops : Array Oper} {Q : Exit → Act → World → Prop} {md : Region.Mode} {n lr : Nat}
theorem rowsIn_wide {row : String} {args : Array Value} {w : World} {R : Value → World → Prop} (h : Rows P row args w R) : RowsIn (Fence.wide.inRound lr) n P row args w R :=
  fun c cs _ => let ⟨v, w', r, s⟩ := h c cs; ⟨v, w', r, stepsIn_wide.2 s⟩
theorem oper_in {o : Oper} {a : Act} {w : World} {K : Act → World → Prop} (hnd : ∀ c, o.op ≠ .defer c) (h : o.wp P a w K Q) : o.wpIn (Fence.wide.inRound lr) n P a w K Q := by
  refine ⟨fun _ _ => trivial, ?_⟩
  rw [Oper.semAt_plain _ _ _ hnd]
  unfold Oper.wp at h
  generalize (execOp a.eval o).run P w = r at h ⊢
  cases r with
  | ok x w' =>
    cases x with
    | value v => exact h
    | skip => exact h
    | defer d => exact h
    | enter f args => exact ⟨(fun hd => by cases hd), CallsIn.inRound lr (callsIn_wide.2 h)⟩
    | row row args => exact ⟨(fun hd => by cases hd), rowsIn_wide h⟩
    | _ => exact h.elim
  | halt x w' =>
    cases x with
    | panic v => exact h
    | _ => exact h.elim
theorem op_in {i : Nat} {a : Act} {w : World} {K : Act → World → Prop} (hnd : ∀ (i : Nat) (o : Oper), ops[i]? = some o → ∀ c, o.op ≠ .defer c) (hlo : ¬ LetsOut Q) (h : wpOp P ops Q i K a w) : wpOpIn (Fence.wide.inRound lr) n P ops Q i K a w := by
  unfold wpOp at h
  unfold wpOpIn
  cases ho : ops[i]? with
  | none => rw [ho] at h; exact h
  | some o =>
    rw [ho] at h
    dsimp only at h ⊢
    split
    · rename_i hw
      rw [if_pos hw] at h
      rcases h with h | ⟨_, h⟩
      · exact oper_in (hnd i o ho) h
      · exact absurd h hlo
    · rename_i hw
      rw [if_neg hw] at h
      exact ⟨fun _ _ => trivial, h⟩
theorem any_in (hnd : ∀ (i : Nat) (o : Oper), ops[i]? = some o → ∀ c, o.op ≠ .defer c) (hlo : ¬ LetsOut Q) : ∀ (fuel : Nat) (listed : Array Bool) (a : Act) (w : World), wpAny P md ops Q fuel listed a w → wpAnyIn (Fence.wide.inRound lr) n P md ops Q fuel listed a w
  | 0, _, _, _, h => h
  | fuel + 1, _, _, _, h => ⟨h.1, fun i hi => wpOpIn_mono (fun a w h => any_in hnd hlo fuel _ a w h) (op_in hnd hlo (h.2 i hi))⟩
def noDefer (o : Oper) : Bool := match o.op with | .defer _ => false | _ => true
theorem noDefer_spec (h : ops.all noDefer = true) : ∀ (i : Nat) (o : Oper), ops[i]? = some o → ∀ c, o.op ≠ .defer c := fun i o ho c hc => by
  have := Array.all_eq_true_iff_forall_mem.1 h o (Array.mem_of_getElem? ho)
  unfold noDefer at this
  rw [hc] at this
  cases this
theorem start_in {S : World → Prop} {ds : List Nat} {id m : Nat} {a : Act} {w : World} (l : Array Bool) (hm : P.follows .mixedOrders = true) (hn : ops.size = m) (hl : Array.replicate m false = l) (hS : S w.drew) (hnd : ops.all noDefer = true) (hlo : ¬ LetsOut Q)
    (h : S w.drew → wpAnyLast P .any ops Q S ds m l a w.drew) : (Code.region id ops true).wpIn (Fence.wide.inRound lr) n P Q a w := by
  subst hn
  subst hl
  exact wpIn_region_any hm (any_in (noDefer_spec hnd) hlo _ _ _ _ (wpAny_of_last _ _ _ _ (h hS)))
end
end Go.Proofs.Ytnbomjfpnpmllaa.Q
end
section
namespace Go.Proofs.Ytnbomjfpnpmllaa.Q
open Go.RowKit Go.Shelf Go.Proofs.YtnbomjfpnpmllaaW.PrintWords Go.Proofs.YtnbomjfpnpmllaaW.PrintLast
attribute [local go_sem] Oper.semAt_some
def numF (l : List Int) : Int := Go.bits .or .u32 (Go.bits .or .u32 (Go.bits .or .u32 ((((rd l 0) % 4294967296) * 16777216) % 4294967296) ((((rd l 1) % 4294967296) * 65536) % 4294967296)) ((((rd l 2) % 4294967296) * 256) % 4294967296)) ((rd l 3) % 4294967296)
theorem number_eq (l : List Int) (h : l.length = 4) : prop_number.f l = some (numF l) := by
  unfold prop_number.f
  rw [if_pos (by omega), if_pos (by omega), if_pos (by omega), if_pos (by omega)]
  rfl
def fourAt (l : List Int) (k : Nat) : List Int := (l.drop (4 * k)).take 4
def numsF (l : List Int) (m : Nat) (ks : List Nat) : List Int := ks.map fun k => numF (fourAt l (k % m))
theorem numsF_snoc (l : List Int) (m : Nat) (ks : List Nat) (k : Nat) : numsF l m (ks ++ [k]) = numsF l m ks ++ [numF (fourAt l (k % m))] := by simp [numsF]
theorem numsF_len (l : List Int) (m : Nat) (ks : List Nat) : (numsF l m ks).length = ks.length := by simp [numsF]
theorem info22i : (Try.prog.info? 22).map (fun i => (i.zero, i.size, i.bytes)) = some (some (.int .u32 0), 1, 4) := by kernel_rfl
theorem piece_C {w : World} {ad : Addr} {n c : Nat} {l : List Int} (h : Kd.C (Kd.int .u8) w (some ad) n l) (hc : n ≤ c) (k : Nat) (hk : 4 * k + 4 ≤ n) (hlt : 4 * k < c) : Kd.C (Kd.int .u8) w (some (ad.add (4 * k))) 4 (fourAt l k) := by
  have h2 := C_cut h hc (4 * k) 4 hk
  unfold cutAt at h2
  rw [if_neg (by omega)] at h2
  have e : 4 * k * (Kd.int .u8).sz = 4 * k := Nat.mul_one _
  rw [e] at h2
  exact h2
theorem event_stepN {P : Program} {ops : Array Oper} {o : Oper} {a : Act} {Q : Exit → Act → World → Prop} {Kc : Act → World → Prop} {N : Option Tmp} {W w1 : World} {v : Value} (hw : Region.wanted o (yielded ops a.tmps) = true) (hN : o.dst = N) (hrun : (execOp a.eval o).run P W = .ok (.value v) w1) (h : Kc (a.put N v) w1) :
    if Region.wanted o (yielded ops a.tmps) = true then Oper.wp P o a W Kc Q else Kc (a.put N undef) W := by
  subst hN
  exact event_step hw hrun h
theorem skip_stepN {P : Program} {ops : Array Oper} {o : Oper} {a : Act} {Q : Exit → Act → World → Prop} {Kc : Act → World → Prop} {N : Option Tmp} {W w1 : World} (hw : Region.wanted o (yielded ops a.tmps) = true) (hN : o.dst = N) (hrun : (execOp a.eval o).run P W = .ok .skip w1) (h : Kc (a.put N undef) w1) :
    if Region.wanted o (yielded ops a.tmps) = true then Oper.wp P o a W Kc Q else Kc (a.put N undef) W := by
  subst hN
  rw [if_pos hw]
  unfold Oper.wp
  rw [hrun]
  exact h
set_option maxRecDepth 100000 in
set_option maxHeartbeats 2000000 in
theorem ints_calls (A : Option Addr) (c m : Nat) (l : List Int) (w : World) (hl : l.length = 4 * m) (hr : Kd.C (Kd.int .u8) w A l.length l) (hc : l.length ≤ c) (hm : m ≤ 1000000) :
    Calls Try.prog 29 #[.slice A l.length c] w fun e W' => ∃ v, e = .returned (.tuple #[v, .int .i64 0]) ∧ W'.ownsRow w.heap.size 22 1 v m ((numsF l m (List.range m)).map (Value.int .u32)) ∧ Below w.heap.size w W' := by
  refine (callsIn_wide (n := 5)).1 ?_
  obtain ⟨i0, hi, hz0, hz1, hz2⟩ := info_parts info22i
  obtain ⟨ad, hA⟩ : ∃ ad, 0 < m → A = some ad := by
    cases m with
    | zero => exact ⟨⟨0, 0, none⟩, fun h => by omega⟩
    | succ m =>
      obtain ⟨ad, h, _⟩ := hr.2.2 (by omega)
      exact ⟨ad, fun _ => h⟩
  have d0 : ((l.length : Int) % 4 != 0) = false := by rw [hl]; simp
  have HL := Aside0.mk hl
  clear hl
  refine callsIn_of_wp_marks Try.func29 rfl trivial ?_ rfl
  simp only [Try.ntmps29, List.size_toArray, List.length_cons, List.length_nil, Nat.reduceAdd, Nat.reduceSub, Array.replicate_succ, Array.replicate_zero, List.push_toArray, List.append_toArray, List.nil_append, List.cons_append]
  gi_wp2_with (refine ⟨trivial, ?_⟩; gi_at_call 42; refine (chunk_in _ _ _ _ _).mono ?_; rintro e w' ⟨rfl, rfl⟩)
  have hl := HL.out
  have bO := Boxed.new w 57 (.slice none 0 0)
  obtain ⟨W0, hW0⟩ : ∃ W0, W0 = ((w.alloc (.cells #[.slice none 0 0] 57)).alloc (.cells #[.slice A l.length c] 27)).alloc (.cells #[.int .i64 4] 3) := ⟨_, rfl⟩
  have hbs : Boxed W0 (w.heap.size + 1) 27 (.slice A l.length c) := by
    rw [hW0]
    have h := (Boxed.new (w.alloc (.cells #[.slice none 0 0] 57)) 27 (.slice A l.length c)).alloc (.cells #[.int .i64 4] 3)
    rw [World.size_alloc] at h
    exact h
  have hbn : Boxed W0 (w.heap.size + 1 + 1) 3 (.int .i64 4) := by
    rw [hW0]
    have h := Boxed.new ((w.alloc (.cells #[.slice none 0 0] 57)).alloc (.cells #[.slice A l.length c] 27)) 3 (.int .i64 4)
    rw [World.size_alloc, World.size_alloc] at h
    exact h
  have hbo : Boxed W0 w.heap.size 57 (.slice none 0 0) := by rw [hW0]; exact (bO.alloc _).alloc _
  have hB0 : Below w.heap.size w W0 := by rw [hW0]; exact below_alloc (below_alloc (below_alloc (Below.refl _ _) _) _) _
  have hs0 : W0.heap.size = w.heap.size + 3 := by rw [hW0]; simp
  rw [← hW0]
  clear hW0
  refine wpIn_rangeFunc_ownF rfl (by omega) (gf := 50) (lb := #[.pointer (some ⟨w.heap.size + 1, 0, none⟩), .pointer (some ⟨w.heap.size + 1 + 1, 0, none⟩)]) rfl trivial (enters_of Try.func50 (by kernel_rfl) rfl)
    (chunk_stops 4 (by omega) (w.heap.size + 1) (w.heap.size + 1 + 1) A ad m c hA (by omega) (by omega) W0 (by rw [← hl]; exact hbs) hbn) (fun h k => h.trans k)
    (fun W i o o' hi ho _ _ => ⟨by simp, fun j hj hlt => World.putObj_heap_other (by rcases hj with rfl | rfl <;> omega)⟩) (Below.refl _ _) (fun _ => rfl)
    (fun pre W => (∃ v, Boxed W w.heap.size 57 v ∧ W.ownsRow w.heap.size 22 1 v pre.length ((numsF l m pre).map (Value.int .u32)) ∧ True) ∧ (Boxed W (w.heap.size + 1) 27 (.slice A l.length c) ∧ Boxed W (w.heap.size + 1 + 1) 3 (.int .i64 4)) ∧ Below w.heap.size w W)
    (fun _ _ _ => False)
    (OwnFrom.and (Own.from (holdsRow_own w.heap.size w.heap.size 57 22 1 (fun pre => pre.length) (fun pre => (numsF l m pre).map (Value.int .u32)) (fun _ _ => True)) _) (OwnFrom.and (OwnFrom.and (Own.from (boxed_own _ _ _) _) (Own.from (boxed_own _ _ _) _)) (ownFrom_below (Nat.le_refl _) (by omega))))
    (fun _ _ _ _ _ hs _ _ => hs)
    ⟨⟨_, hbo, World.ownsRow_nil _ _ _ _, trivial⟩, ⟨hbs, hbn⟩, hB0⟩
    (fun k => { tmps := #[.slice A l.length c, undef, .slice none 0 0, .int .i64 0, .pointer (some ⟨w.heap.size, 0, none⟩), piece ad (k % m), .slice A l.length c, .int .i64 l.length, .int .i64 ((l.length : Int) % 4), .bool false, .slice A l.length c, .func (.func 50) #[] #[.pointer (some ⟨w.heap.size + 1, 0, none⟩), .pointer (some ⟨w.heap.size + 1 + 1, 0, none⟩)], piece ad (k % m), undef, undef, undef, undef, undef, undef], defers := [] }) ?assign ?body ?done ?stop
  case assign =>
    intro l' x W K hK
    clear hl
    gi_wp2
    exact hK
  case body =>
    rintro l' pre k W ⟨⟨v, hv, hrow, _⟩, ⟨hb1, hb2⟩, hB⟩ hlt
    obtain rfl := hA (by omega)
    have hkm : k % m < m := Nat.mod_lt _ (by omega)
    have HNum := Aside0.mk (show ∀ X : World, Below w.heap.size w X → Calls Try.prog 43 #[piece ad (k % m)] X (fun e w' => e = .returned (.int .u32 (numF (fourAt l (k % m)))) ∧ Drawn0 X w') from fun X hX => by
      have hC := piece_C (Kd.C_below hr hX) hc (k % m) (by omega) (by omega)
      have h4 : (fourAt l (k % m)).length = 4 := by unfold fourAt; rw [List.length_take, List.length_drop]; omega
      unfold piece
      have h := prop_number.calls (some (ad.add (4 * (k % m)))) 4 (fourAt l (k % m)) (numF (fourAt l (k % m))) X (by rw [h4]; exact hC) (by omega) (number_eq _ h4)
      rw [h4] at h
      exact h)
    clear hl hs0
    have hcv := hv.cell
    gi_wp2
    refine start_in (m := 6) (S := fun w' => w'.cell? ⟨w.heap.size, 0, none⟩ = some v) (ds := [4, 5]) #[false, false, false, false, false, false] (by kernel_rfl) rfl rfl hcv (by kernel_rfl) (fun ⟨_, _, h⟩ => h) (fun hHeld => ?_)
    refine take_ (i := 0) (N := some 13) (v := v) (a' := ?_) #[true, false, false, false, false, false] rfl rfl (by kernel_rfl) (fun _ _ _ h => h) (Or.inl ⟨by rfl, ?_⟩) hHeld ?_ ?_
    rotate_left
    rotate_left
    · simp only [Act.put, List.setIfInBounds_toArray, List.set_cons_zero, List.set_cons_succ]
      rfl
    rotate_left
    · rintro w' s0
      go_simp
    refine pure_ (i := 1) (N := some 14) (v := ?_) (a' := ?_) #[true, true, false, false, false, false] rfl rfl (by kernel_rfl) (fun _ _ _ h => h) (Or.inl ⟨by rfl, ?_⟩) ?_ ?_
    rotate_left
    · intro w'
      go_simp
      with_reducible rfl
    rotate_left
    · simp only [Act.put, List.setIfInBounds_toArray, List.set_cons_zero, List.set_cons_succ]
      rfl
    refine one_ (i := 2) (N := some 15) #[true, true, true, false, false, false] rfl rfl (by kernel_rfl) (by decide) (fun K hK => ?_)
    refine goes_ Try.func43 (by kernel_rfl) rfl #[piece ad (k % m)] (by rfl) rfl rfl (by first | rfl | (simp only [List.map_toArray, List.map_cons, List.map_nil]; rfl)) ?_
    refine (HNum.out _ (below_drew hB)).mono ?_
    rintro e w2 ⟨rfl, hd⟩
    obtain ⟨⟨nn, rfl⟩⟩ := hd
    refine ⟨_, rfl, hK.out _ _ hcv (fun hHeld => ?_)⟩
    clear hK K
    simp only [Act.put, List.setIfInBounds_toArray, List.set_cons_zero, List.set_cons_succ]
    obtain ⟨X, hX⟩ : ∃ X, X = W.drew.drewN nn := ⟨_, rfl⟩
    have hvX : Boxed X w.heap.size 57 v := by rw [hX]; exact hv
    have hb1X : Boxed X (w.heap.size + 1) 27 (.slice (some ad) l.length c) := by rw [hX]; exact hb1
    have hb2X : Boxed X (w.heap.size + 1 + 1) 3 (.int .i64 4) := by rw [hX]; exact hb2
    have hrowX : X.ownsRow w.heap.size 22 1 v pre.length ((numsF l m pre).map (Value.int .u32)) := by rw [hX]; exact hrow
    have hBX : Below w.heap.size w X := by rw [hX]; exact pw_below_drewN (below_drew hB) nn
    have hKX : KeepsOthers W X := by rw [hX]; exact ⟨Nat.le_refl _, fun _ _ h _ => h⟩
    have hCX : KpC (w.heap.size + 1) (w.heap.size + 1 + 1) W X := by rw [hX]; exact ⟨Nat.le_refl _, fun _ _ _ => rfl⟩
    rw [← hX] at hHeld ⊢
    clear hX
    refine one_ (i := 3) (N := some 16) #[true, true, true, true, false, false] rfl rfl (by kernel_rfl) (by decide) (fun K hK => ?_)
    refine event_stepN (by rfl) rfl (v := .slice (some ⟨X.heap.size, 0, none⟩) 1 1) (w1 := X.alloc (.cells #[.int .u32 (numF (fourAt l (k % m)))] 22)) (by first | (go_simp; done) | (go_simp; rfl)) (hK.out _ _ (hvX.alloc _).cell (fun hHeld => ?_))
    clear hK K
    simp only [Act.put, List.setIfInBounds_toArray, List.set_cons_zero, List.set_cons_succ]
    refine last_ (i := 4) (N := some 17) #[true, true, true, true, true, false] rfl rfl (by kernel_rfl) (by decide) (fun K hK => ?_)
    have HRX : Kd.R (Kd.int .u32) 22 X w.heap.size (fun _ => True) v (numsF l m pre) := Kd.R_of_own (by rw [numsF_len]; exact hrowX) (fun _ _ => trivial)
    refine Kd.R_append_step (Kd.int .u32) (w0 := w) w.heap.size (by rfl) (.tmp 13) (.tmp 16) 57 22 (.int .u32 0) 4 rfl Try.underlying57 info22i rfl (by decide) (by decide) v (numsF l m pre) (numF (fourAt l (k % m))) [.int .u32 (numF (fourAt l (k % m)))] (fun _ => True) (fun _ => False) rfl rfl rfl (fun _ h => h.elim) (fun _ _ => trivial) HRX hBX hBX.size (by rw [numsF_len]; omega) ?_
    intro v1 w1 ho hb hg hat
    refine hK.out _ _ ?_
    clear hK K
    simp only [Act.put, List.getElem_toArray, List.getElem_cons_succ, List.getElem_cons_zero, List.setIfInBounds_toArray, List.set_cons_zero, List.set_cons_succ]
    have hv1 : Boxed w1 w.heap.size 57 v := hvX.kept hg (hvX.not_row (by decide) hrowX)
    have hbs1 := hb1X.kept hg (hb1X.not_row (by decide) hrowX)
    have hbn1 := hb2X.kept hg (hb2X.not_row (by decide) hrowX)
    have hown1 := Kd.own_of_R ho
    have hne := hv1.not_row (by decide) hown1
    have hc1 := hv1.cell
    have hf1 := hv1.frozen
    refine last_ (i := 5) (N := none) #[true, true, true, true, true, true] rfl rfl (by kernel_rfl) (by decide) (fun K hK => ?_)
    refine skip_stepN (by rfl) rfl (w1 := w1.setCell ⟨w.heap.size, 0, none⟩ v1) ?_ (hK.out _ _ ?_)
    · obtain ⟨Av, cv, rfl⟩ := Kd.R_slice ho
      first | (go_simp; done) | (go_simp; rfl)
    clear hK K
    refine done_ (n := 0) (by kernel_rfl) ?_
    have hk2 : KeepsOthers W (w1.setCell ⟨w.heap.size, 0, none⟩ v1) := by
      refine (hKX.trans ?_).trans (KeepsOthers.setCell _ _ _)
      exact KeepsOthers.of_grownBy hg (fun j o hj hjo => by obtain ⟨cc, hcc⟩ := own_typed hrowX j hj; rw [hcc] at hjo; cases hjo; rfl)
    refine ⟨hk2, ⟨hk2.size, fun i hi _ => ?_⟩, ⟨v1, hv1.set v1, ?_, trivial⟩, ⟨hbs1.other (by omega) v1, hbn1.other (by omega) v1⟩, below_set hb (Nat.le_refl _)⟩
    · rcases hi with rfl | rfl
      · exact (show _ = _ from hbs1.other (by omega) v1).trans (show _ = _ from hb1).symm
      · exact (show _ = _ from hbn1.other (by omega) v1).trans (show _ = _ from hb2).symm
    · have h := hown1.kept (grownBy_setCell' w1 w.heap.size v1) (.inr hne.symm)
      rw [numsF_snoc, List.map_append, List.length_append]
      rw [List.length_append, numsF_len] at h
      simpa [encs] using h
  case done =>
    rintro D ys W hD rfl ⟨⟨v, hv, hrow, _⟩, _, hB⟩ hK
    have hc := hv.cell
    gi_wp2
    refine ⟨by simp, .inl ⟨_, _, rfl, run_takeDeferred hK, ?_⟩⟩
    have hrow2 := ownsRow_putObj hrow (.deferred none) hK rfl
    rw [List.length_range] at hrow2
    exact ⟨_, results_tmp2 rfl _ _ _, v, rfl, hrow2, hB.trans (belowK_b (w := w) (Nat.le_refl _) W D _ _ (by omega) hK rfl rfl)⟩
  case stop =>
    rintro D c pre W _ _ h _
    exact h.elim
theorem numsF_range (l : List Int) (m : Nat) : numsF l m (List.range m) = (List.range m).map fun k => numF (fourAt l k) := by
  unfold numsF
  apply List.map_congr_left
  intro k hk
  rw [Nat.mod_eq_of_lt (List.mem_range.1 hk)]
/-- All numbers of bytes. -/
def allNums (l : List Int) : List Int := (List.range (l.length / 4)).map fun k => numF (fourAt l k)
def prop_Ints.f (l : List Int) : Option (List Int × Int) := if l.length % 4 = 0 then (if l.length ≤ 4000000 then some (allNums l, 0) else none) else some ([], 15)
set_option maxHeartbeats 1000000 in
set_option maxRecDepth 100000 in
theorem prop_Ints.calls (A0 : Option Addr) (c0 : Nat) (l0 : List Int) (r1 : List Int) (r2 : Int) (w : World) (hr0 : Kd.C (Kd.int .u8) w A0 l0.length l0) (hc0 : l0.length ≤ c0) (h : prop_Ints.f l0 = some (r1, r2)) :
    Calls Try.prog 29 #[.slice A0 l0.length c0] w fun e w' => ∃ v0_ : Value, e = .returned (.tuple #[v0_, .int .i64 r2]) ∧ Kd.R (Kd.int .u32) 22 w' w.heap.size (fun _ => True) v0_ r1 ∧ Below w.heap.size w w' := by
  unfold prop_Ints.f at h
  by_cases h4 : l0.length % 4 = 0
  · rw [if_pos h4] at h
    by_cases hb : l0.length ≤ 4000000
    · rw [if_pos hb] at h
      obtain ⟨rfl, rfl⟩ := Prod.mk.inj (Option.some.inj h)
      refine (ints_calls A0 c0 (l0.length / 4) l0 w (by omega) hr0 hc0 (by omega)).mono ?_
      rintro e w' ⟨v, rfl, ho, hb⟩
      refine ⟨v, rfl, Kd.R_of_own (xs := allNums l0) ?_ (fun _ _ => trivial), hb⟩
      rw [numsF_range] at ho
      have hl : (allNums l0).length = l0.length / 4 := by unfold allNums; rw [List.length_map, List.length_range]
      rw [hl]
      exact ho
    · rw [if_neg hb] at h
      cases h
  · rw [if_neg h4] at h
    obtain ⟨rfl, rfl⟩ := Prod.mk.inj (Option.some.inj h)
    have d0 : ((l0.length : Int) % 4 != 0) = true := bne_iff_ne.2 (by omega)
    clear h h4 hr0 hc0
    go_enter Try.func29, Try.ntmps29
    go_wp2
    go_ret2
    exact ⟨_, rfl, Kd.R_nil _ _ _ _ _, Below.refl _ _⟩
end Go.Proofs.Ytnbomjfpnpmllaa.Q
end
section
set_option linter.unusedSimpArgs false
set_option linter.unusedVariables false
namespace Go.Proofs.Ytnbomjfpnpmllaa.Q
open Go.RowKit Go.Proofs.YtnbomjfpnpmllaaW.PrintWords Go.Proofs.YtnbomjfpnpmllaaW.PrintLast Go.Proofs.YtnbomjfpnpmllaaW.PrintMore
def partB (l : List Int) (i : Nat) : Part := (numB (l.drop (8 * i)), numB (l.drop (8 * i + 4)))
def partsB (l : List Int) : List Part := (List.range 8).map (partB l)
def atB (l : List Int) (i : Nat) : List Part := (List.range i).map (partB l) ++ List.replicate (8 - i) (0, 0)
theorem atB_len (l : List Int) (i : Nat) (h : i ≤ 8) : (atB l i).length = 8 := by simp [atB]; omega
theorem atB_8 (l : List Int) : atB l 8 = partsB l := by simp [atB, partsB]
theorem atB_set (l : List Int) (i : Nat) (h : i < 8) : (atB l i).set i (partB l i) = atB l (i + 1) := by
  unfold atB
  rw [show 8 - i = (8 - (i + 1)) + 1 by omega, List.replicate_succ, List.range_succ, List.map_append, List.append_assoc, List.set_append_right _ _ (by simp)]
  simp
theorem pc_of {w : World} {g : Nat} {ps : List Part} {Z : List Value} (hz : Z = partCells ps) (h : w.heap[g]? = some (.cells Z.toArray 25 (0, 0))) : PCell w g ps := by subst hz; exact h
theorem atB_get (l : List Int) (i : Nat) (h : i < 8) : (atB l i).getD i (0, 0) = (0, 0) := by
  unfold atB
  rw [List.getD_eq_getElem?_getD, List.getElem?_append_right (by simp)]
  simp [List.getElem?_replicate, show 0 < 8 - i by omega]
theorem exec_load25 {w : World} {g : Nat} {ps : List Part} {a : Act} {o : Oper} {x : Operand} (ho : o.op = .load 25 x) (hx : a.eval x = .pointer (some ⟨g, 0, none⟩)) (h : PCell w g ps) (hl : ps.length = 8) : (execOp a.eval o).run Try.prog w = .ok (.value (.agg (partCells ps).toArray)) w := by
  have hr : (Instr.loadAt 25 (.pointer (some ⟨g, 0, none⟩))).run Try.prog w = .ok (.agg (partCells ps).toArray) w := by
    simp only [Instr.loadAt, Instr.sureAddr, Sem.run_bind, Sem.run_pure, Result.andThen_ok]
    exact run_loadVar_any w ⟨g, 0, none⟩ 25 (partCells ps) (.array 8 24) (fun j v hv => by rw [Addr.add_mid, Nat.zero_add, blk_cell h]; simpa using hv) Try.underlying25 rfl (by rw [partCells_len, hl]; exact size25)
  simp only [execOp, ho, hx]
  rw [Sem.run_bind, hr]
  rfl
theorem str_ne {s t : ByteArray} (h : ¬ s = t) : (s.toList == t.toList) = false := by
  have : ¬ s.toList = t.toList := fun e => h (by rw [ByteArray.toList_eq, ByteArray.toList_eq] at e; exact ByteArray.ext (Array.ext' e))
  simpa using this
theorem run_build25 (w : World) : (Instr.build 25 #[]).run Try.prog w = .ok (.agg (partCells noParts).toArray) w := by kernel_rfl
theorem exec_build25 {a : Act} {o : Oper} (ho : o.op = .build 25 #[]) (w : World) : (execOp a.eval o).run Try.prog w = .ok (.value (.agg (partCells noParts).toArray)) w := by
  simp only [execOp, ho]
  rw [Sem.run_bind]
  simp [run_build25]
theorem exec_string {w : World} {A : Option Addr} {n c : Nat} {l : List Int} {a : Act} {o : Oper} {x : Operand} (ho : o.op = .convert 27 9 x) (hx : a.eval x = .slice A n c) (h : Kd.C (Kd.int .u8) w A n l) : (execOp a.eval o).run Try.prog w = .ok (.value (.string (strOfNums l))) w := by
  have hr : (convert 27 9 (.slice A n c)).run Try.prog w = .ok (.string (strOfNums l)) w := Kd.C_string Try.underlying27 Try.underlying5 Try.underlying9 h
  simp only [execOp, ho, hx]
  rw [Sem.run_bind, hr]
  rfl
theorem drop_C {w : World} {A : Option Addr} {n : Nat} {l : List Int} (h : Kd.C (Kd.int .u8) w A n l) (lo : Nat) (hlo : lo ≤ n) : Kd.C (Kd.int .u8) w (Option.map (fun x => x.add lo) A) (n - lo) (l.drop lo) := by
  have hl : l.length = n := h.1
  have h2 := C_cut h (Nat.le_succ n) lo (n - lo) (by omega)
  rw [List.take_of_length_le (by rw [List.length_drop]; omega)] at h2
  unfold cutAt at h2
  rw [if_neg (by omega)] at h2
  have e : lo * (Kd.int .u8).sz = lo := Nat.mul_one _
  rw [e] at h2
  exact h2
def refParseF (l : List Int) : List Part × Int := if l.length = 512 then (if strOfNums (labelF (partsB l)) = strOfNums l then (partsB l, 0) else (noParts, 24)) else (noParts, 24)
theorem Parts_B (l : List Int) : Parts (partsB l) := by
  have hd : ∀ m : List Int, 0 ≤ numB m ∧ numB m < 4294967296 := fun m => by
    unfold numB
    rw [decAt]
    omega
  intro p hp
  unfold partsB at hp
  obtain ⟨i, _, rfl⟩ := List.mem_map.1 hp
  exact ⟨hd _, hd _⟩
theorem partsB_len (l : List Int) : (partsB l).length = 8 := by simp [partsB]
set_option maxHeartbeats 8000000 in
set_option maxRecDepth 100000 in
theorem refParse_calls (A : Option Addr) (c : Nat) (l : List Int) (w : World) (hC : Kd.C (Kd.int .u8) w A l.length l) (hc : l.length ≤ c) :
    Calls Try.prog 14 #[.slice A l.length c] w fun e w' => e = .returned (.tuple #[.agg (partCells (refParseF l).1).toArray, .int .i64 (refParseF l).2]) ∧ Below w.heap.size w w' := by
  obtain ⟨R, hR⟩ : ∃ R, R = refParseF l := ⟨_, rfl⟩
  rw [← hR]
  unfold refParseF at hR
  by_cases hl : l.length = 512
  · rw [if_pos hl] at hR
    have d0 : ((l.length : Int) != 512) = false := by rw [hl]; rfl
    have HR := Aside0.mk hR
    have HL := Aside0.mk hl
    have HC := Aside0.mk hC
    have HCC := Aside0.mk hc
    rw [hl]
    clear hR hl hC hc
    have P2 := Aside0.mk (show PCell ((w.alloc (.cells #[.int .u32 0, .int .u32 0, .int .u32 0, .int .u32 0, .int .u32 0, .int .u32 0, .int .u32 0, .int .u32 0, .int .u32 0, .int .u32 0, .int .u32 0, .int .u32 0, .int .u32 0, .int .u32 0, .int .u32 0, .int .u32 0] 25)).alloc (.cells #[.int .u32 0, .int .u32 0, .int .u32 0, .int .u32 0, .int .u32 0, .int .u32 0, .int .u32 0, .int .u32 0, .int .u32 0, .int .u32 0, .int .u32 0, .int .u32 0, .int .u32 0, .int .u32 0, .int .u32 0, .int .u32 0] 25)) w.heap.size noParts from (blk_alloc (blk_new w _) _))
    have P4 := Aside0.mk (show PCell ((w.alloc (.cells #[.int .u32 0, .int .u32 0, .int .u32 0, .int .u32 0, .int .u32 0, .int .u32 0, .int .u32 0, .int .u32 0, .int .u32 0, .int .u32 0, .int .u32 0, .int .u32 0, .int .u32 0, .int .u32 0, .int .u32 0, .int .u32 0] 25)).alloc (.cells #[.int .u32 0, .int .u32 0, .int .u32 0, .int .u32 0, .int .u32 0, .int .u32 0, .int .u32 0, .int .u32 0, .int .u32 0, .int .u32 0, .int .u32 0, .int .u32 0, .int .u32 0, .int .u32 0, .int .u32 0, .int .u32 0] 25)) (w.heap.size + 1) noParts from (by have h := blk_new (w.alloc (.cells #[.int .u32 0, .int .u32 0, .int .u32 0, .int .u32 0, .int .u32 0, .int .u32 0, .int .u32 0, .int .u32 0, .int .u32 0, .int .u32 0, .int .u32 0, .int .u32 0, .int .u32 0, .int .u32 0, .int .u32 0, .int .u32 0] 25)) (.cells #[.int .u32 0, .int .u32 0, .int .u32 0, .int .u32 0, .int .u32 0, .int .u32 0, .int .u32 0, .int .u32 0, .int .u32 0, .int .u32 0, .int .u32 0, .int .u32 0, .int .u32 0, .int .u32 0, .int .u32 0, .int .u32 0] 25); rw [World.size_alloc] at h; exact h))
    have HB4 := Aside0.mk (below_alloc (below_alloc (Below.refl w.heap.size w) (.cells #[.int .u32 0, .int .u32 0, .int .u32 0, .int .u32 0, .int .u32 0, .int .u32 0, .int .u32 0, .int .u32 0, .int .u32 0, .int .u32 0, .int .u32 0, .int .u32 0, .int .u32 0, .int .u32 0, .int .u32 0, .int .u32 0] 25)) (.cells #[.int .u32 0, .int .u32 0, .int .u32 0, .int .u32 0, .int .u32 0, .int .u32 0, .int .u32 0, .int .u32 0, .int .u32 0, .int .u32 0, .int .u32 0, .int .u32 0, .int .u32 0, .int .u32 0, .int .u32 0, .int .u32 0] 25))
    go_enter Try.func14, Try.ntmps14
    go_wp2
    obtain ⟨g2, hg2⟩ : ∃ g2, g2 = w.heap.size := ⟨_, rfl⟩
    obtain ⟨g4, hg4⟩ : ∃ g4, g4 = w.heap.size + 1 := ⟨_, rfl⟩
    have HNE := Aside0.mk (show g2 ≠ g4 by omega)
    have G2 := Aside0.mk (show w.heap.size ≤ g2 by omega)
    have G4 := Aside0.mk (show w.heap.size ≤ g4 by omega)
    rw [← hg4] at P4 ⊢
    rw [← hg2] at P2
    generalize (w.alloc (.cells #[.int .u32 0, .int .u32 0, .int .u32 0, .int .u32 0, .int .u32 0, .int .u32 0, .int .u32 0, .int .u32 0, .int .u32 0, .int .u32 0, .int .u32 0, .int .u32 0, .int .u32 0, .int .u32 0, .int .u32 0, .int .u32 0] 25)).alloc (.cells #[.int .u32 0, .int .u32 0, .int .u32 0, .int .u32 0, .int .u32 0, .int .u32 0, .int .u32 0, .int .u32 0, .int .u32 0, .int .u32 0, .int .u32 0, .int .u32 0, .int .u32 0, .int .u32 0, .int .u32 0, .int .u32 0] 25) = W4 at P2 P4 HB4 ⊢
    simp only [← hg2]
    clear hg2 hg4
    go_loopg [5] 8 (fun kq v5 w' => ∃ i : Int, v5 = .int .i64 i ∧ Aside0 (0 ≤ i ∧ i + kq = 8) ∧ Aside0 (PCell w' g2 noParts) ∧ Aside0 (PCell w' g4 (atB l i.toNat)) ∧ Aside0 (Below w.heap.size w w'))
    case atStart => exact ⟨0, rfl, ⟨by omega, by omega⟩, P2, P4, HB4⟩
    case round =>
      clear P2 P4 HB4
      obtain ⟨i, rfl, HI, P2, P4, HB⟩ := hrel
      cases gk with
      | zero =>
        have hi8 : i = 8 := by have := HI.out; omega
        have hlt : decide (i < (8 : Int)) = false := decide_eq_false (by omega)
        have hP := P4.out
        rw [hi8, show (8 : Int).toNat = 8 from rfl, atB_8] at hP
        have P4' := Aside0.mk hP
        clear hP hi8 P4
        go_wp2
        have hC5 : Kd.C (Kd.int .u8) wr A 512 l := Kd.C_below (HL.out ▸ HC.out) HB.out
        obtain ⟨S1, hS1⟩ : ∃ s, s = strOfNums (labelF (partsB l)) := ⟨_, rfl⟩
        obtain ⟨S2, hS2⟩ : ∃ s, s = strOfNums l := ⟨_, rfl⟩
        have HS1 := Aside0.mk hS1
        have HS2 := Aside0.mk hS2
        have HRR := Aside0.mk (show R = if S1 = S2 then (partsB l, 0) else (noParts, 24) by rw [hS1, hS2]; exact HR.out)
        clear hS1 hS2
        obtain ⟨nb, hnb⟩ : ∃ nb, nb = !(S1.toList == S2.toList) := ⟨_, rfl⟩
        have HNB := Aside0.mk hnb
        clear hnb
        refine start_ (n := 6) (S := fun w' => PCell w' g4 (partsB l) ∧ Kd.C (Kd.int .u8) w' A 512 l) (ds := []) #[false, false, false, false, false, false] (by kernel_rfl) rfl rfl ⟨P4'.out, hC5⟩ (fun hHeld => ?_)
        refine take_ (i := 0) (N := some 39) (v := .agg (partCells (partsB l)).toArray) (a' := ?_) #[true, false, false, false, false, false] rfl rfl (by kernel_rfl) (fun _ _ _ h => h) (Or.inl ⟨by rfl, ?_⟩) hHeld ?_ ?_
        rotate_left
        rotate_left
        · simp only [Act.put, List.setIfInBounds_toArray, List.set_cons_zero, List.set_cons_succ]
          rfl
        rotate_left
        · rintro w' ⟨s0, s1⟩
          exact exec_load25 rfl rfl s0 (partsB_len l)
        refine pure_ (i := 3) (N := some 42) (v := ?_) (a' := ?_) #[true, false, false, true, false, false] rfl rfl (by kernel_rfl) (fun _ _ _ h => h) (Or.inl ⟨by rfl, ?_⟩) ?_ ?_
        rotate_left
        · intro w'
          go_simp
          with_reducible rfl
        rotate_left
        · simp only [Act.put, List.setIfInBounds_toArray, List.set_cons_zero, List.set_cons_succ]
          rfl
        refine take_ (i := 4) (N := some 43) (v := .string S2) (a' := ?_) #[true, false, false, true, true, false] rfl rfl (by kernel_rfl) (fun _ _ _ h => h) (Or.inl ⟨by rfl, ?_⟩) hHeld ?_ ?_
        rotate_left
        rotate_left
        · simp only [Act.put, List.setIfInBounds_toArray, List.set_cons_zero, List.set_cons_succ]
          rfl
        rotate_left
        · rintro w' ⟨s0, s1⟩
          exact HS2.out ▸ exec_string rfl rfl s1
        refine one_ (i := 1) (N := some 40) #[true, true, false, true, true, false] rfl rfl (by kernel_rfl) (by decide) (fun K hK => ?_)
        refine goes_ Try.func26 (by kernel_rfl) rfl #[.agg (partCells (partsB l)).toArray] (by rfl) rfl rfl (by first | rfl | (simp only [List.map_toArray, List.map_cons, List.map_nil]; rfl)) ?_
        refine (refBytes_calls (partsB l) _ (partsB_len l) (Parts_B l)).mono ?_
        rintro e w2 ⟨v, rfl, hR2, hb2⟩
        obtain ⟨A9, c9, rfl, _, hC9⟩ := Kd.R_reads hR2
        refine ⟨_, rfl, hK.out _ _ ⟨hHeld.1.below hb2, Kd.C_below hHeld.2 hb2⟩ (fun hHeld => ?_)⟩
        clear hK K
        simp only [Act.put, List.setIfInBounds_toArray, List.set_cons_zero, List.set_cons_succ]
        refine one_ (i := 2) (N := some 41) #[true, true, true, true, true, false] rfl rfl (by kernel_rfl) (by decide) (fun K hK => ?_)
        refine event_stepN (by rfl) rfl (v := .string S1) (w1 := w2) (HS1.out ▸ exec_string rfl rfl hC9) (hK.out _ _ hHeld (fun hHeld => ?_))
        clear hK K
        simp only [Act.put, List.setIfInBounds_toArray, List.set_cons_zero, List.set_cons_succ]
        refine pure_ (i := 5) (N := some 44) (v := .bool nb) (a' := ?_) #[true, true, true, true, true, true] rfl rfl (by kernel_rfl) (fun _ _ _ h => h) (Or.inl ⟨by rfl, ?_⟩) ?_ ?_
        rotate_left
        rotate_left
        · simp only [Act.put, List.setIfInBounds_toArray, List.set_cons_zero, List.set_cons_succ]
          rfl
        rotate_left
        · intro w'
          rw [HNB.out]
          go_simp
        refine done_ (n := 0) (by kernel_rfl) ?_
        have HB2 := Aside0.mk (below_step (below_drew HB.out) hb2)
        have P22 := Aside0.mk ((show PCell wr.drew g2 noParts from P2.out).below hb2)
        have P42 := Aside0.mk hHeld.1
        clear hR2 hC9 hHeld hb2 hC5 HS1 HS2
        by_cases hs : S1 = S2
        · subst hs
          obtain rfl : nb = false := by rw [HNB.out]; simp
          have hRe := HRR.out
          rw [if_pos rfl] at hRe
          subst hRe
          go_wp2_with (first
            | ((with_reducible refine gate_dst (N := 46) rfl ?_); refine load_parts rfl (.tmp 4) rfl g4 (partsB l) rfl P42.out (partsB_len l) ?_)
            | ((with_reducible refine gate_ (.store 25 (.tmp 2) (.tmp 46)) rfl ?_); refine store_parts rfl (.tmp 2) (.tmp 46) rfl g2 noParts (partsB l) rfl rfl P22.out noParts_len (partsB_len l) ?_; intro w5 h5 hg5; have P5 := Aside0.mk h5; have HB5 := Aside0.mk (pw_below_grown HB2.out _ (below_size HB2.out) hg5 (fun k hk => Option.some.inj hk ▸ G2.out)); clear h5 hg5))
          exact bodyPost_ret (results_parts (p := 2) (u := 3) rfl _ _ g2 (partsB l) rfl P5.out (partsB_len l)) rfl ⟨rfl, HB5.out⟩
        · have hRe := HRR.out
          rw [if_neg hs] at hRe
          subst hRe
          obtain rfl : nb = true := by rw [HNB.out, str_ne hs]; rfl
          go_wp2_with (first
            | ((with_reducible refine gate_dst (N := 45) rfl ?_); refine Kd.event_run rfl (exec_build25 rfl _) ?_)
            | ((with_reducible refine gate_ (.store 25 (.tmp 2) (.tmp 45)) rfl ?_); refine store_parts rfl (.tmp 2) (.tmp 45) rfl g2 noParts noParts rfl rfl P22.out noParts_len noParts_len ?_; intro w5 h5 hg5; have P5 := Aside0.mk h5; have HB5 := Aside0.mk (pw_below_grown HB2.out _ (below_size HB2.out) hg5 (fun k hk => Option.some.inj hk ▸ G2.out)); clear h5 hg5))
          exact bodyPost_ret (results_parts (p := 2) (u := 3) rfl _ _ g2 noParts rfl P5.out noParts_len) rfl ⟨rfl, HB5.out⟩
      | succ k1 =>
        have hi := HI.out
        have hL := HL.out
        have hcc := HCC.out
        have hlt : decide (i < (8 : Int)) = true := decide_eq_true (by omega)
        have hw2 : wrap64 (i + 1) = i + 1 := by unfold wrap64; omega
        have hw3 : wrap64 (8 * i) = 8 * i := by unfold wrap64; omega
        have hw4 : wrap64 (8 * i + 4) = 8 * i + 4 := by unfold wrap64; omega
        have p1 : (0 ≤ i) = True := eq_true (by omega)
        have p2 : (i < 8) = True := eq_true (by omega)
        have p3 : (0 ≤ 8 * i) = True := eq_true (by omega)
        have p4 : (8 * i ≤ 512) = True := eq_true (by omega)
        have p5 : (0 ≤ 8 * i + 4) = True := eq_true (by omega)
        have p6 : (8 * i + 4 ≤ 512) = True := eq_true (by omega)
        have HI1 := Aside0.mk hi
        have hn1 : ¬ c = (8 * i).toNat := by omega
        have hn2 : ¬ c = (8 * i + 4).toNat := by omega
        have HI8 := Aside0.mk (show i.toNat < 8 ∧ i.toNat < (atB l i.toNat).length from ⟨by omega, by rw [atB_len l i.toNat (by omega)]; omega⟩)
        have HLO := Aside0.mk (show (8 * i).toNat ≤ 512 ∧ 4 ≤ 512 - (8 * i).toNat ∧ 512 - (8 * i).toNat ≤ c - (8 * i).toNat by omega)
        have HLO2 := Aside0.mk (show (8 * i + 4).toNat ≤ 512 ∧ 4 ≤ 512 - (8 * i + 4).toNat ∧ 512 - (8 * i + 4).toNat ≤ c - (8 * i + 4).toNat by omega)
        have HC5 := Aside0.mk (show Kd.C (Kd.int .u8) w A 512 l from hL ▸ HC.out)
        clear hi hL hcc
        go_wp2_with (first
          | (go_at_call 30; (with_reducible refine (dec_at _ _ _ (l.drop (8 * i).toNat) _ (drop_C (Kd.C_below HC5.out HB.out) _ HLO.out.1) HLO.out.2.1 HLO.out.2.2).mono ?_); rintro e w7 ⟨v7, rfl, hb⟩; have HB7 := Aside0.mk (below_step HB.out hb); have P27 := Aside0.mk (P2.out.below hb); have P47 := Aside0.mk (P4.out.below hb); have hc0 := P47.out.get0 i.toNat HI8.out.2; have hf0 := blk_frozen P47.out (i.toNat * 2); clear hb)
          | (go_at_call 30; (with_reducible refine (dec_at _ _ _ (l.drop (8 * i + 4).toNat) _ (drop_C (Kd.C_below HC5.out (below_set HB7.out G4.out)) _ HLO2.out.1) HLO2.out.2.1 HLO2.out.2.2).mono ?_); rintro e w8 ⟨v8, rfl, hb⟩; have HB8 := Aside0.mk (below_step (below_set HB7.out G4.out) hb); have P28 := Aside0.mk ((show PCell _ g2 noParts from blk_far P27.out (p := ⟨g4, i.toNat * 2, none⟩) HNE.out _).below hb); have P48 := Aside0.mk ((P47.out.set0 i.toNat HI8.out.2 (numB (l.drop (8 * i).toNat))).below hb); have hc1 := P48.out.get1 i.toNat (by rw [List.length_set]; exact HI8.out.2); have hf1 := blk_frozen P48.out (i.toNat * 2 + 1); clear hb))
        go_roundg k1
        case measure => omega
        case rel =>
          have hi := HI1.out
          refine ⟨i + 1, congrArg (Value.int .i64) hw2, ⟨by omega, by omega⟩, ⟨blk_far P28.out (p := ⟨g4, i.toNat * 2 + 1, none⟩) HNE.out _⟩, ⟨?_⟩, ⟨below_set HB8.out G4.out⟩⟩
          have h := P48.out.set1 i.toNat (by rw [List.length_set]; exact HI8.out.2) (numB (l.drop (8 * i + 4).toNat))
          have hs : (atB l i.toNat).length = 8 := atB_len l i.toNat (by omega)
          rw [List.set_set] at h
          have hg : ((atB l i.toNat).set i.toNat (numB (l.drop (8 * i).toNat), ((atB l i.toNat).getD i.toNat (0, 0)).2)).getD i.toNat (0, 0) = (numB (l.drop (8 * i).toNat), ((atB l i.toNat).getD i.toNat (0, 0)).2) := by
            rw [List.getD_eq_getElem?_getD, List.getElem?_set_self (by omega)]; rfl
          rw [hg] at h
          have he := atB_set l i.toNat (by omega)
          unfold partB at he
          rw [show 8 * i.toNat = (8 * i).toNat by omega, show (8 * i).toNat + 4 = (8 * i + 4).toNat by omega] at he
          rw [he, show i.toNat + 1 = (i + 1).toNat by omega] at h
          exact h
  · rw [if_neg hl] at hR
    have d0 : ((l.length : Int) != 512) = true := bne_iff_ne.2 (by omega)
    obtain rfl := hR
    clear hl hC hc
    go_enter Try.func14, Try.ntmps14
    go_wp2
    exact bodyPost_ret (results_parts (p := 2) (u := 3) rfl _ _ w.heap.size noParts rfl (blk_alloc (blk_new w _) _) noParts_len) rfl ⟨rfl, below_alloc (below_alloc (Below.refl _ _) _) _⟩
end Go.Proofs.Ytnbomjfpnpmllaa.Q
end
section
set_option linter.unusedSimpArgs false
set_option linter.unusedVariables false
namespace Go.Proofs.Ytnbomjfpnpmllaa.Q
open Go.RowKit Go.Proofs.YtnbomjfpnpmllaaW.PrintWords Go.Proofs.YtnbomjfpnpmllaaW.PrintLast Go.Proofs.YtnbomjfpnpmllaaW.PrintMore
def winG (f : Bool) (k es : Int) (ps : List Part) (ep : Int) (n : Nat) : Int × Int × Int :=
  if f = false then (0, 0, 1) else if es ≠ 0 then (0, 0, es) else if k < 0 then (0, n, 0) else if n = 0 then (0, 0, 24) else if ep ≠ 0 then (0, 0, ep)
  else if (ps.getD k.toNat (0, 0)).2 = 0 ∨ (n : Int) / 512 < (ps.getD k.toNat (0, 0)).1 + (ps.getD k.toNat (0, 0)).2 then (0, 0, 24) else ((ps.getD k.toNat (0, 0)).1 * 512, (ps.getD k.toNat (0, 0)).2 * 512, 0)
theorem div_bd (n : Nat) (h : n ≤ 32768) : 0 ≤ (n : Int) / 512 ∧ (n : Int) / 512 ≤ 64 := by omega
theorem div_wr (n : Nat) (h : n ≤ 32768) : wrap64 ((n : Int) / 512) = (n : Int) / 512 := by
  have := div_bd n h
  generalize (n : Int) / 512 = q at this
  unfold wrap64
  omega
theorem div_mod64 (n : Nat) (h : n ≤ 32768) : ((n : Int) / 512) % 18446744073709551616 = (n : Int) / 512 := by
  have := div_bd n h
  generalize (n : Int) / 512 = q at this
  omega
set_option maxHeartbeats 8000000 in
set_option maxRecDepth 100000 in
theorem win_walk (A : Option Addr) (n c : Nat) (s : ByteArray) (w : World) (f : Bool) (k es : Int) (rs : ByteArray) (ps : List Part) (ep : Int)
    (hF : ∀ W : World, Below w.heap.size w W → Calls Try.prog 32 #[.slice A n c] W (fun e w' => e = .returned (.bool f) ∧ Below W.heap.size W w'))
    (hS : ∀ W : World, Calls Try.prog 15 #[.string s] W (fun e w' => e = .returned (.tuple #[.int .i64 k, .string rs, .int .i64 es]) ∧ Below W.heap.size W w'))
    (hP : ∀ W : World, Below w.heap.size w W → f = true → 0 < n → Calls Try.prog 13 #[.slice A 512 c] W (fun e w' => e = .returned (.tuple #[.agg (partCells ps).toArray, .int .i64 ep]) ∧ Below W.heap.size W w'))
    (hk : es = 0 → k < 8) (hn : f = true → n ≤ 32768 ∧ n % 512 = 0) (hnc : n ≤ c) (hps : ps.length = 8) (hpr : Parts ps) :
    Calls Try.prog 18 #[.slice A n c, .string s] w fun e w' => e = .returned (.tuple #[.int .i64 (winG f k es ps ep n).1, .int .i64 (winG f k es ps ep n).2.1, .int .i64 (winG f k es ps ep n).2.2]) ∧ Below w.heap.size w w' := by
  obtain ⟨R, hR⟩ : ∃ R, R = winG f k es ps ep n := ⟨_, rfl⟩
  rw [← hR]
  unfold winG at hR
  have HF := Aside0.mk hF
  have HS := Aside0.mk hS
  clear hF hS
  cases f with
  | false =>
    rw [if_pos rfl] at hR
    obtain rfl := hR
    clear hP hk hn hnc
    go_enter Try.func18, Try.ntmps18
    go_wp2_with (go_at_call 32; (with_reducible refine (HF.out _ (Below.refl _ _)).mono ?_); rintro e w7 ⟨rfl, hb⟩; have HB := Aside0.mk hb; clear hb)
    exact bodyPost_ret (results_tmp3 rfl _ _ _) rfl ⟨rfl, HB.out⟩
  | true =>
    rw [if_neg (by decide)] at hR
    obtain ⟨hn1, hn2⟩ := hn rfl
    by_cases he : es = 0
    · subst he
      rw [if_neg (by decide)] at hR
      have hk8 := hk rfl
      by_cases hk0 : k < 0
      · rw [if_pos hk0] at hR
        have d1 : decide (k < 0) = true := decide_eq_true hk0
        obtain rfl := hR
        clear hP hk hn hnc hn1 hn2 hk8 hk0
        go_enter Try.func18, Try.ntmps18
        go_wp2_with (first
          | (go_at_call 32; (with_reducible refine (HF.out _ (Below.refl _ _)).mono ?_); rintro e w7 ⟨rfl, hb⟩; have HB := Aside0.mk hb; clear hb)
          | (go_at_call 15; (with_reducible refine (HS.out _).mono ?_); rintro e w8 ⟨rfl, hb⟩; have HB8 := Aside0.mk (below_step HB.out hb); clear hb))
        exact bodyPost_ret (results_tmp3 rfl _ _ _) rfl ⟨rfl, HB8.out⟩
      · rw [if_neg hk0] at hR
        have d1 : decide (k < 0) = false := decide_eq_false hk0
        by_cases hz : n = 0
        · rw [if_pos hz] at hR
          have d2 : ((n : Int) == 0) = true := by rw [hz]; rfl
          obtain rfl := hR
          clear hP hk hn hnc hn1 hn2 hk8 hk0 hz
          go_enter Try.func18, Try.ntmps18
          go_wp2_with (first
            | (go_at_call 32; (with_reducible refine (HF.out _ (Below.refl _ _)).mono ?_); rintro e w7 ⟨rfl, hb⟩; have HB := Aside0.mk hb; clear hb)
            | (go_at_call 15; (with_reducible refine (HS.out _).mono ?_); rintro e w8 ⟨rfl, hb⟩; have HB8 := Aside0.mk (below_step HB.out hb); clear hb))
          exact bodyPost_ret (results_tmp3 rfl _ _ _) rfl ⟨rfl, HB8.out⟩
        · rw [if_neg hz] at hR
          have d2 : ((n : Int) == 0) = false := beq_false_of_ne (by omega)
          have HP := Aside0.mk (fun W hW => hP W hW rfl (by omega))
          have q512 : ((512 : Int) ≤ (c : Int)) = True := eq_true (by omega)
          by_cases hep : ep = 0
          · subst hep
            rw [if_neg (by decide)] at hR
            obtain ⟨a, ha⟩ : ∃ a, a = (ps.getD k.toNat (0, 0)).1 := ⟨_, rfl⟩
            obtain ⟨b, hb⟩ : ∃ b, b = (ps.getD k.toNat (0, 0)).2 := ⟨_, rfl⟩
            have hrg := hpr.at_ k.toNat (by omega)
            have HG := Aside0.mk (show ∀ (W : World) (g : Nat), PCell W g ps → W.cell? ⟨g, k.toNat * 2, none⟩ = some (.int .u32 a) ∧ W.cell? ⟨g, k.toNat * 2 + 1, none⟩ = some (.int .u32 b) from fun W g h => ⟨ha ▸ h.get0 k.toNat (by omega), hb ▸ h.get1 k.toNat (by omega)⟩)
            rw [← ha, ← hb] at hR hrg
            clear ha hb
            have p1 : (0 ≤ k) = True := eq_true (by omega)
            have p2 : (k < 8) = True := eq_true (by omega)
            have m1 : a % 18446744073709551616 = a := Int.emod_eq_of_lt (by omega) (by omega)
            have m2 : b % 18446744073709551616 = b := Int.emod_eq_of_lt (by omega) (by omega)
            have m3 : (a + b) % 18446744073709551616 = a + b := Int.emod_eq_of_lt (by omega) (by omega)
            have m4 : wrap64 ((n : Int) / 512) = (n : Int) / 512 := div_wr n hn1
            have hq : 0 ≤ (n : Int) / 512 ∧ (n : Int) / 512 ≤ 64 := div_bd n hn1
            have m5 : ((n : Int) / 512) % 18446744073709551616 = (n : Int) / 512 := div_mod64 n hn1
            have m6 : wrap64 (a * 512) = a * 512 := by unfold wrap64; omega
            have m7 : wrap64 (b * 512) = b * 512 := by unfold wrap64; omega
            have v1 : IntKind.i64.wrap a = a := (i64_w _).trans (by unfold wrap64; omega)
            have v2 : IntKind.i64.wrap b = b := (i64_w _).trans (by unfold wrap64; omega)
            have v6 : IntKind.i64.wrap (a * 512) = a * 512 := (i64_w _).trans m6
            have v7 : IntKind.i64.wrap (b * 512) = b * 512 := (i64_w _).trans m7
            have HRA := Aside0.mk hrg
            have HPS := Aside0.mk hps
            by_cases hb0 : b = 0
            · subst hb0
              rw [if_pos (.inl rfl)] at hR
              obtain rfl := hR
              clear hP hk hn hnc hn1 hn2 hk8 hk0 hz hrg hpr hps
              go_enter Try.func18, Try.ntmps18
              go_wp2_with (first
                | (go_at_call 32; (with_reducible refine (HF.out _ (Below.refl _ _)).mono ?_); rintro e w7 ⟨rfl, hb⟩; have HB := Aside0.mk hb; clear hb)
                | (go_at_call 15; (with_reducible refine (HS.out _).mono ?_); rintro e w8 ⟨rfl, hb⟩; have HB8 := Aside0.mk (below_step HB.out hb); clear hb)
                | (go_at_call 13; (with_reducible refine (HP.out _ HB8.out).mono ?_); rintro e w9 ⟨rfl, hb⟩; have HB9 := Aside0.mk (below_step HB8.out hb); clear hb)
                | ((with_reducible refine gate_ (.store 25 (.tmp 10) (.tmp 38)) rfl ?_); refine store_parts rfl (.tmp 10) (.tmp 38) rfl w9.heap.size noParts ps rfl rfl (blk_new w9 _) noParts_len HPS.out ?_; intro w5 h5 hg5; have P5 := Aside0.mk h5; have hcs := HG.out w5 _ h5; have hc0 := hcs.1; have hc1 := hcs.2; have HB5 := Aside0.mk (pw_below_grown (below_alloc HB9.out _) _ (below_size (below_alloc HB9.out _)) hg5 (fun k hk => Option.some.inj hk ▸ below_size HB9.out)); clear h5 hg5 hcs))
              exact bodyPost_ret (results_tmp3 rfl _ _ _) rfl ⟨rfl, below_alloc HB5.out _⟩
            · have d4 : (b == 0) = false := beq_false_of_ne hb0
              by_cases hgt : (n : Int) / 512 < a + b
              · rw [if_pos (.inr hgt)] at hR
                have d5 : decide ((n : Int) / 512 < a + b) = true := decide_eq_true hgt
                obtain rfl := hR
                clear hP hk hn hnc hn1 hn2 hk8 hk0 hz hrg hpr hps hb0 hgt
                go_enter Try.func18, Try.ntmps18
                go_wp2_with (first
                  | (go_at_call 32; (with_reducible refine (HF.out _ (Below.refl _ _)).mono ?_); rintro e w7 ⟨rfl, hb⟩; have HB := Aside0.mk hb; clear hb)
                  | (go_at_call 15; (with_reducible refine (HS.out _).mono ?_); rintro e w8 ⟨rfl, hb⟩; have HB8 := Aside0.mk (below_step HB.out hb); clear hb)
                  | (go_at_call 13; (with_reducible refine (HP.out _ HB8.out).mono ?_); rintro e w9 ⟨rfl, hb⟩; have HB9 := Aside0.mk (below_step HB8.out hb); clear hb)
                  | ((with_reducible refine gate_ (.store 25 (.tmp 10) (.tmp 38)) rfl ?_); refine store_parts rfl (.tmp 10) (.tmp 38) rfl w9.heap.size noParts ps rfl rfl (blk_new w9 _) noParts_len HPS.out ?_; intro w5 h5 hg5; have P5 := Aside0.mk h5; have hcs := HG.out w5 _ h5; have hc0 := hcs.1; have hc1 := hcs.2; have HB5 := Aside0.mk (pw_below_grown (below_alloc HB9.out _) _ (below_size (below_alloc HB9.out _)) hg5 (fun k hk => Option.some.inj hk ▸ below_size HB9.out)); clear h5 hg5 hcs))
                exact bodyPost_ret (results_tmp3 rfl _ _ _) rfl ⟨rfl, below_alloc HB5.out _⟩
              · rw [if_neg (fun h => h.elim hb0 hgt)] at hR
                have d5 : decide ((n : Int) / 512 < a + b) = false := decide_eq_false hgt
                obtain rfl := hR
                clear hP hk hn hnc hn1 hn2 hk8 hk0 hz hrg hpr hps hb0 hgt
                go_enter Try.func18, Try.ntmps18
                go_wp2_with (first
                  | (go_at_call 32; (with_reducible refine (HF.out _ (Below.refl _ _)).mono ?_); rintro e w7 ⟨rfl, hb⟩; have HB := Aside0.mk hb; clear hb)
                  | (go_at_call 15; (with_reducible refine (HS.out _).mono ?_); rintro e w8 ⟨rfl, hb⟩; have HB8 := Aside0.mk (below_step HB.out hb); clear hb)
                  | (go_at_call 13; (with_reducible refine (HP.out _ HB8.out).mono ?_); rintro e w9 ⟨rfl, hb⟩; have HB9 := Aside0.mk (below_step HB8.out hb); clear hb)
                  | ((with_reducible refine gate_ (.store 25 (.tmp 10) (.tmp 38)) rfl ?_); refine store_parts rfl (.tmp 10) (.tmp 38) rfl w9.heap.size noParts ps rfl rfl (blk_new w9 _) noParts_len HPS.out ?_; intro w5 h5 hg5; have P5 := Aside0.mk h5; have hcs := HG.out w5 _ h5; have hc0 := hcs.1; have hc1 := hcs.2; have HB5 := Aside0.mk (pw_below_grown (below_alloc HB9.out _) _ (below_size (below_alloc HB9.out _)) hg5 (fun k hk => Option.some.inj hk ▸ below_size HB9.out)); clear h5 hg5 hcs))
                have hp0 := (blk_cell (blk_new w5 (.cells #[.int .u32 a, .int .u32 b] 24)) 0).trans rfl
                have hp1 := (blk_cell (blk_new w5 (.cells #[.int .u32 a, .int .u32 b] 24)) 1).trans rfl
                have HB6 := Aside0.mk (below_alloc HB5.out (.cells #[.int .u32 a, .int .u32 b] 24))
                generalize w5.alloc (.cells #[.int .u32 a, .int .u32 b] 24) = W6 at hp0 hp1 HB6 ⊢
                refine start_ (n := 11) (S := fun w' => w'.cell? ⟨w5.heap.size, 0, none⟩ = some (.int .u32 a) ∧ w'.cell? ⟨w5.heap.size, 1, none⟩ = some (.int .u32 b)) (ds := []) #[false, false, false, false, false, false, false, false, false, false, false] (by kernel_rfl) rfl rfl ⟨hp0, hp1⟩ (fun hHeld => ?_)
                refine pure_ (i := 0) (N := some 63) (v := ?_) (a' := ?_) #[true, false, false, false, false, false, false, false, false, false, false] rfl rfl (by kernel_rfl) (fun _ _ _ h => h) (Or.inl ⟨by rfl, ?_⟩) ?_ ?_
                rotate_left
                · intro w'
                  go_simp
                  with_reducible rfl
                rotate_left
                · simp only [Act.put, List.setIfInBounds_toArray, List.set_cons_zero, List.set_cons_succ]
                  rfl
                refine take_ (i := 1) (N := some 64) (v := .int .u32 a) (a' := ?_) #[true, true, false, false, false, false, false, false, false, false, false] rfl rfl (by kernel_rfl) (fun _ _ _ h => h) (Or.inl ⟨by rfl, ?_⟩) hHeld ?_ ?_
                rotate_left
                rotate_left
                · simp only [Act.put, List.setIfInBounds_toArray, List.set_cons_zero, List.set_cons_succ]
                  rfl
                rotate_left
                · rintro w' ⟨s0, s1⟩
                  go_simp
                refine pure_ (i := 2) (N := some 65) (v := ?_) (a' := ?_) #[true, true, true, false, false, false, false, false, false, false, false] rfl rfl (by kernel_rfl) (fun _ _ _ h => h) (Or.inl ⟨by rfl, ?_⟩) ?_ ?_
                rotate_left
                · intro w'
                  go_simp
                  with_reducible rfl
                rotate_left
                · simp only [Act.put, List.setIfInBounds_toArray, List.set_cons_zero, List.set_cons_succ]
                  rfl
                refine pure_ (i := 3) (N := some 66) (v := ?_) (a' := ?_) #[true, true, true, true, false, false, false, false, false, false, false] rfl rfl (by kernel_rfl) (fun _ _ _ h => h) (Or.inl ⟨by rfl, ?_⟩) ?_ ?_
                rotate_left
                · intro w'
                  go_simp
                  with_reducible rfl
                rotate_left
                · simp only [Act.put, List.setIfInBounds_toArray, List.set_cons_zero, List.set_cons_succ]
                  rfl
                refine pure_ (i := 4) (N := some 67) (v := ?_) (a' := ?_) #[true, true, true, true, true, false, false, false, false, false, false] rfl rfl (by kernel_rfl) (fun _ _ _ h => h) (Or.inl ⟨by rfl, ?_⟩) ?_ ?_
                rotate_left
                · intro w'
                  go_simp
                  with_reducible rfl
                rotate_left
                · simp only [Act.put, List.setIfInBounds_toArray, List.set_cons_zero, List.set_cons_succ]
                  rfl
                refine take_ (i := 5) (N := some 68) (v := .int .u32 b) (a' := ?_) #[true, true, true, true, true, true, false, false, false, false, false] rfl rfl (by kernel_rfl) (fun _ _ _ h => h) (Or.inl ⟨by rfl, ?_⟩) hHeld ?_ ?_
                rotate_left
                rotate_left
                · simp only [Act.put, List.setIfInBounds_toArray, List.set_cons_zero, List.set_cons_succ]
                  rfl
                rotate_left
                · rintro w' ⟨s0, s1⟩
                  go_simp
                refine pure_ (i := 6) (N := some 69) (v := ?_) (a' := ?_) #[true, true, true, true, true, true, true, false, false, false, false] rfl rfl (by kernel_rfl) (fun _ _ _ h => h) (Or.inl ⟨by rfl, ?_⟩) ?_ ?_
                rotate_left
                · intro w'
                  go_simp
                  with_reducible rfl
                rotate_left
                · simp only [Act.put, List.setIfInBounds_toArray, List.set_cons_zero, List.set_cons_succ]
                  rfl
                refine pure_ (i := 7) (N := some 70) (v := ?_) (a' := ?_) #[true, true, true, true, true, true, true, true, false, false, false] rfl rfl (by kernel_rfl) (fun _ _ _ h => h) (Or.inl ⟨by rfl, ?_⟩) ?_ ?_
                rotate_left
                · intro w'
                  go_simp
                  with_reducible rfl
                rotate_left
                · simp only [Act.put, List.setIfInBounds_toArray, List.set_cons_zero, List.set_cons_succ]
                  rfl
                refine pure_ (i := 8) (N := some 4) (v := ?_) (a' := ?_) #[true, true, true, true, true, true, true, true, true, false, false] rfl rfl (by kernel_rfl) (fun _ _ _ h => h) (Or.inl ⟨by rfl, ?_⟩) ?_ ?_
                rotate_left
                · intro w'
                  go_simp
                  with_reducible rfl
                rotate_left
                · simp only [Act.put, List.setIfInBounds_toArray, List.set_cons_zero, List.set_cons_succ]
                  rfl
                refine pure_ (i := 9) (N := some 5) (v := ?_) (a' := ?_) #[true, true, true, true, true, true, true, true, true, true, false] rfl rfl (by kernel_rfl) (fun _ _ _ h => h) (Or.inl ⟨by rfl, ?_⟩) ?_ ?_
                rotate_left
                · intro w'
                  go_simp
                  with_reducible rfl
                rotate_left
                · simp only [Act.put, List.setIfInBounds_toArray, List.set_cons_zero, List.set_cons_succ]
                  rfl
                refine pure_ (i := 10) (N := some 6) (v := ?_) (a' := ?_) #[true, true, true, true, true, true, true, true, true, true, true] rfl rfl (by kernel_rfl) (fun _ _ _ h => h) (Or.inl ⟨by rfl, ?_⟩) ?_ ?_
                rotate_left
                · intro w'
                  go_simp
                  with_reducible rfl
                rotate_left
                · simp only [Act.put, List.setIfInBounds_toArray, List.set_cons_zero, List.set_cons_succ]
                  rfl
                refine done_ (n := 0) (by kernel_rfl) ?_
                go_wp2
                exact bodyPost_ret (results_tmp3 rfl _ _ _) rfl ⟨rfl, below_drew HB6.out⟩
          · rw [if_pos hep] at hR
            have d3 : (ep != 0) = true := bne_iff_ne.2 hep
            obtain rfl := hR
            have HPS := Aside0.mk hps
            clear hP hk hn hnc hn1 hn2 hk8 hk0 hz hpr hps
            go_enter Try.func18, Try.ntmps18
            go_wp2_with (first
              | (go_at_call 32; (with_reducible refine (HF.out _ (Below.refl _ _)).mono ?_); rintro e w7 ⟨rfl, hb⟩; have HB := Aside0.mk hb; clear hb)
              | (go_at_call 15; (with_reducible refine (HS.out _).mono ?_); rintro e w8 ⟨rfl, hb⟩; have HB8 := Aside0.mk (below_step HB.out hb); clear hb)
              | (go_at_call 13; (with_reducible refine (HP.out _ HB8.out).mono ?_); rintro e w9 ⟨rfl, hb⟩; have HB9 := Aside0.mk (below_step HB8.out hb); clear hb)
              | ((with_reducible refine gate_ (.store 25 (.tmp 10) (.tmp 38)) rfl ?_); refine store_parts rfl (.tmp 10) (.tmp 38) rfl w9.heap.size noParts ps rfl rfl (blk_new w9 _) noParts_len HPS.out ?_; intro w5 h5 hg5; have P5 := Aside0.mk h5; have HB5 := Aside0.mk (pw_below_grown (below_alloc HB9.out _) _ (below_size (below_alloc HB9.out _)) hg5 (fun k hk => Option.some.inj hk ▸ below_size HB9.out)); clear h5 hg5))
            exact bodyPost_ret (results_tmp3 rfl _ _ _) rfl ⟨rfl, HB5.out⟩
    · rw [if_pos he] at hR
      have d1 : (es != 0) = true := bne_iff_ne.2 he
      obtain rfl := hR
      clear hP hk hn hnc hn1 hn2 he
      go_enter Try.func18, Try.ntmps18
      go_wp2_with (first
        | (go_at_call 32; (with_reducible refine (HF.out _ (Below.refl _ _)).mono ?_); rintro e w7 ⟨rfl, hb⟩; have HB := Aside0.mk hb; clear hb)
        | (go_at_call 15; (with_reducible refine (HS.out _).mono ?_); rintro e w8 ⟨rfl, hb⟩; have HB8 := Aside0.mk (below_step HB.out hb); clear hb))
      exact bodyPost_ret (results_tmp3 rfl _ _ _) rfl ⟨rfl, HB8.out⟩
end Go.Proofs.Ytnbomjfpnpmllaa.Q
end
