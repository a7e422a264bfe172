/- Contracts of Go functions and plain facts, of several texts, one behind the other; no condition. -/
import Derived.Test.YtefhngadeimklaaDoorMVarsLoads2
import Derived.Test.YtefhngadeimklaaDoorMVarsLoads5
import Derived.Test.YtefhngadeimklaaDoorMVarsLoads6
import Derived.Test.YtefhngadeimklaaDoorMVarsLoads7
section
namespace Go.Proofs.YtefhngadeimklaaDoor.Q
open Go.RowKit Go.Proofs.YtefhngadeimklaaDoorW.PrintWords Go.Proofs.YtefhngadeimklaaDoorW.PrintLast Go.Proofs.YtefhngadeimklaaDoorW.PrintMore
set_option linter.unusedVariables false
set_option linter.unusedSimpArgs false

attribute [local go_sem] max2_int min2_int max_two min_two max_three min_three max_four min_four
/-! ### nvram_Apply: function 36 -/
def nvram_Apply.l0 : Nat → List Int → List (S84) → Int → Int → Option (List Int)
  | 0, _, _, _, _ => none
  | k + 1, x0, x17, x18, x19 => if x19 < x18 then (if 0 ≤ x19 then (if x19 < (x17.length : Int) then (if ((rd_T84 x17 x19).f0) ≥ 0 then (if ((rd_T84 x17 x19).f0) < (x0.length : Int) then (if 0 ≤ ((rd_T84 x17 x19).f0) then (nvram_Apply.l0 k (x0.set (((rd_T84 x17 x19).f0) : Int).toNat ((rd_T84 x17 x19).f1)) x17 x18 (wrap64 (x19 + 1))) else (none)) else (nvram_Apply.l0 k x0 x17 x18 (wrap64 (x19 + 1)))) else (nvram_Apply.l0 k x0 x17 x18 (wrap64 (x19 + 1)))) else (none)) else (none)) else (some x0)
def nvram_Apply.f (k : Nat) (l0 : List Int) (l1 : List (S84)) (a2 : Int) : Option (List Int) := (slices_Clone_byte_byte.f l0).bind fun t37001 => (if 0 ≤ (mx 0 (mn a2 (l1.length : Int))) then (if (mx 0 (mn a2 (l1.length : Int))) ≤ (l1.length : Int) then ((some (l1.take ((mx 0 (mn a2 (l1.length : Int))) : Int).toNat : List (S84))).bind fun y37004 => (nvram_Apply.l0 k t37001 y37004 (y37004.length : Int) 0)) else (none)) else (none))
theorem nvram_Apply.mono_l : ∀ k, (∀ y0 y1 y2 y3, LeO (nvram_Apply.l0 k y0 y1 y2 y3) (nvram_Apply.l0 (k + 1) y0 y1 y2 y3))
  | 0 => fun _ _ _ _ r h => by simp [nvram_Apply.l0] at h
  | k + 1 => by
    have ih0 := nvram_Apply.mono_l k
    · intro y0 y1 y2 y3
      unfold nvram_Apply.l0
      repeat' first
      | (with_reducible exact ih0 _ _ _ _)
      | (with_reducible exact LeO.refl _)
      | (with_reducible exact LeO.none _)
      | (with_reducible refine LeO.ite ?_ ?_)
      | (with_reducible refine LeO.bind ?_ (fun _ => ?_))
      | exact ih0 _ _ _ _
      | exact LeO.none _
      | refine LeO.ite ?_ ?_
      | refine LeO.bind ?_ (fun _ => ?_)
theorem nvram_Apply.mono : ∀ a0 a1 a2 k, LeO (nvram_Apply.f k a0 a1 a2) (nvram_Apply.f (k + 1) a0 a1 a2) := by
  intro a0 a1 a2 k
  have ih0 := nvram_Apply.mono_l k
  unfold nvram_Apply.f
  repeat' first
      | (with_reducible exact ih0 _ _ _ _)
      | (with_reducible exact LeO.refl _)
      | (with_reducible exact LeO.none _)
      | (with_reducible refine LeO.ite ?_ ?_)
      | (with_reducible refine LeO.bind ?_ (fun _ => ?_))
      | exact ih0 _ _ _ _
      | exact LeO.none _
      | refine LeO.ite ?_ ?_
      | refine LeO.bind ?_ (fun _ => ?_)
set_option maxHeartbeats 8000000 in
set_option maxRecDepth 100000 in
theorem nvram_Apply.calls (k : Nat) (A0 : Option Addr) (c0 : Nat) (l0 : List Int) (A1 : Option Addr) (c1 : Nat) (l1 : List (S84)) (a2 : Int) (r : List Int) (w : World) (hr0 : Kd.C (Kd.int .u8) w A0 l0.length l0) (hc0 : l0.length ≤ c0) (hr1 : Kd.C k84 w A1 l1.length l1) (hc1 : l1.length ≤ c1) (h : nvram_Apply.f k l0 l1 a2 = some r) :
    Calls Tryd.prog 36 #[.slice A0 l0.length c0, .slice A1 l1.length c1, .int .i64 a2] w fun e w' => ∃ v0_ : Value, e = .returned (v0_) ∧ Kd.R (Kd.int .u8) 5 w' w.heap.size (fun _ => True) v0_ r ∧ Below w.heap.size w w' := by
  have hu84 := Tryd.underlying84
  have HR0 := Aside0.mk hr0
  have HC0 := Aside0.mk hc0
  clear hr0 hc0
  have HR1 := Aside0.mk hr1
  have HC1 := Aside0.mk hc1
  clear hr1 hc1
  have HB := Aside0.mk (Below.refl w.heap.size w)
  have H : ((slices_Clone_byte_byte.f l0).bind fun t37001 => (if 0 ≤ (mx 0 (mn a2 (l1.length : Int))) then (if (mx 0 (mn a2 (l1.length : Int))) ≤ (l1.length : Int) then ((some (l1.take ((mx 0 (mn a2 (l1.length : Int))) : Int).toNat : List (S84))).bind fun y37004 => (nvram_Apply.l0 k t37001 y37004 (y37004.length : Int) 0)) else (none)) else (none))) = some r := h
  clear h
  replace H := Option.bind_eq_some_iff.mp H
  obtain ⟨t37001, A40, H⟩ := H
  replace H : (if 0 ≤ (mx 0 (mn a2 (l1.length : Int))) then (if (mx 0 (mn a2 (l1.length : Int))) ≤ (l1.length : Int) then ((some (l1.take ((mx 0 (mn a2 (l1.length : Int))) : Int).toNat : List (S84))).bind fun y37004 => (nvram_Apply.l0 k t37001 y37004 (y37004.length : Int) 0)) else (none)) else (none)) = some r := H
  have A4 := Aside0.mk A40
  clear A40
  obtain ⟨ji5, hji5⟩ : ∃ j_ : Int, (mn a2 (l1.length : Int)) = j_ := ⟨_, rfl⟩
  replace H : (if 0 ≤ (mx 0 (ji5)) then (if (mx 0 (ji5)) ≤ (l1.length : Int) then ((some (l1.take ((mx 0 (ji5)) : Int).toNat : List (S84))).bind fun y37004 => (nvram_Apply.l0 k t37001 y37004 (y37004.length : Int) 0)) else (none)) else (none)) = some r := by first | (rw [hji5] at H; exact H) | (simp only [hji5] at H ⊢; exact H)
  (try rw [hji5] at A4)
  have hji5_ : (if (l1.length : Int) < a2 then (l1.length : Int) else a2) = ji5 := hji5
  obtain ⟨ji6, hji6⟩ : ∃ j_ : Int, (mx 0 (ji5)) = j_ := ⟨_, rfl⟩
  replace H : (if 0 ≤ (ji6) then (if (ji6) ≤ (l1.length : Int) then ((some (l1.take ((ji6) : Int).toNat : List (S84))).bind fun y37004 => (nvram_Apply.l0 k t37001 y37004 (y37004.length : Int) 0)) else (none)) else (none)) = some r := by first | (rw [hji6] at H; exact H) | (simp only [hji6] at H ⊢; exact H)
  (try rw [hji6] at A4)
  have hji6_ : (if 0 < (ji5) then (ji5) else 0) = ji6 := hji6
  by_cases c7 : 0 ≤ (ji6)
  · rw [if_pos c7] at H
    have c7b0 := eq_true c7
    have c7b1 : decide (0 ≤ (ji6)) = true := decide_eq_true c7
    clear c7
    by_cases c8 : (ji6) ≤ (l1.length : Int)
    · rw [if_pos c8] at H
      have c8b0 := eq_true c8
      have c8b1 : decide ((ji6) ≤ (l1.length : Int)) = true := decide_eq_true c8
      clear c8
      obtain ⟨y37004, hy37004⟩ : ∃ y_ : List (S84), y_ = (l1.take ((ji6) : Int).toNat) := ⟨_, rfl⟩
      replace H : (nvram_Apply.l0 k t37001 y37004 (y37004.length : Int) 0) = some r := by first | (rw [hy37004]; with_reducible exact H) | (have H2_ := (Option.bind_some _ _).symm.trans H; rw [hy37004]; with_reducible exact H2_) | (have H2_ := (Option.bind_some _ _).symm.trans H; with_reducible exact H2_) | with_reducible exact H | (rw [hy37004]; exact H) | exact H
      have Ny37004 := Aside0.mk hy37004
      clear hy37004
      have H' := Aside0.mk H
      clear H
      go_enter Tryd.func36, Tryd.ntmps36
      go_wp2_with (first | ((with_reducible refine gate_callee (f := 57) rfl ?_); refine goesL_ (some 10) rfl rfl Tryd.func57 (by kernel_rfl) rfl #[.slice A0 l0.length c0] rfl (by (try simp only [List.map_toArray, List.map_cons, List.map_nil]); first | done | rfl | (simp only [List.length_drop, List.length_take]; rfl)) ?_; (with_reducible refine (slices_Clone_byte_byte.calls _ _ l0 t37001 _ ?side1 ?side2 A4.out).mono ?_); (case side1 => repeat (first | exact HR0.out | (with_reducible refine Kd.C_alloc ?_ _) | (with_reducible refine Kd.C_drewN ?_ _) | (with_reducible refine Kd.C_drew ?_))); (case side2 => exact HC0.out); rintro e w9 ⟨v37002, rfl, ho0, hb⟩; refine ⟨_, rfl, ?_⟩; have n0_ := Aside0.mk (Kd.R_lower ho0 (below_size (by repeat (first | (with_reducible first | exact HB.out | apply below_alloc | apply pw_below_drewN | apply below_drew1) | exact HB.out)))); have n1_ := Aside0.mk (below_step (by repeat (first | (with_reducible first | exact HB.out | apply below_alloc | apply pw_below_drewN | apply below_drew1) | exact HB.out)) hb); clear HB; have HO37003 := n0_; have HB := n1_; clear n0_ n1_; (try clear hb); (try clear hb2); (try clear hk); (try clear hi); (try clear ho0); have q10 : ((ji6) : Int) ≤ ((l1.length : Int) : Int) := of_decide_eq_true (by first | (with_reducible assumption) | assumption); obtain ⟨i010, hi010, _, hsz10, _⟩ := info_parts info84; have hroom10 : l1.length ≤ c1 := HC1.out; have hC10 : Kd.C k84 _ A1 l1.length l1 := HR1.out; have hcut10 := cut_to (P := Tryd.prog) 48 84 .i64 Tryd.underlying48 hi010 A1 l1.length c1 (ji6) (of_decide_eq_true (by first | (with_reducible assumption) | assumption)) q10 hroom10; have hr10 := Kd.C_take (m := ((ji6) : Int).toNat) hC10 (by omega); have hy10 : y37004.length = ((ji6) : Int).toNat := (by rw [Ny37004.out, List.length_take]; omega); rw [← Ny37004.out] at hr10; rw [← hy10] at hcut10; have HR37007 := Aside0.mk hr10; have HC37007 := Aside0.mk (show y37004.length ≤ c1 from by omega); clear hr10 hC10 hroom10 hi010 hsz10; have KY10 := Aside0.mk hy10; clear hy10; replace q10 := eq_true q10))
      go_loopg [19] k (fun kq v19 w' => ∃ (x0_1 : List Int) (x19_1 : Int), v19 = .int .i64 x19_1 ∧ Aside0 (nvram_Apply.l0 kq x0_1 y37004 (y37004.length : Int) x19_1 = some r) ∧ Aside0 (kq ≤ k) ∧ Aside0 (Kd.R (Kd.int .u8) 5 w' w.heap.size (fun _ => True) v37002 x0_1) ∧ Aside0 (Below w.heap.size w w'))
      case atStart => exact ⟨(t37001), (0), (by first | rfl | (simp; done) | (simp [*]; done)), H', ⟨Nat.le_refl _⟩, ⟨by (with_reducible repeat (first | apply Kd.R_alloc | apply Kd.R_drewN | apply Kd.R_drew)); exact HO37003.out⟩, ⟨by repeat (first | (with_reducible first | exact HB.out | apply below_alloc | apply pw_below_drewN | apply below_drew1) | exact HB.out)⟩⟩
      case round =>
        clear H'
        try clear c1
        try clear q1
        try clear p2
        try clear c3
        try clear c5
        try clear c7
        try clear c7b0
        try clear c7b1
        try clear c8
        try clear c8b0
        try clear c8b1
        try clear q10
        try clear q10
        obtain ⟨x0_1, x19_1, rfl, HA, HK1, HO_0, HB⟩ := hrel
        cases gk with
        | zero => exact absurd HA.out (by simp [nvram_Apply.l0])
        | succ k1 =>
          have H := HA.out
          clear HA
          simp only [nvram_Apply.l0] at H
          by_cases c11 : x19_1 < (y37004.length : Int)
          · rw [if_pos c11] at H
            have c11b0 : decide (x19_1 < (y37004.length : Int)) = true := decide_eq_true c11
            clear c11
            by_cases c12 : 0 ≤ x19_1
            · rw [if_pos c12] at H
              have c12b0 : decide (0 ≤ x19_1) = true := decide_eq_true c12
              clear c12
              by_cases c13 : x19_1 < (y37004.length : Int)
              · rw [if_pos c13] at H
                have c13b0 : decide (x19_1 < (y37004.length : Int)) = true := decide_eq_true c13
                clear c13
                by_cases c14 : ((rd_T84 y37004 x19_1).f0) ≥ 0
                · rw [if_pos c14] at H
                  have c14b0 : decide (0 ≤ ((rd_T84 y37004 x19_1).f0)) = true := decide_eq_true c14
                  clear c14
                  by_cases c15 : ((rd_T84 y37004 x19_1).f0) < (x0_1.length : Int)
                  · rw [if_pos c15] at H
                    have c15b0 : decide (((rd_T84 y37004 x19_1).f0) < (x0_1.length : Int)) = true := decide_eq_true c15
                    clear c15
                    by_cases c16 : 0 ≤ ((rd_T84 y37004 x19_1).f0)
                    · rw [if_pos c16] at H
                      have c16b0 : decide (0 ≤ ((rd_T84 y37004 x19_1).f0)) = true := decide_eq_true c16
                      clear c16
                      obtain ⟨y37010, hy37010⟩ : ∃ y_ : List Int, y_ = (x0_1.set (((rd_T84 y37004 x19_1).f0) : Int).toNat ((rd_T84 y37004 x19_1).f1)) := ⟨_, rfl⟩
                      replace H : (nvram_Apply.l0 k1 y37010 y37004 (y37004.length : Int) (wrap64 (x19_1 + 1))) = some r := by first | (rw [hy37010]; with_reducible exact H) | (have H2_ := (Option.bind_some _ _).symm.trans H; rw [hy37010]; with_reducible exact H2_) | (have H2_ := (Option.bind_some _ _).symm.trans H; with_reducible exact H2_) | with_reducible exact H | (rw [hy37010]; exact H) | exact H
                      have Ny37010 := Aside0.mk hy37010
                      clear hy37010
                      have H' := Aside0.mk H
                      clear H
                      have p37008 : 0 ≤ (x19_1 : Int) := of_decide_eq_true (by first | (with_reducible assumption) | assumption)
                      have q37008 : x19_1 < (y37004.length : Int) := of_decide_eq_true (by first | (with_reducible assumption) | assumption)
                      obtain ⟨ad37008, e37008, hx37008_0, hx37008_1⟩ := at_T84 HR37007.out x19_1 p37008 q37008
                      cases e37008
                      replace hx37008_0 := (HB.out.cell (World.block_lt_of_cell? w _ hx37008_0)).trans hx37008_0
                      replace hx37008_1 := (HB.out.cell (World.block_lt_of_cell? w _ hx37008_1)).trans hx37008_1
                      replace p37008 := eq_true p37008
                      replace q37008 := eq_true q37008
                      go_wp2_with (first | ((with_reducible refine gate_dst (N := 8) rfl ?_); (try (refine gate_guard (by rfl) ?_; dsimp only)); refine box_event ?hg (N := 8) ?hd (cs := #[.int .i64 0, .int .u8 0]) (t := 84) ?hr ?_; (case hd => rfl); (case hg => rfl); (case hr => first | (go_simp; done) | (go_simp; rfl)); intro gb37009 hg w18 hbox hb; have n0_ := Aside0.mk (Kd.R_below (by (with_reducible repeat (first | apply Kd.R_alloc | apply Kd.R_drewN | apply Kd.R_drew)); exact HO_0.out) hb); have n1_ := Aside0.mk (below_step (by repeat (first | (with_reducible first | exact HB.out | apply below_alloc | apply pw_below_drewN | apply below_drew1) | exact HB.out)) hb); have n2_ := Aside0.mk (hbox); have n3_ := Aside0.mk ((by rw [hg]; exact (below_size (by repeat (first | (with_reducible first | exact HB.out | apply below_alloc | apply pw_below_drewN | apply below_drew1) | exact HB.out))) : w.heap.size ≤ gb37009)); have n4_ := Aside0.mk ((by rw [hg]; exact (below_size (by repeat (first | (with_reducible first | exact HB.out | apply below_alloc | apply pw_below_drewN | apply below_drew1) | exact HB.out))) : w.heap.size ≤ gb37009)); clear HO_0; clear HB; have HO_0 := n0_; have HB := n1_; have BK37009 := n2_; have GW37009 := n3_; have GE37009 := n4_; clear n0_ n1_ n2_ n3_ n4_; clear hb hbox hg; have hcz19_0 : w18.cell? ⟨gb37009, 0, none⟩ = some (.int .i64 0) := (blk_cell BK37009.out 0).trans rfl; have hcz19_1 : w18.cell? ⟨gb37009, 1, none⟩ = some (.int .u8 0) := (blk_cell BK37009.out 1).trans rfl; have hfz19_0 := blk_frozen BK37009.out 0; have hfz19_1 := blk_frozen BK37009.out 1) | ((with_reducible refine gate_store (t := 84) (p := 8) rfl ?_); refine store_event (t := 84) (p := 8) (v := ?vo_w20) (w1 := ((w18.setCell ⟨gb37009, 0, none⟩ (.int .i64 ((rd_T84 y37004 x19_1).f0))).setCell ⟨gb37009, 1, none⟩ (.int .u8 ((rd_T84 y37004 x19_1).f1)))) ?hg ?ho ?hn ?hr ?_; (case ho => rfl); (case hg => rfl); (case hn => rfl); (case hr => first | (go_simp; done) | (go_simp; rfl)); intro w20 hw; have n0_ : Aside0 (Kd.R (Kd.int .u8) 5 w20 w.heap.size (fun _ => True) v37002 x0_1) := ⟨(by rw [hw]; exact (by (with_reducible repeat (first | apply Kd.R_alloc | apply Kd.R_drewN | apply Kd.R_drew)); exact Kd.R_mono (Kd.R_far (p := ⟨gb37009, 1, none⟩) (Kd.R_far (p := ⟨gb37009, 0, none⟩) (Kd.R_types HO_0.out BK37009.out (by decide)) (fun _ hk => hk.2) (.int .i64 ((rd_T84 y37004 x19_1).f0))) (fun _ hk => hk.2) (.int .u8 ((rd_T84 y37004 x19_1).f1))) (fun _ hk => trivial)))⟩; have n1_ : Aside0 (w20.heap[gb37009]? = some (.cells #[.int .i64 ((rd_T84 y37004 x19_1).f0), .int .u8 ((rd_T84 y37004 x19_1).f1)] 84 (0, 0))) := ⟨(by rw [hw]; exact (by (with_reducible repeat (first | refine blk_drewN ?_ _ | refine blk_drew ?_ | refine blk_alloc ?_ _)); refine blk_put (cs := #[.int .i64 ((rd_T84 y37004 x19_1).f0), .int .u8 0]) ?_ 1 _ rfl; (with_reducible repeat (first | refine blk_drewN ?_ _ | refine blk_drew ?_ | refine blk_alloc ?_ _)); refine blk_put (cs := #[.int .i64 0, .int .u8 0]) ?_ 0 _ rfl; (with_reducible repeat (first | refine blk_drewN ?_ _ | refine blk_drew ?_ | refine blk_alloc ?_ _)); exact BK37009.out))⟩; have n2_ : Aside0 (Below w.heap.size w w20) := ⟨(by rw [hw]; exact (by repeat (first | (with_reducible first | exact HB.out | apply below_alloc | apply pw_below_drewN | apply below_drew1 | refine below_set ?_ GE37009.out) | exact HB.out)))⟩; clear hw; clear HO_0; clear BK37009; clear HB; have HO_0 := n0_; have BK37009 := n1_; have HB := n2_; clear n0_ n1_ n2_; have hcz21_0 : w20.cell? ⟨gb37009, 0, none⟩ = some (.int .i64 ((rd_T84 y37004 x19_1).f0)) := (blk_cell BK37009.out 0).trans rfl; have hcz21_1 : w20.cell? ⟨gb37009, 1, none⟩ = some (.int .u8 ((rd_T84 y37004 x19_1).f1)) := (blk_cell BK37009.out 1).trans rfl; have hfz21_0 := blk_frozen BK37009.out 0; have hfz21_1 := blk_frozen BK37009.out 1; obtain ⟨Ao22, co22, eo22⟩ := Kd.R_slice HO_0.out; subst eo22; have p17 : 0 ≤ (((rd_T84 y37004 x19_1).f0) : Int) := of_decide_eq_true (by first | (with_reducible assumption) | assumption); have q17 : (((rd_T84 y37004 x19_1).f0) : Int) < ((x0_1.length : Int) : Int) := of_decide_eq_true (by first | (with_reducible assumption) | assumption); obtain ⟨go17, co17, eo17, gb17, gl17, cl17, HG17⟩ := Kd.R_form HO_0.out (by omega); (first | cases eo17 | (injection eo17 with ea_ en_ ec_; (first | subst ea_ | (injection ea_ with ea_; subst ea_)); subst ec_; clear en_)); have GB17 := Aside0.mk gb17; have GG17 := Aside0.mk HG17; clear gb17 gl17 HG17; obtain ⟨hx17_0, hf17_0⟩ := Kd.R_celln 0 HO_0.out (((rd_T84 y37004 x19_1).f0) : Int) p17 q17; replace p17 := eq_true p17; replace q17 := eq_true q17; obtain ⟨hy23_, hz23_⟩ := Kd.R_celln 0 HO_0.out (((rd_T84 y37004 x19_1).f0) : Int) (of_decide_eq_true (by first | (with_reducible assumption) | assumption)) (of_decide_eq_true (by first | (with_reducible assumption) | assumption)); have HP23 := Kd.R_putg HO_0.out (((rd_T84 y37004 x19_1).f0) : Int) ((rd_T84 y37004 x19_1).f1)) | ((with_reducible refine gate_store (t := 5) (p := 38) rfl ?_); refine store_event (t := 5) (p := 38) (v := ?vo_w24) (w1 := (w20.setCell ⟨go17, (((rd_T84 y37004 x19_1).f0) : Int).toNat, none⟩ (.int .u8 ((rd_T84 y37004 x19_1).f1)))) ?hg ?ho ?hn ?hr ?_; (case ho => rfl); (case hg => rfl); (case hn => rfl); (case hr => first | (go_simp; done) | (go_simp; rfl)); intro w24 hw; have hg : w20.grownBy w24 (some go17) := (by rw [hw]; exact HP23.2); have hp_ : Kd.R (Kd.int .u8) 5 w24 w.heap.size (fun _ => True) (.slice (some ⟨go17, 0, none⟩) x0_1.length co22) y37010 := (by rw [hw, Ny37010.out]; exact HP23.1); clear HP23; have n0_ := Aside0.mk (hp_); have n1_ := Aside0.mk (blk_grown (g := gb37009) (o := .cells #[.int .i64 ((rd_T84 y37004 x19_1).f0), .int .u8 ((rd_T84 y37004 x19_1).f1)] 84 (0, 0)) (by (with_reducible repeat (first | refine blk_drewN ?_ _ | refine blk_drew ?_ | refine blk_alloc ?_ _)); exact BK37009.out) hg (Kd.R_ne HO_0.out BK37009.out (by decide))); have n2_ := Aside0.mk ((by rw [hw]; exact below_set (HB.out) GB17.out : Below w.heap.size w w24)); clear HO_0; clear BK37009; clear HB; have HO_0 := n0_; have BK37009 := n1_; have HB := n2_; clear n0_ n1_ n2_; clear hg hw hp_))
                      go_roundg k1
                      case measure => have := HK1.out; omega
                      case rel => exact ⟨(y37010), (wrap64 (x19_1 + 1)), (by first | rfl | (simp; done) | (simp [*]; done)), H', ⟨by have := HK1.out; omega⟩, ⟨by (with_reducible repeat (first | apply Kd.R_alloc | apply Kd.R_drewN | apply Kd.R_drew)); exact HO_0.out⟩, ⟨by repeat (first | (with_reducible first | exact HB.out | apply below_alloc | apply pw_below_drewN | apply below_drew1 | refine below_set ?_ GE37009.out) | exact HB.out)⟩⟩
                    · rw [if_neg c16] at H
                      exact absurd H (by simp)
                  · rw [if_neg c15] at H
                    have c15b0 : decide (((rd_T84 y37004 x19_1).f0) < (x0_1.length : Int)) = false := decide_eq_false c15
                    clear c15
                    have H' := Aside0.mk H
                    clear H
                    have p37008 : 0 ≤ (x19_1 : Int) := of_decide_eq_true (by first | (with_reducible assumption) | assumption)
                    have q37008 : x19_1 < (y37004.length : Int) := of_decide_eq_true (by first | (with_reducible assumption) | assumption)
                    obtain ⟨ad37008, e37008, hx37008_0, hx37008_1⟩ := at_T84 HR37007.out x19_1 p37008 q37008
                    cases e37008
                    replace hx37008_0 := (HB.out.cell (World.block_lt_of_cell? w _ hx37008_0)).trans hx37008_0
                    replace hx37008_1 := (HB.out.cell (World.block_lt_of_cell? w _ hx37008_1)).trans hx37008_1
                    replace p37008 := eq_true p37008
                    replace q37008 := eq_true q37008
                    go_wp2_with (first | ((with_reducible refine gate_dst (N := 8) rfl ?_); (try (refine gate_guard (by rfl) ?_; dsimp only)); refine box_event ?hg (N := 8) ?hd (cs := #[.int .i64 0, .int .u8 0]) (t := 84) ?hr ?_; (case hd => rfl); (case hg => rfl); (case hr => first | (go_simp; done) | (go_simp; rfl)); intro gb37009 hg w25 hbox hb; have n0_ := Aside0.mk (Kd.R_below (by (with_reducible repeat (first | apply Kd.R_alloc | apply Kd.R_drewN | apply Kd.R_drew)); exact HO_0.out) hb); have n1_ := Aside0.mk (below_step (by repeat (first | (with_reducible first | exact HB.out | apply below_alloc | apply pw_below_drewN | apply below_drew1) | exact HB.out)) hb); have n2_ := Aside0.mk (hbox); have n3_ := Aside0.mk ((by rw [hg]; exact (below_size (by repeat (first | (with_reducible first | exact HB.out | apply below_alloc | apply pw_below_drewN | apply below_drew1) | exact HB.out))) : w.heap.size ≤ gb37009)); have n4_ := Aside0.mk ((by rw [hg]; exact (below_size (by repeat (first | (with_reducible first | exact HB.out | apply below_alloc | apply pw_below_drewN | apply below_drew1) | exact HB.out))) : w.heap.size ≤ gb37009)); clear HO_0; clear HB; have HO_0 := n0_; have HB := n1_; have BK37009 := n2_; have GW37009 := n3_; have GE37009 := n4_; clear n0_ n1_ n2_ n3_ n4_; clear hb hbox hg; have hcz26_0 : w25.cell? ⟨gb37009, 0, none⟩ = some (.int .i64 0) := (blk_cell BK37009.out 0).trans rfl; have hcz26_1 : w25.cell? ⟨gb37009, 1, none⟩ = some (.int .u8 0) := (blk_cell BK37009.out 1).trans rfl; have hfz26_0 := blk_frozen BK37009.out 0; have hfz26_1 := blk_frozen BK37009.out 1; obtain ⟨Ao27, co27, eo27⟩ := Kd.R_slice HO_0.out; subst eo27))
                    go_roundg k1
                    case measure => have := HK1.out; omega
                    case rel => exact ⟨(x0_1), (wrap64 (x19_1 + 1)), (by first | rfl | (simp; done) | (simp [*]; done)), H', ⟨by have := HK1.out; omega⟩, ⟨by (with_reducible repeat (first | apply Kd.R_alloc | apply Kd.R_drewN | apply Kd.R_drew)); exact Kd.R_mono (Kd.R_far (p := ⟨gb37009, 1, none⟩) (Kd.R_far (p := ⟨gb37009, 0, none⟩) (Kd.R_types HO_0.out BK37009.out (by decide)) (fun _ hk => hk.2) (.int .i64 ((rd_T84 y37004 x19_1).f0))) (fun _ hk => hk.2) (.int .u8 ((rd_T84 y37004 x19_1).f1))) (fun _ hk => trivial)⟩, ⟨by repeat (first | (with_reducible first | exact HB.out | apply below_alloc | apply pw_below_drewN | apply below_drew1 | refine below_set ?_ GE37009.out) | exact HB.out)⟩⟩
                · rw [if_neg c14] at H
                  have c14b0 : decide (0 ≤ ((rd_T84 y37004 x19_1).f0)) = false := decide_eq_false c14
                  clear c14
                  have H' := Aside0.mk H
                  clear H
                  have p37008 : 0 ≤ (x19_1 : Int) := of_decide_eq_true (by first | (with_reducible assumption) | assumption)
                  have q37008 : x19_1 < (y37004.length : Int) := of_decide_eq_true (by first | (with_reducible assumption) | assumption)
                  obtain ⟨ad37008, e37008, hx37008_0, hx37008_1⟩ := at_T84 HR37007.out x19_1 p37008 q37008
                  cases e37008
                  replace hx37008_0 := (HB.out.cell (World.block_lt_of_cell? w _ hx37008_0)).trans hx37008_0
                  replace hx37008_1 := (HB.out.cell (World.block_lt_of_cell? w _ hx37008_1)).trans hx37008_1
                  replace p37008 := eq_true p37008
                  replace q37008 := eq_true q37008
                  go_wp2_with (first | ((with_reducible refine gate_dst (N := 8) rfl ?_); (try (refine gate_guard (by rfl) ?_; dsimp only)); refine box_event ?hg (N := 8) ?hd (cs := #[.int .i64 0, .int .u8 0]) (t := 84) ?hr ?_; (case hd => rfl); (case hg => rfl); (case hr => first | (go_simp; done) | (go_simp; rfl)); intro gb37009 hg w28 hbox hb; have n0_ := Aside0.mk (Kd.R_below (by (with_reducible repeat (first | apply Kd.R_alloc | apply Kd.R_drewN | apply Kd.R_drew)); exact HO_0.out) hb); have n1_ := Aside0.mk (below_step (by repeat (first | (with_reducible first | exact HB.out | apply below_alloc | apply pw_below_drewN | apply below_drew1) | exact HB.out)) hb); have n2_ := Aside0.mk (hbox); have n3_ := Aside0.mk ((by rw [hg]; exact (below_size (by repeat (first | (with_reducible first | exact HB.out | apply below_alloc | apply pw_below_drewN | apply below_drew1) | exact HB.out))) : w.heap.size ≤ gb37009)); have n4_ := Aside0.mk ((by rw [hg]; exact (below_size (by repeat (first | (with_reducible first | exact HB.out | apply below_alloc | apply pw_below_drewN | apply below_drew1) | exact HB.out))) : w.heap.size ≤ gb37009)); clear HO_0; clear HB; have HO_0 := n0_; have HB := n1_; have BK37009 := n2_; have GW37009 := n3_; have GE37009 := n4_; clear n0_ n1_ n2_ n3_ n4_; clear hb hbox hg; have hcz29_0 : w28.cell? ⟨gb37009, 0, none⟩ = some (.int .i64 0) := (blk_cell BK37009.out 0).trans rfl; have hcz29_1 : w28.cell? ⟨gb37009, 1, none⟩ = some (.int .u8 0) := (blk_cell BK37009.out 1).trans rfl; have hfz29_0 := blk_frozen BK37009.out 0; have hfz29_1 := blk_frozen BK37009.out 1))
                  go_roundg k1
                  case measure => have := HK1.out; omega
                  case rel => exact ⟨(x0_1), (wrap64 (x19_1 + 1)), (by first | rfl | (simp; done) | (simp [*]; done)), H', ⟨by have := HK1.out; omega⟩, ⟨by (with_reducible repeat (first | apply Kd.R_alloc | apply Kd.R_drewN | apply Kd.R_drew)); exact Kd.R_mono (Kd.R_far (p := ⟨gb37009, 1, none⟩) (Kd.R_far (p := ⟨gb37009, 0, none⟩) (Kd.R_types HO_0.out BK37009.out (by decide)) (fun _ hk => hk.2) (.int .i64 ((rd_T84 y37004 x19_1).f0))) (fun _ hk => hk.2) (.int .u8 ((rd_T84 y37004 x19_1).f1))) (fun _ hk => trivial)⟩, ⟨by repeat (first | (with_reducible first | exact HB.out | apply below_alloc | apply pw_below_drewN | apply below_drew1 | refine below_set ?_ GE37009.out) | exact HB.out)⟩⟩
              · rw [if_neg c13] at H
                exact absurd H (by simp)
            · rw [if_neg c12] at H
              exact absurd H (by simp)
          · rw [if_neg c11] at H
            have c11b0 : decide (x19_1 < (y37004.length : Int)) = false := decide_eq_false c11
            clear c11
            obtain rfl := Option.some.inj H
            go_wp2
            go_ret
            exact ⟨_, by first | rfl | (simp [errW_none, errW_some] <;> rfl) | (simp only [← hji5, ← hji6]; first | rfl | (simp [errW_none, errW_some] <;> rfl)) | (simp [*, errW_none, errW_some] <;> rfl), by (with_reducible repeat (first | apply Kd.R_alloc | apply Kd.R_drewN | apply Kd.R_drew)); exact HO_0.out, by repeat (first | (with_reducible first | exact HB.out | apply below_alloc | apply pw_below_drewN | apply below_drew1) | exact HB.out)⟩
    · rw [if_neg c8] at H
      exact absurd H (by simp)
  · rw [if_neg c7] at H
    exact absurd H (by simp)

end Go.Proofs.YtefhngadeimklaaDoor.Q
end
section
namespace Go.Proofs.YtefhngadeimklaaDoor.Q
open Go.RowKit Go.Proofs.YtefhngadeimklaaDoorW.PrintWords Go.Proofs.YtefhngadeimklaaDoorW.PrintLast Go.Proofs.YtefhngadeimklaaDoorW.PrintMore
def stepA (x : List Int) (p : S84) : List Int := if 0 ≤ p.f0 ∧ p.f0 < x.length then x.set p.f0.toNat p.f1 else x
def applyF (nv : List Int) (l : List S84) (n : Int) : List Int := (l.take n.toNat).foldl stepA nv
theorem rd62_at (L : List S84) (i : Int) (h : i.toNat < L.length) : L[i.toNat]'h = rd_T84 L i := by simp [rd_T84, List.getD_eq_getElem?_getD, List.getElem?_eq_getElem h]
theorem apply_go (L : List S84) (hL : L.length ≤ 1000000000000000) (d : Nat) : ∀ (k : Nat) (x : List Int) (i : Int), 0 ≤ i → i + d = L.length → d < k → nvram_Apply.l0 k x L (L.length : Int) i = some ((L.drop i.toNat).foldl stepA x) := by
  induction d with
  | zero =>
    intro k x i h0 h1 hk
    obtain ⟨k, rfl⟩ : ∃ m, k = m + 1 := ⟨k - 1, by omega⟩
    simp only [nvram_Apply.l0]
    rw [if_neg (by omega), List.drop_eq_nil_of_le (by omega)]
    rfl
  | succ d ih =>
    intro k x i h0 h1 hk
    obtain ⟨k, rfl⟩ : ∃ m, k = m + 1 := ⟨k - 1, by omega⟩
    have hil : i.toNat < L.length := by omega
    have e1 : wrap64 (i + 1) = i + 1 := by unfold wrap64; omega
    have e2 : (i + 1).toNat = i.toNat + 1 := by omega
    simp only [nvram_Apply.l0]
    rw [if_pos (by omega), if_pos h0, if_pos (by omega), e1, ih k _ (i + 1) (by omega) (by omega) (by omega), ih k _ (i + 1) (by omega) (by omega) (by omega), List.drop_eq_getElem_cons hil, List.foldl_cons, rd62_at L i hil, e2]
    unfold stepA
    by_cases c1 : 0 ≤ (rd_T84 L i).f0
    · by_cases c2 : (rd_T84 L i).f0 < x.length
      · rw [if_pos (by omega), if_pos c2, if_pos c1, if_pos ⟨c1, c2⟩]
      · rw [if_pos (by omega), if_neg c2, if_neg (fun h => c2 h.2)]
    · rw [if_neg (by omega), if_neg (fun h => c1 h.1)]
theorem apply_eq (k : Nat) (nv : List Int) (l : List S84) (n : Int) (hn : nv.length ≤ 140737488351232) (hl : l.length ≤ 100000000000000) (hk : l.length < k) : nvram_Apply.f k nv l n = some (applyF nv l n) := by
  unfold nvram_Apply.f
  have e1 : slices_Clone_byte_byte.f nv = some nv := by unfold slices_Clone_byte_byte.f; rw [if_pos (by omega)]
  obtain ⟨m, hm⟩ : ∃ m, mx 0 (mn n (l.length : Int)) = m := ⟨_, rfl⟩
  have hm2 : 0 ≤ m ∧ m ≤ l.length ∧ l.take m.toNat = l.take n.toNat := by
    have h1 : m = if 0 < (if (l.length : Int) < n then (l.length : Int) else n) then (if (l.length : Int) < n then (l.length : Int) else n) else 0 := hm.symm
    by_cases h2 : (l.length : Int) < n
    · rw [if_pos h2] at h1
      have h3 : m = l.length := by split at h1 <;> omega
      refine ⟨by omega, by omega, ?_⟩
      rw [List.take_of_length_le (by omega), List.take_of_length_le (by omega)]
    · rw [if_neg h2] at h1
      have h3 : m.toNat = n.toNat := by split at h1 <;> omega
      refine ⟨by split at h1 <;> omega, by split at h1 <;> omega, by rw [h3]⟩
  rw [e1, Option.bind_some, hm, if_pos hm2.1, if_pos hm2.2.1, Option.bind_some, hm2.2.2]
  have h := apply_go (l.take n.toNat) (by rw [List.length_take]; omega) (l.take n.toNat).length k nv 0 (by omega) (by omega) (by rw [List.length_take]; omega)
  rw [h]
  rfl
end Go.Proofs.YtefhngadeimklaaDoor.Q
end
section
namespace Go.Proofs.YtefhngadeimklaaDoor.Q
open Go.RowKit Go.Proofs.YtefhngadeimklaaDoorW.PrintWords Go.Proofs.YtefhngadeimklaaDoorW.PrintLast Go.Proofs.YtefhngadeimklaaDoorW.PrintMore
def over (L : List Int) (o : Nat) (X : List Int) : List Int := L.take o ++ X ++ L.drop (o + X.length)
theorem over_len (L X : List Int) (o : Nat) (h : o + X.length ≤ L.length) : (over L o X).length = L.length := by
  unfold over
  simp
  omega
theorem over_snoc (L X : List Int) (o : Nat) (v : Int) (h : o + X.length < L.length) : (over L o X).set (o + X.length) v = over L o (X ++ [v]) := by
  unfold over
  have hl : (L.take o ++ X).length = o + X.length := by simp; omega
  rw [List.set_append_right _ _ (by omega), hl, Nat.sub_self, List.drop_eq_getElem_cons h, List.set_cons_zero]
  simp [Nat.add_assoc]
theorem over_head (L X : List Int) (o : Nat) (u v : Int) (h : o + X.length < L.length) : (over L o (u :: X)).set o v = over L o (v :: X) := by
  unfold over
  have hl : (L.take o).length = o := by rw [List.length_take]; omega
  rw [List.append_assoc, List.append_assoc, List.set_append_right _ _ (by omega), hl, Nat.sub_self]
  rfl
theorem lay_prefix (base : Int) (C : List Int) : ∀ rows : List S84, ∃ t, layF base rows C = rows ++ t := by
  induction C with
  | nil => intro rows; exact ⟨[], by simp [layF]⟩
  | cons c C ih =>
    intro rows
    obtain ⟨t, ht⟩ := ih (rows ++ [⟨base + rows.length, c⟩])
    exact ⟨[⟨base + rows.length, c⟩] ++ t, by rw [← List.append_assoc]; exact ht⟩
theorem take_lay (base : Int) (C : List Int) : ∀ (rows : List S84) (j : Nat), rows.length ≤ j → (layF base rows C).take j = layF base rows (C.take (j - rows.length)) := by
  induction C with
  | nil => intro rows j h; simp [layF, List.take_of_length_le h]
  | cons c C ih =>
    intro rows j h
    by_cases he : j = rows.length
    · obtain ⟨t, ht⟩ := lay_prefix base (c :: C) rows
      rw [ht, he, Nat.sub_self, List.take_zero]
      simp [layF]
    · rw [show j - rows.length = (j - (rows.length + 1)) + 1 by omega, List.take_succ_cons]
      have := ih (rows ++ [⟨base + rows.length, c⟩]) j (by simp; omega)
      simp only [List.length_append, List.length_cons, List.length_nil, Nat.zero_add] at this
      exact this
theorem apply_lay (nv : List Int) (base : Nat) (C : List Int) : ∀ (rows : List S84) (X : List Int), rows.length = X.length → rows.foldl stepA nv = over nv base X → base + X.length + C.length ≤ nv.length → (layF base rows C).foldl stepA nv = over nv base (X ++ C) := by
  induction C with
  | nil => intro rows X h1 h2 h3; simpa [layF] using h2
  | cons c C ih =>
    intro rows X h1 h2 h3
    simp only [List.length_cons] at h3
    have h := ih (rows ++ [⟨(base : Int) + rows.length, c⟩]) (X ++ [c]) (by simp [h1]) (by
      rw [List.foldl_append, h2]
      simp only [List.foldl_cons, List.foldl_nil, stepA]
      rw [if_pos (by rw [over_len _ _ _ (by omega)]; omega), show ((base : Int) + (rows.length : Int)).toNat = base + X.length by omega, over_snoc _ _ _ _ (by omega)]) (by simp; omega)
    rw [List.append_assoc] at h
    exact h
def body (g : Int) (data : List Int) : List Int := [g, (data.length : Int) / 256 % 256, (data.length : Int) % 256] ++ fourF (sumF g data) ++ data
theorem body_len (g : Int) (data : List Int) : (body g data).length = data.length + 7 := by simp [body, fourF]
theorem rows_body (base g : Int) (data : List Int) : rowsF base g data = layF base [⟨base, 0⟩] (body g data) ++ [⟨base, 165⟩] := by
  unfold rowsF body layF
  rw [List.foldl_append, List.foldl_append]
theorem body_bytes (g : Int) (data : List Int) (hg : 0 ≤ g ∧ g < 256) (hd : nv_Bytes data) : nv_Bytes (body g data) := by
  intro a ha
  simp only [body, fourF, List.mem_append, List.mem_cons, List.not_mem_nil, or_false] at ha
  rcases ha with ((rfl | rfl | rfl) | (rfl | rfl | rfl | rfl)) | ha
  · exact hg
  all_goals first | exact hd a ha | omega
/-- The three states. -/
theorem apply_none (nv : List Int) (l : List S84) (n : Int) (h : n ≤ 0) : applyF nv l n = nv := by
  unfold applyF
  rw [show n.toNat = 0 by omega]
  rfl
theorem apply_part (nv : List Int) (base : Nat) (g : Int) (data : List Int) (n : Int) (hl : base + (data.length + 8) ≤ nv.length) (h1 : 0 < n) (h2 : n < data.length + 9) : applyF nv (rowsF base g data) n = over nv base (0 :: (body g data).take (n.toNat - 1)) := by
  unfold applyF
  have hb := body_len g data
  have hr : (layF (base : Int) [⟨base, 0⟩] (body g data)).length = data.length + 8 := by rw [layF_len, hb]; simp; omega
  rw [rows_body, List.take_append_of_le_length (by omega), take_lay _ _ _ _ (by simp; omega)]
  rw [apply_lay nv base _ [⟨(base : Int), 0⟩] [0] rfl ?_ (by simp only [List.length_cons, List.length_nil, List.length_take]; omega)]
  · rfl
  · simp only [List.foldl_cons, List.foldl_nil, stepA]
    rw [if_pos (by omega), show ((base : Int)).toNat = base + ([] : List Int).length by simp]
    have h := over_snoc nv [] base 0 (by simp; omega)
    rw [show over nv base [] = nv by simp [over]] at h
    exact h
theorem apply_all (nv : List Int) (base : Nat) (g : Int) (data : List Int) (n : Int) (hl : base + (data.length + 8) ≤ nv.length) (h2 : data.length + 9 ≤ n) : applyF nv (rowsF base g data) n = over nv base (165 :: body g data) := by
  have hp := apply_part nv base g data (data.length + 8) hl (by omega) (by omega)
  unfold applyF at hp ⊢
  have hb := body_len g data
  have hr : (layF (base : Int) [⟨base, 0⟩] (body g data)).length = data.length + 8 := by rw [layF_len, hb]; simp; omega
  rw [List.take_of_length_le (by rw [rowsF_len]; omega), rows_body, List.foldl_append]
  rw [rows_body, List.take_append_of_le_length (by omega), List.take_of_length_le (by omega), List.take_of_length_le (by omega)] at hp
  rw [hp]
  simp only [List.foldl_cons, List.foldl_nil, stepA]
  rw [if_pos (by rw [over_len _ _ _ (by simp; omega)]; omega), Int.toNat_natCast, over_head _ _ _ _ _ (by omega)]
theorem bank_over (nv : List Int) (t : Nat) (X : List Int) (hl : nv.length = 512) (ht : t = 0 ∨ t = 1) (hX : X.length ≤ 256) : bankF (over nv (t * 256) X) t = X ++ (bankF nv t).drop X.length ∧ bankF (over nv (t * 256) X) (1 - (t : Int)) = bankF nv (1 - (t : Int)) := by
  rcases ht with rfl | rfl
  · refine ⟨?_, ?_⟩
    · show (over nv 0 X).take 256 = X ++ (nv.take 256).drop X.length
      unfold over
      rw [List.take_zero, List.nil_append, Nat.zero_add, List.take_append, List.take_of_length_le hX, List.drop_take]
    · show (over nv 0 X).drop 256 = nv.drop 256
      unfold over
      rw [List.take_zero, List.nil_append, Nat.zero_add, List.drop_append, List.drop_eq_nil_of_le hX, List.nil_append, List.drop_drop]
      congr 1
      omega
  · refine ⟨?_, ?_⟩
    · show (over nv 256 X).drop 256 = X ++ (nv.drop 256).drop X.length
      unfold over
      rw [List.append_assoc, List.drop_append_of_le_length (by rw [List.length_take]; omega), List.drop_eq_nil_of_le (by rw [List.length_take]; omega), List.nil_append, List.drop_drop]
    · show (over nv 256 X).take 256 = nv.take 256
      unfold over
      rw [List.append_assoc, List.take_append_of_le_length (by rw [List.length_take]; omega), List.take_take, Nat.min_self]
theorem data_zero (Y : List Int) : dataF (0 :: Y) = ([], false) := by
  unfold dataF
  rw [if_neg (fun h => by have h1 := h.1; simp [rd] at h1)]
theorem data_all (g : Int) (data Y : List Int) (hd : data.length ≤ 248) : dataF ((165 :: body g data) ++ Y) = (data, true) := by
  have e : lenF ((165 :: body g data) ++ Y) = data.length := by
    unfold lenF
    have h2 : rd ((165 :: body g data) ++ Y) 2 = (data.length : Int) / 256 % 256 := rfl
    have h3 : rd ((165 :: body g data) ++ Y) 3 = (data.length : Int) % 256 := rfl
    rw [h2, h3]
    omega
  have h0 : rd ((165 :: body g data) ++ Y) 0 = 165 := rfl
  have h1 : rd ((165 :: body g data) ++ Y) 1 = g := rfl
  have h8 : ((165 :: body g data) ++ Y).drop 8 = data ++ Y := rfl
  have h4 : (((165 :: body g data) ++ Y).drop 4).take 4 = fourF (sumF g data) := rfl
  unfold dataF
  rw [e, if_pos ⟨h0, by omega⟩, h8, h1, h4, Int.toNat_natCast, List.take_left']
  · simp
  · rfl
theorem counts_banks (L : List Int) : countsF L = if (dataF (bankF L 1)).2 = true ∧ ((dataF (bankF L 0)).2 = false ∨ rd (bankF L 1) 1 = (rd (bankF L 0) 1 + 1) % 256) then 1 else if (dataF (bankF L 0)).2 = true then 0 else -1 := by
  have r0 : rd (bankF L 0) 1 = rd L 1 := rd_take L 256 1 (by decide)
  have r1 : rd (bankF L 1) 1 = rd L 257 := rd_drop L 256 1
  rw [r0, r1]
  rfl
theorem gen_banks (L : List Int) : genF L = if 0 ≤ countsF L then (rd (bankF L (countsF L)) 1 + 1) % 256 else 1 := by
  unfold genF
  rcases countsF_cases L with h | h | h
  · rw [h]; rfl
  · rw [h]
    have r0 : rd (bankF L 0) 1 = rd L 1 := rd_take L 256 1 (by decide)
    rw [r0]
    rfl
  · rw [h]
    have r1 : rd (bankF L 1) 1 = rd L 257 := rd_drop L 256 1
    rw [r1]
    rfl
theorem over_bytes (L X : List Int) (o : Nat) (hL : nv_Bytes L) (hX : nv_Bytes X) : nv_Bytes (over L o X) := by
  intro a ha
  unfold over at ha
  simp only [List.mem_append] at ha
  rcases ha with (ha | ha) | ha
  · exact hL.take _ a ha
  · exact hX a ha
  · exact hL.drop _ a ha
theorem rd_bytes {B : List Int} (hb : nv_Bytes B) (i : Nat) (h : i < B.length) : 0 ≤ rd B i ∧ rd B i < 256 := by
  have : rd B (i : Int) = B[i] := by simp [rd, List.getD_eq_getElem?_getD, List.getElem?_eq_getElem h]
  rw [this]
  exact hb _ (List.getElem_mem h)
theorem gen_range (L : List Int) : 0 ≤ genF L ∧ genF L < 256 := by
  unfold genF
  split <;> omega
/-- Wherever the power goes: what was found ahead, or the new data. -/
theorem cut_rec (nv data : List Int) (n : Int) (hl : nv.length = 512) (hd : data.length ≤ 248) (hB : nv_Bytes nv) (hD : nv_Bytes data) :
    nv_Bytes (applyF nv (rowsF (baseF nv) (genF nv) data) n) ∧ (applyF nv (rowsF (baseF nv) (genF nv) data) n).length = 512 ∧
    ((data.length : Int) + 9 ≤ n → ∃ k, recF (applyF nv (rowsF (baseF nv) (genF nv) data) n) = (data, k, true)) ∧ (n < (data.length : Int) + 9 → recF (applyF nv (rowsF (baseF nv) (genF nv) data) n) = recF nv) := by
  obtain ⟨t, ht, hbase, hcase⟩ : ∃ t : Nat, (t = 0 ∨ t = 1) ∧ baseF nv = ((t * 256 : Nat) : Int) ∧ ((countsF nv = 0 ∧ t = 1) ∨ (countsF nv = 1 ∧ t = 0) ∨ (countsF nv = -1 ∧ t = 0)) := by
    unfold baseF
    rcases countsF_cases nv with h | h | h
    · exact ⟨0, .inl rfl, by rw [h]; rfl, .inr (.inr ⟨h, rfl⟩)⟩
    · exact ⟨1, .inr rfl, by rw [h]; rfl, .inl ⟨h, rfl⟩⟩
    · exact ⟨0, .inl rfl, by rw [h]; rfl, .inr (.inl ⟨h, rfl⟩)⟩
  obtain ⟨g, hg⟩ : ∃ g, g = genF nv := ⟨_, rfl⟩
  have hgr := gen_range nv
  have hgb := gen_banks nv
  have hcb := counts_banks nv
  rw [← hg] at hgr hgb ⊢
  rw [hbase]
  have hbl := body_len g data
  have hbb := body_bytes g data hgr hD
  have h257 : 0 ≤ rd (bankF nv 1) 1 ∧ rd (bankF nv 1) 1 < 256 := rd_bytes (bankF_bytes hB 1) 1 (by rw [bankF_len hl]; decide)
  by_cases c0 : n ≤ 0
  · rw [apply_none _ _ _ c0]
    exact ⟨hB, hl, fun h => by omega, fun _ => rfl⟩
  · by_cases c1 : n < (data.length : Int) + 9
    · rw [apply_part nv (t * 256) g data n (by omega) (by omega) c1]
      obtain ⟨X, hX⟩ : ∃ X, X = (body g data).take (n.toNat - 1) := ⟨_, rfl⟩
      have hXl : X.length ≤ 255 := by rw [hX, List.length_take]; omega
      have hXb : nv_Bytes (0 :: X) := by
        intro a ha
        rcases List.mem_cons.1 ha with rfl | ha
        · omega
        · rw [hX] at ha; exact hbb.take _ a ha
      rw [← hX]
      obtain ⟨h1, h2⟩ := bank_over nv t (0 :: X) hl ht (by simp; omega)
      have hM := over_len nv (0 :: X) (t * 256) (by simp; omega)
      have hMb := over_bytes nv (0 :: X) (t * 256) hB hXb
      obtain ⟨M, hMe⟩ : ∃ M, M = over nv (t * 256) (0 :: X) := ⟨_, rfl⟩
      rw [← hMe] at h1 h2 hM hMb ⊢
      refine ⟨hMb, by rw [hM]; exact hl, fun h => by omega, fun _ => ?_⟩
      have hz : dataF (bankF M t) = ([], false) := by rw [h1]; exact data_zero _
      have hcM := counts_banks M
      unfold recF
      rcases hcase with ⟨hk, rfl⟩ | ⟨hk, rfl⟩ | ⟨hk, rfl⟩
      · have h2' : bankF M 0 = bankF nv 0 := h2
        have hz' : dataF (bankF M 1) = ([], false) := hz
        have hx0 : (dataF (bankF nv 0)).2 = true := by
          rw [hk] at hcb
          split at hcb
          · omega
          · split at hcb
            · assumption
            · omega
        have hcm : countsF M = 0 := by rw [hcM, hz', h2', hx0]; simp
        rw [hcm, hk, h2']
        simp [hM, hl]
      · have h2' : bankF M 1 = bankF nv 1 := h2
        have hz' : dataF (bankF M 0) = ([], false) := hz
        have hx1 : (dataF (bankF nv 1)).2 = true := by
          rw [hk] at hcb
          split at hcb
          · rename_i h; exact h.1
          · split at hcb <;> omega
        have hcm : countsF M = 1 := by rw [hcM, hz', h2', hx1]; simp
        rw [hcm, hk, h2']
        simp [hM, hl]
      · have h2' : bankF M 1 = bankF nv 1 := h2
        have hz' : dataF (bankF M 0) = ([], false) := hz
        have hx : (dataF (bankF nv 1)).2 = false := by
          rw [hk] at hcb
          split at hcb
          · omega
          · rename_i h3
            split at hcb
            · omega
            · rename_i h4
              cases hx1 : (dataF (bankF nv 1)).2
              · rfl
              · exact absurd ⟨hx1, .inl (by simpa using h4)⟩ h3
        have hcm : countsF M = -1 := by rw [hcM, hz', h2', hx]; simp
        rw [hcm, hk]
        simp
    · rw [apply_all nv (t * 256) g data n (by omega) (by omega)]
      have hXb : nv_Bytes (165 :: body g data) := by
        intro a ha
        rcases List.mem_cons.1 ha with rfl | ha
        · omega
        · exact hbb a ha
      obtain ⟨h1, h2⟩ := bank_over nv t (165 :: body g data) hl ht (by simp; omega)
      have hM := over_len nv (165 :: body g data) (t * 256) (by simp; omega)
      have hMb := over_bytes nv (165 :: body g data) (t * 256) hB hXb
      obtain ⟨M, hMe⟩ : ∃ M, M = over nv (t * 256) (165 :: body g data) := ⟨_, rfl⟩
      rw [← hMe] at h1 h2 hM hMb ⊢
      refine ⟨hMb, by rw [hM]; exact hl, fun _ => ?_, fun h => by omega⟩
      have hz : dataF (bankF M t) = (data, true) := by rw [h1]; exact data_all g data _ hd
      have hg1 : rd (bankF M t) 1 = g := by rw [h1]; rfl
      have hcM := counts_banks M
      unfold recF
      rcases hcase with ⟨hk, rfl⟩ | ⟨hk, rfl⟩ | ⟨hk, rfl⟩
      · have h2' : bankF M 0 = bankF nv 0 := h2
        have hz' : dataF (bankF M 1) = (data, true) := hz
        have hg' : rd (bankF M 1) 1 = g := hg1
        rw [hk, if_pos (by omega)] at hgb
        have hcm : countsF M = 1 := by rw [hcM, hz', hg', h2', if_pos ⟨rfl, .inr hgb⟩]
        refine ⟨1, ?_⟩
        rw [hcm, if_pos ⟨by rw [hM]; exact hl, by omega⟩, hz']
      · have h2' : bankF M 1 = bankF nv 1 := h2
        have hz' : dataF (bankF M 0) = (data, true) := hz
        have hg' : rd (bankF M 0) 1 = g := hg1
        rw [hk, if_pos (by omega)] at hgb
        have hcm : countsF M = 0 := by
          rw [hcM, hz', hg', h2', if_neg (fun h => by
            rcases h.2 with h | h
            · cases h
            · omega), if_pos rfl]
        refine ⟨0, ?_⟩
        rw [hcm, if_pos ⟨by rw [hM]; exact hl, by omega⟩, hz']
      · have h2' : bankF M 1 = bankF nv 1 := h2
        have hz' : dataF (bankF M 0) = (data, true) := hz
        have hx : (dataF (bankF nv 1)).2 = false := by
          rw [hk] at hcb
          split at hcb
          · omega
          · rename_i h3
            split at hcb
            · omega
            · rename_i h4
              cases hx1 : (dataF (bankF nv 1)).2
              · rfl
              · exact absurd ⟨hx1, .inl (by simpa using h4)⟩ h3
        have hcm : countsF M = 0 := by rw [hcM, hz', h2', hx]; simp
        refine ⟨0, ?_⟩
        rw [hcm, if_pos ⟨by rw [hM]; exact hl, by omega⟩, hz']
end Go.Proofs.YtefhngadeimklaaDoor.Q
end
section
namespace Go.Proofs.YtefhngadeimklaaDoor.Q
open Go.RowKit Go.Proofs.YtefhngadeimklaaDoorW.PrintWords Go.Proofs.YtefhngadeimklaaDoorW.PrintLast Go.Proofs.YtefhngadeimklaaDoorW.PrintMore
set_option linter.unusedVariables false
set_option linter.unusedSimpArgs false

attribute [local go_sem] max2_int min2_int max_two min_two max_three min_three max_four min_four
/-! ### tinderlaw19_VarsCut: function 10 -/
def tinderlaw19_VarsCut.f (k : Nat) (l0 : List Int) (l1 : List (S40)) (a2 : Int) : Option (Bool) := (tinderlaw19_alive.f).bind fun t11001 => (if t11001 = true then ((vars_Save.f k l0 l1).bind fun bt11002 => (if bt11002.2 = 0 then ((nvram_Apply.f k l0 bt11002.1 a2).bind fun t11006 => ((vars_Load.f k t11006).bind fun t11009 => (if a2 ≥ (bt11002.1.length : Int) then ((tinderref19_Same.f k t11009 l1).bind fun t11012 => (some t11012)) else ((vars_Load.f k l0).bind fun t11013 => ((tinderref19_Same.f k t11009 t11013).bind fun t11016 => (some t11016)))))) else (some ((bt11002.1.length : Int) == 0)))) else (some false))
set_option maxHeartbeats 8000000 in
set_option maxRecDepth 100000 in
theorem tinderlaw19_VarsCut.calls (k : Nat) (A0 : Option Addr) (c0 : Nat) (l0 : List Int) (A1 : Option Addr) (c1 : Nat) (l1 : List (S40)) (a2 : Int) (r : Bool) (w : World) (ht : Tabs w) (hr0 : Kd.C (Kd.int .u8) w A0 l0.length l0) (hc0 : l0.length ≤ c0) (hr1 : Kd.C k40 w A1 l1.length l1) (hc1 : l1.length ≤ c1) (h : tinderlaw19_VarsCut.f k l0 l1 a2 = some r) :
    Calls Tryd.prog 10 #[.slice A0 l0.length c0, .slice A1 l1.length c1, .int .i64 a2] w fun e w' => e = .returned (.bool r) ∧ Below w.heap.size w w' := by
  have HR0 := Aside0.mk hr0
  have HC0 := Aside0.mk hc0
  clear hr0 hc0
  have HR1 := Aside0.mk hr1
  have HC1 := Aside0.mk hc1
  clear hr1 hc1
  have HB := Aside0.mk (Below.refl w.heap.size w)
  have H : ((tinderlaw19_alive.f).bind fun t11001 => (if t11001 = true then ((vars_Save.f k l0 l1).bind fun bt11002 => (if bt11002.2 = 0 then ((nvram_Apply.f k l0 bt11002.1 a2).bind fun t11006 => ((vars_Load.f k t11006).bind fun t11009 => (if a2 ≥ (bt11002.1.length : Int) then ((tinderref19_Same.f k t11009 l1).bind fun t11012 => (some t11012)) else ((vars_Load.f k l0).bind fun t11013 => ((tinderref19_Same.f k t11009 t11013).bind fun t11016 => (some t11016)))))) else (some ((bt11002.1.length : Int) == 0)))) else (some false))) = some r := h
  clear h
  replace H := Option.bind_eq_some_iff.mp H
  obtain ⟨t11001, A40, H⟩ := H
  replace H : (if t11001 = true then ((vars_Save.f k l0 l1).bind fun bt11002 => (if bt11002.2 = 0 then ((nvram_Apply.f k l0 bt11002.1 a2).bind fun t11006 => ((vars_Load.f k t11006).bind fun t11009 => (if a2 ≥ (bt11002.1.length : Int) then ((tinderref19_Same.f k t11009 l1).bind fun t11012 => (some t11012)) else ((vars_Load.f k l0).bind fun t11013 => ((tinderref19_Same.f k t11009 t11013).bind fun t11016 => (some t11016)))))) else (some ((bt11002.1.length : Int) == 0)))) else (some false)) = some r := H
  have A4 := Aside0.mk A40
  clear A40
  by_cases c5 : t11001 = true
  · subst c5
    have H1 : ((vars_Save.f k l0 l1).bind fun bt11002 => (if bt11002.2 = 0 then ((nvram_Apply.f k l0 bt11002.1 a2).bind fun t11006 => ((vars_Load.f k t11006).bind fun t11009 => (if a2 ≥ (bt11002.1.length : Int) then ((tinderref19_Same.f k t11009 l1).bind fun t11012 => (some t11012)) else ((vars_Load.f k l0).bind fun t11013 => ((tinderref19_Same.f k t11009 t11013).bind fun t11016 => (some t11016)))))) else (some ((bt11002.1.length : Int) == 0)))) = some r := by rw [if_pos rfl] at H; exact H
    clear H
    have H := H1
    clear H1
    replace H := Option.bind_eq_some_iff.mp H
    obtain ⟨⟨t11002, t11003⟩, A60, H⟩ := H
    replace H : (if t11003 = 0 then ((nvram_Apply.f k l0 t11002 a2).bind fun t11006 => ((vars_Load.f k t11006).bind fun t11009 => (if a2 ≥ (t11002.length : Int) then ((tinderref19_Same.f k t11009 l1).bind fun t11012 => (some t11012)) else ((vars_Load.f k l0).bind fun t11013 => ((tinderref19_Same.f k t11009 t11013).bind fun t11016 => (some t11016)))))) else (some ((t11002.length : Int) == 0))) = some r := H
    have A6 := Aside0.mk A60
    clear A60
    by_cases c7 : t11003 = 0
    · rw [if_pos c7] at H
      have c7b0 : (t11003 == 0) = true := beq_iff_eq.mpr c7
      have c7b1 : (t11003 != 0) = false := bne_eq_false_iff_eq.mpr c7
      clear c7
      replace H := Option.bind_eq_some_iff.mp H
      obtain ⟨t11006, A80, H⟩ := H
      replace H : ((vars_Load.f k t11006).bind fun t11009 => (if a2 ≥ (t11002.length : Int) then ((tinderref19_Same.f k t11009 l1).bind fun t11012 => (some t11012)) else ((vars_Load.f k l0).bind fun t11013 => ((tinderref19_Same.f k t11009 t11013).bind fun t11016 => (some t11016))))) = some r := H
      have A8 := Aside0.mk A80
      clear A80
      replace H := Option.bind_eq_some_iff.mp H
      obtain ⟨t11009, A90, H⟩ := H
      replace H : (if a2 ≥ (t11002.length : Int) then ((tinderref19_Same.f k t11009 l1).bind fun t11012 => (some t11012)) else ((vars_Load.f k l0).bind fun t11013 => ((tinderref19_Same.f k t11009 t11013).bind fun t11016 => (some t11016)))) = some r := H
      have A9 := Aside0.mk A90
      clear A90
      by_cases c10 : a2 ≥ (t11002.length : Int)
      · rw [if_pos c10] at H
        have c10b0 : decide ((t11002.length : Int) ≤ a2) = true := decide_eq_true c10
        clear c10
        replace H := Option.bind_eq_some_iff.mp H
        obtain ⟨t11012, A110, H⟩ := H
        replace H : (some t11012) = some r := H
        have A11 := Aside0.mk A110
        clear A110
        obtain rfl := Option.some.inj H
        go_enter Tryd.func10, Tryd.ntmps10
        go_wp2_with (first | ((with_reducible refine gate_callee (f := 11) rfl ?_); refine goesL_ (some 10) rfl rfl Tryd.func11 (by kernel_rfl) rfl #[] rfl (by (try simp only [List.map_toArray, List.map_cons, List.map_nil]); first | done | rfl | (simp only [List.length_drop, List.length_take]; rfl)) ?_; (with_reducible refine (tinderlaw19_alive.calls  true _ ht A4.out).mono ?_); rintro e w12 ⟨rfl, hb⟩; refine ⟨_, rfl, ?_⟩; have n0_ := Aside0.mk (below_step (by repeat (first | (with_reducible first | exact HB.out | apply below_alloc | apply pw_below_drewN | apply below_drew1) | exact HB.out)) hb); clear HB; have HB := n0_; clear n0_; (try clear hb); (try clear hb2); (try clear hk); (try clear hi)) | ((with_reducible refine gate_callee (f := 31) rfl ?_); refine goesL_ (some 15) rfl rfl Tryd.func31 (by kernel_rfl) rfl #[.slice A0 l0.length c0, .slice A1 l1.length c1] rfl (by (try simp only [List.map_toArray, List.map_cons, List.map_nil]); first | done | rfl | (simp only [List.length_drop, List.length_take]; rfl)) ?_; (with_reducible refine (vars_Save.calls k _ _ l0 _ _ l1 t11002 t11003 _ (Tabs.below ht (by repeat (first | (with_reducible first | exact HB.out | apply below_alloc | apply pw_below_drewN | apply below_drew1 | refine below_set ?_ (Aside0.out (by assumption))) | exact HB.out))) ?side1 ?side2 ?side3 ?side4 A6.out).mono ?_); (case side1 => repeat (first | exact (Kd.C_below HR0.out HB.out) | (with_reducible refine Kd.C_alloc ?_ _) | (with_reducible refine Kd.C_drewN ?_ _) | (with_reducible refine Kd.C_drew ?_))); (case side2 => exact HC0.out); (case side3 => repeat (first | exact (Kd.C_below HR1.out HB.out) | (with_reducible refine Kd.C_alloc ?_ _) | (with_reducible refine Kd.C_drewN ?_ _) | (with_reducible refine Kd.C_drew ?_))); (case side4 => exact HC1.out); rintro e w13 ⟨v11004, rfl, ho0, hb⟩; refine ⟨_, rfl, ?_⟩; have n0_ := Aside0.mk (Kd.R_lower ho0 (below_size (by repeat (first | (with_reducible first | exact HB.out | apply below_alloc | apply pw_below_drewN | apply below_drew1) | exact HB.out)))); have n1_ := Aside0.mk (below_step (by repeat (first | (with_reducible first | exact HB.out | apply below_alloc | apply pw_below_drewN | apply below_drew1) | exact HB.out)) hb); clear HB; have HO11005 := n0_; have HB := n1_; clear n0_ n1_; (try clear hb); (try clear hb2); (try clear hk); (try clear hi); (try clear ho0); obtain ⟨Ao14, co14, eo14⟩ := Kd.R_slice HO11005.out; subst eo14) | ((with_reducible refine gate_callee (f := 36) rfl ?_); refine goesL_ (some 26) rfl rfl Tryd.func36 (by kernel_rfl) rfl #[.slice A0 l0.length c0, .slice Ao14 t11002.length co14, .int .i64 a2] rfl (by (try simp only [List.map_toArray, List.map_cons, List.map_nil]); first | done | rfl | (simp only [List.length_drop, List.length_take]; rfl)) ?_; (with_reducible refine (nvram_Apply.calls k _ _ l0 _ _ t11002 a2 t11006 _ ?side1 ?side2 ?side3 ?side4 A8.out).mono ?_); (case side1 => repeat (first | exact (Kd.C_below HR0.out HB.out) | (with_reducible refine Kd.C_alloc ?_ _) | (with_reducible refine Kd.C_drewN ?_ _) | (with_reducible refine Kd.C_drew ?_))); (case side2 => exact HC0.out); (case side3 => repeat (first | exact (Kd.R_reads' HO11005.out).2.2 | (with_reducible refine Kd.C_alloc ?_ _) | (with_reducible refine Kd.C_drewN ?_ _) | (with_reducible refine Kd.C_drew ?_))); (case side4 => exact (Kd.R_reads' HO11005.out).2.1); rintro e w15 ⟨v11007, rfl, ho0, hb⟩; refine ⟨_, rfl, ?_⟩; have n0_ := Aside0.mk (Kd.R_below (by (with_reducible repeat (first | apply Kd.R_alloc | apply Kd.R_drewN | apply Kd.R_drew)); exact HO11005.out) hb); have n1_ := Aside0.mk (Kd.R_lower ho0 (below_size (by repeat (first | (with_reducible first | exact HB.out | apply below_alloc | apply pw_below_drewN | apply below_drew1) | exact HB.out)))); have n2_ := Aside0.mk (below_step (by repeat (first | (with_reducible first | exact HB.out | apply below_alloc | apply pw_below_drewN | apply below_drew1) | exact HB.out)) hb); clear HO11005; clear HB; have HO11005 := n0_; have HO11008 := n1_; have HB := n2_; clear n0_ n1_ n2_; (try clear hb); (try clear hb2); (try clear hk); (try clear hi); (try clear ho0); obtain ⟨Ao16, co16, eo16⟩ := Kd.R_slice HO11008.out; subst eo16) | ((with_reducible refine gate_callee (f := 33) rfl ?_); refine goesL_ (some 27) rfl rfl Tryd.func33 (by kernel_rfl) rfl #[.slice Ao16 t11006.length co16] rfl (by (try simp only [List.map_toArray, List.map_cons, List.map_nil]); first | done | rfl | (simp only [List.length_drop, List.length_take]; rfl)) ?_; (with_reducible refine (vars_Load.calls k _ _ t11006 t11009 _ (Tabs.below ht (by repeat (first | (with_reducible first | exact HB.out | apply below_alloc | apply pw_below_drewN | apply below_drew1 | refine below_set ?_ (Aside0.out (by assumption))) | exact HB.out))) ?side1 ?side2 A9.out).mono ?_); (case side1 => repeat (first | exact (Kd.R_reads' HO11008.out).2.2 | (with_reducible refine Kd.C_alloc ?_ _) | (with_reducible refine Kd.C_drewN ?_ _) | (with_reducible refine Kd.C_drew ?_))); (case side2 => exact (Kd.R_reads' HO11008.out).2.1); rintro e w17 ⟨v11010, rfl, ho0, hb⟩; refine ⟨_, rfl, ?_⟩; have n0_ := Aside0.mk (Kd.R_below (by (with_reducible repeat (first | apply Kd.R_alloc | apply Kd.R_drewN | apply Kd.R_drew)); exact HO11005.out) hb); have n1_ := Aside0.mk (Kd.R_below (by (with_reducible repeat (first | apply Kd.R_alloc | apply Kd.R_drewN | apply Kd.R_drew)); exact HO11008.out) hb); have n2_ := Aside0.mk (Kd.R_lower ho0 (below_size (by repeat (first | (with_reducible first | exact HB.out | apply below_alloc | apply pw_below_drewN | apply below_drew1) | exact HB.out)))); have n3_ := Aside0.mk (below_step (by repeat (first | (with_reducible first | exact HB.out | apply below_alloc | apply pw_below_drewN | apply below_drew1) | exact HB.out)) hb); clear HO11005; clear HO11008; clear HB; have HO11005 := n0_; have HO11008 := n1_; have HO11011 := n2_; have HB := n3_; clear n0_ n1_ n2_ n3_; (try clear hb); (try clear hb2); (try clear hk); (try clear hi); (try clear ho0); obtain ⟨Ao18, co18, eo18⟩ := Kd.R_slice HO11011.out; subst eo18) | ((with_reducible refine gate_callee (f := 15) rfl ?_); refine goesL_ (some 34) rfl rfl Tryd.func15 (by kernel_rfl) rfl #[.slice Ao18 t11009.length co18, .slice A1 l1.length c1] rfl (by (try simp only [List.map_toArray, List.map_cons, List.map_nil]); first | done | rfl | (simp only [List.length_drop, List.length_take]; rfl)) ?_; (with_reducible refine (tinderref19_Same.calls k _ _ t11009 _ _ l1 t11012 _ ?side1 ?side2 ?side3 ?side4 A11.out).mono ?_); (case side1 => repeat (first | exact (Kd.R_reads' HO11011.out).2.2 | (with_reducible refine Kd.C_alloc ?_ _) | (with_reducible refine Kd.C_drewN ?_ _) | (with_reducible refine Kd.C_drew ?_))); (case side2 => exact (Kd.R_reads' HO11011.out).2.1); (case side3 => repeat (first | exact (Kd.C_below HR1.out HB.out) | (with_reducible refine Kd.C_alloc ?_ _) | (with_reducible refine Kd.C_drewN ?_ _) | (with_reducible refine Kd.C_drew ?_))); (case side4 => exact HC1.out); rintro e w' ⟨rfl, ⟨nd, rfl⟩⟩; refine ⟨_, rfl, ?_⟩))
        go_ret
        exact ⟨by first | rfl | (simp [errW_none, errW_some] <;> rfl) | (simp [*, errW_none, errW_some] <;> rfl), by repeat (first | (with_reducible first | exact HB.out | apply below_alloc | apply pw_below_drewN | apply below_drew1) | exact HB.out)⟩
      · rw [if_neg c10] at H
        have c10b0 : decide ((t11002.length : Int) ≤ a2) = false := decide_eq_false c10
        clear c10
        replace H := Option.bind_eq_some_iff.mp H
        obtain ⟨t11013, A190, H⟩ := H
        replace H : ((tinderref19_Same.f k t11009 t11013).bind fun t11016 => (some t11016)) = some r := H
        have A19 := Aside0.mk A190
        clear A190
        replace H := Option.bind_eq_some_iff.mp H
        obtain ⟨t11016, A200, H⟩ := H
        replace H : (some t11016) = some r := H
        have A20 := Aside0.mk A200
        clear A200
        obtain rfl := Option.some.inj H
        go_enter Tryd.func10, Tryd.ntmps10
        go_wp2_with (first | ((with_reducible refine gate_callee (f := 11) rfl ?_); refine goesL_ (some 10) rfl rfl Tryd.func11 (by kernel_rfl) rfl #[] rfl (by (try simp only [List.map_toArray, List.map_cons, List.map_nil]); first | done | rfl | (simp only [List.length_drop, List.length_take]; rfl)) ?_; (with_reducible refine (tinderlaw19_alive.calls  true _ ht A4.out).mono ?_); rintro e w21 ⟨rfl, hb⟩; refine ⟨_, rfl, ?_⟩; have n0_ := Aside0.mk (below_step (by repeat (first | (with_reducible first | exact HB.out | apply below_alloc | apply pw_below_drewN | apply below_drew1) | exact HB.out)) hb); clear HB; have HB := n0_; clear n0_; (try clear hb); (try clear hb2); (try clear hk); (try clear hi)) | ((with_reducible refine gate_callee (f := 31) rfl ?_); refine goesL_ (some 15) rfl rfl Tryd.func31 (by kernel_rfl) rfl #[.slice A0 l0.length c0, .slice A1 l1.length c1] rfl (by (try simp only [List.map_toArray, List.map_cons, List.map_nil]); first | done | rfl | (simp only [List.length_drop, List.length_take]; rfl)) ?_; (with_reducible refine (vars_Save.calls k _ _ l0 _ _ l1 t11002 t11003 _ (Tabs.below ht (by repeat (first | (with_reducible first | exact HB.out | apply below_alloc | apply pw_below_drewN | apply below_drew1 | refine below_set ?_ (Aside0.out (by assumption))) | exact HB.out))) ?side1 ?side2 ?side3 ?side4 A6.out).mono ?_); (case side1 => repeat (first | exact (Kd.C_below HR0.out HB.out) | (with_reducible refine Kd.C_alloc ?_ _) | (with_reducible refine Kd.C_drewN ?_ _) | (with_reducible refine Kd.C_drew ?_))); (case side2 => exact HC0.out); (case side3 => repeat (first | exact (Kd.C_below HR1.out HB.out) | (with_reducible refine Kd.C_alloc ?_ _) | (with_reducible refine Kd.C_drewN ?_ _) | (with_reducible refine Kd.C_drew ?_))); (case side4 => exact HC1.out); rintro e w22 ⟨v11004, rfl, ho0, hb⟩; refine ⟨_, rfl, ?_⟩; have n0_ := Aside0.mk (Kd.R_lower ho0 (below_size (by repeat (first | (with_reducible first | exact HB.out | apply below_alloc | apply pw_below_drewN | apply below_drew1) | exact HB.out)))); have n1_ := Aside0.mk (below_step (by repeat (first | (with_reducible first | exact HB.out | apply below_alloc | apply pw_below_drewN | apply below_drew1) | exact HB.out)) hb); clear HB; have HO11005 := n0_; have HB := n1_; clear n0_ n1_; (try clear hb); (try clear hb2); (try clear hk); (try clear hi); (try clear ho0); obtain ⟨Ao23, co23, eo23⟩ := Kd.R_slice HO11005.out; subst eo23) | ((with_reducible refine gate_callee (f := 36) rfl ?_); refine goesL_ (some 26) rfl rfl Tryd.func36 (by kernel_rfl) rfl #[.slice A0 l0.length c0, .slice Ao23 t11002.length co23, .int .i64 a2] rfl (by (try simp only [List.map_toArray, List.map_cons, List.map_nil]); first | done | rfl | (simp only [List.length_drop, List.length_take]; rfl)) ?_; (with_reducible refine (nvram_Apply.calls k _ _ l0 _ _ t11002 a2 t11006 _ ?side1 ?side2 ?side3 ?side4 A8.out).mono ?_); (case side1 => repeat (first | exact (Kd.C_below HR0.out HB.out) | (with_reducible refine Kd.C_alloc ?_ _) | (with_reducible refine Kd.C_drewN ?_ _) | (with_reducible refine Kd.C_drew ?_))); (case side2 => exact HC0.out); (case side3 => repeat (first | exact (Kd.R_reads' HO11005.out).2.2 | (with_reducible refine Kd.C_alloc ?_ _) | (with_reducible refine Kd.C_drewN ?_ _) | (with_reducible refine Kd.C_drew ?_))); (case side4 => exact (Kd.R_reads' HO11005.out).2.1); rintro e w24 ⟨v11007, rfl, ho0, hb⟩; refine ⟨_, rfl, ?_⟩; have n0_ := Aside0.mk (Kd.R_below (by (with_reducible repeat (first | apply Kd.R_alloc | apply Kd.R_drewN | apply Kd.R_drew)); exact HO11005.out) hb); have n1_ := Aside0.mk (Kd.R_lower ho0 (below_size (by repeat (first | (with_reducible first | exact HB.out | apply below_alloc | apply pw_below_drewN | apply below_drew1) | exact HB.out)))); have n2_ := Aside0.mk (below_step (by repeat (first | (with_reducible first | exact HB.out | apply below_alloc | apply pw_below_drewN | apply below_drew1) | exact HB.out)) hb); clear HO11005; clear HB; have HO11005 := n0_; have HO11008 := n1_; have HB := n2_; clear n0_ n1_ n2_; (try clear hb); (try clear hb2); (try clear hk); (try clear hi); (try clear ho0); obtain ⟨Ao25, co25, eo25⟩ := Kd.R_slice HO11008.out; subst eo25) | ((with_reducible refine gate_callee (f := 33) rfl ?_); refine goesL_ (some 27) rfl rfl Tryd.func33 (by kernel_rfl) rfl #[.slice Ao25 t11006.length co25] rfl (by (try simp only [List.map_toArray, List.map_cons, List.map_nil]); first | done | rfl | (simp only [List.length_drop, List.length_take]; rfl)) ?_; (with_reducible refine (vars_Load.calls k _ _ t11006 t11009 _ (Tabs.below ht (by repeat (first | (with_reducible first | exact HB.out | apply below_alloc | apply pw_below_drewN | apply below_drew1 | refine below_set ?_ (Aside0.out (by assumption))) | exact HB.out))) ?side1 ?side2 A9.out).mono ?_); (case side1 => repeat (first | exact (Kd.R_reads' HO11008.out).2.2 | (with_reducible refine Kd.C_alloc ?_ _) | (with_reducible refine Kd.C_drewN ?_ _) | (with_reducible refine Kd.C_drew ?_))); (case side2 => exact (Kd.R_reads' HO11008.out).2.1); rintro e w26 ⟨v11010, rfl, ho0, hb⟩; refine ⟨_, rfl, ?_⟩; have n0_ := Aside0.mk (Kd.R_below (by (with_reducible repeat (first | apply Kd.R_alloc | apply Kd.R_drewN | apply Kd.R_drew)); exact HO11005.out) hb); have n1_ := Aside0.mk (Kd.R_below (by (with_reducible repeat (first | apply Kd.R_alloc | apply Kd.R_drewN | apply Kd.R_drew)); exact HO11008.out) hb); have n2_ := Aside0.mk (Kd.R_lower ho0 (below_size (by repeat (first | (with_reducible first | exact HB.out | apply below_alloc | apply pw_below_drewN | apply below_drew1) | exact HB.out)))); have n3_ := Aside0.mk (below_step (by repeat (first | (with_reducible first | exact HB.out | apply below_alloc | apply pw_below_drewN | apply below_drew1) | exact HB.out)) hb); clear HO11005; clear HO11008; clear HB; have HO11005 := n0_; have HO11008 := n1_; have HO11011 := n2_; have HB := n3_; clear n0_ n1_ n2_ n3_; (try clear hb); (try clear hb2); (try clear hk); (try clear hi); (try clear ho0)) | ((with_reducible refine gate_callee (f := 33) rfl ?_); refine goesL_ (some 37) rfl rfl Tryd.func33 (by kernel_rfl) rfl #[.slice A0 l0.length c0] rfl (by (try simp only [List.map_toArray, List.map_cons, List.map_nil]); first | done | rfl | (simp only [List.length_drop, List.length_take]; rfl)) ?_; (with_reducible refine (vars_Load.calls k _ _ l0 t11013 _ (Tabs.below ht (by repeat (first | (with_reducible first | exact HB.out | apply below_alloc | apply pw_below_drewN | apply below_drew1 | refine below_set ?_ (Aside0.out (by assumption))) | exact HB.out))) ?side1 ?side2 A19.out).mono ?_); (case side1 => repeat (first | exact (Kd.C_below HR0.out HB.out) | (with_reducible refine Kd.C_alloc ?_ _) | (with_reducible refine Kd.C_drewN ?_ _) | (with_reducible refine Kd.C_drew ?_))); (case side2 => exact HC0.out); rintro e w27 ⟨v11014, rfl, ho0, hb⟩; refine ⟨_, rfl, ?_⟩; have n0_ := Aside0.mk (Kd.R_below (by (with_reducible repeat (first | apply Kd.R_alloc | apply Kd.R_drewN | apply Kd.R_drew)); exact HO11005.out) hb); have n1_ := Aside0.mk (Kd.R_below (by (with_reducible repeat (first | apply Kd.R_alloc | apply Kd.R_drewN | apply Kd.R_drew)); exact HO11008.out) hb); have n2_ := Aside0.mk (Kd.R_elder' (by (with_reducible repeat (first | apply Kd.R_alloc | apply Kd.R_drewN | apply Kd.R_drew)); exact HO11011.out) (Kd.R_base ho0) hb); have n3_ := Aside0.mk (Kd.R_lower (Kd.R_new' ho0 (Kd.R_lt (by (with_reducible repeat (first | apply Kd.R_alloc | apply Kd.R_drewN | apply Kd.R_drew)); exact HO11011.out))) (below_size (by repeat (first | (with_reducible first | exact HB.out | apply below_alloc | apply pw_below_drewN | apply below_drew1) | exact HB.out)))); have n4_ := Aside0.mk (below_step (by repeat (first | (with_reducible first | exact HB.out | apply below_alloc | apply pw_below_drewN | apply below_drew1) | exact HB.out)) hb); clear HO11005; clear HO11008; clear HO11011; clear HB; have HO11005 := n0_; have HO11008 := n1_; have HO11011 := n2_; have HO11015 := n3_; have HB := n4_; clear n0_ n1_ n2_ n3_ n4_; (try clear hb); (try clear hb2); (try clear hk); (try clear hi); (try clear ho0); obtain ⟨Ao28, co28, eo28⟩ := Kd.R_slice HO11011.out; subst eo28; obtain ⟨Ao29, co29, eo29⟩ := Kd.R_slice HO11015.out; subst eo29) | ((with_reducible refine gate_callee (f := 15) rfl ?_); refine goesL_ (some 38) rfl rfl Tryd.func15 (by kernel_rfl) rfl #[.slice Ao28 t11009.length co28, .slice Ao29 t11013.length co29] rfl (by (try simp only [List.map_toArray, List.map_cons, List.map_nil]); first | done | rfl | (simp only [List.length_drop, List.length_take]; rfl)) ?_; (with_reducible refine (tinderref19_Same.calls k _ _ t11009 _ _ t11013 t11016 _ ?side1 ?side2 ?side3 ?side4 A20.out).mono ?_); (case side1 => repeat (first | exact (Kd.R_reads' HO11011.out).2.2 | (with_reducible refine Kd.C_alloc ?_ _) | (with_reducible refine Kd.C_drewN ?_ _) | (with_reducible refine Kd.C_drew ?_))); (case side2 => exact (Kd.R_reads' HO11011.out).2.1); (case side3 => repeat (first | exact (Kd.R_reads' HO11015.out).2.2 | (with_reducible refine Kd.C_alloc ?_ _) | (with_reducible refine Kd.C_drewN ?_ _) | (with_reducible refine Kd.C_drew ?_))); (case side4 => exact (Kd.R_reads' HO11015.out).2.1); rintro e w' ⟨rfl, ⟨nd, rfl⟩⟩; refine ⟨_, rfl, ?_⟩))
        go_ret
        exact ⟨by first | rfl | (simp [errW_none, errW_some] <;> rfl) | (simp [*, errW_none, errW_some] <;> rfl), by repeat (first | (with_reducible first | exact HB.out | apply below_alloc | apply pw_below_drewN | apply below_drew1) | exact HB.out)⟩
    · rw [if_neg c7] at H
      have c7b0 : (t11003 == 0) = false := beq_eq_false_iff_ne.mpr c7
      have c7b1 : (t11003 != 0) = true := bne_iff_ne.mpr c7
      obtain rfl := Option.some.inj H
      go_enter Tryd.func10, Tryd.ntmps10
      go_wp2_with (first | ((with_reducible refine gate_callee (f := 11) rfl ?_); refine goesL_ (some 10) rfl rfl Tryd.func11 (by kernel_rfl) rfl #[] rfl (by (try simp only [List.map_toArray, List.map_cons, List.map_nil]); first | done | rfl | (simp only [List.length_drop, List.length_take]; rfl)) ?_; (with_reducible refine (tinderlaw19_alive.calls  true _ ht A4.out).mono ?_); rintro e w30 ⟨rfl, hb⟩; refine ⟨_, rfl, ?_⟩; have n0_ := Aside0.mk (below_step (by repeat (first | (with_reducible first | exact HB.out | apply below_alloc | apply pw_below_drewN | apply below_drew1) | exact HB.out)) hb); clear HB; have HB := n0_; clear n0_; (try clear hb); (try clear hb2); (try clear hk); (try clear hi)) | ((with_reducible refine gate_callee (f := 31) rfl ?_); refine goesL_ (some 15) rfl rfl Tryd.func31 (by kernel_rfl) rfl #[.slice A0 l0.length c0, .slice A1 l1.length c1] rfl (by (try simp only [List.map_toArray, List.map_cons, List.map_nil]); first | done | rfl | (simp only [List.length_drop, List.length_take]; rfl)) ?_; (with_reducible refine (vars_Save.calls k _ _ l0 _ _ l1 t11002 t11003 _ (Tabs.below ht (by repeat (first | (with_reducible first | exact HB.out | apply below_alloc | apply pw_below_drewN | apply below_drew1 | refine below_set ?_ (Aside0.out (by assumption))) | exact HB.out))) ?side1 ?side2 ?side3 ?side4 A6.out).mono ?_); (case side1 => repeat (first | exact (Kd.C_below HR0.out HB.out) | (with_reducible refine Kd.C_alloc ?_ _) | (with_reducible refine Kd.C_drewN ?_ _) | (with_reducible refine Kd.C_drew ?_))); (case side2 => exact HC0.out); (case side3 => repeat (first | exact (Kd.C_below HR1.out HB.out) | (with_reducible refine Kd.C_alloc ?_ _) | (with_reducible refine Kd.C_drewN ?_ _) | (with_reducible refine Kd.C_drew ?_))); (case side4 => exact HC1.out); rintro e w31 ⟨v11004, rfl, ho0, hb⟩; refine ⟨_, rfl, ?_⟩; have n0_ := Aside0.mk (Kd.R_lower ho0 (below_size (by repeat (first | (with_reducible first | exact HB.out | apply below_alloc | apply pw_below_drewN | apply below_drew1) | exact HB.out)))); have n1_ := Aside0.mk (below_step (by repeat (first | (with_reducible first | exact HB.out | apply below_alloc | apply pw_below_drewN | apply below_drew1) | exact HB.out)) hb); clear HB; have HO11005 := n0_; have HB := n1_; clear n0_ n1_; (try clear hb); (try clear hb2); (try clear hk); (try clear hi); (try clear ho0); obtain ⟨Ao32, co32, eo32⟩ := Kd.R_slice HO11005.out; subst eo32))
      go_ret
      exact ⟨by first | rfl | (simp [errW_none, errW_some] <;> rfl) | (simp [*, errW_none, errW_some] <;> rfl), by repeat (first | (with_reducible first | exact HB.out | apply below_alloc | apply pw_below_drewN | apply below_drew1) | exact HB.out)⟩
  · replace c5 := Bool.eq_false_iff.mpr c5
    subst c5
    have H1 : (some false) = some r := by rw [if_neg (show ¬ (false = true) by decide)] at H; exact H
    clear H
    have H := H1
    clear H1
    obtain rfl := Option.some.inj H
    go_enter Tryd.func10, Tryd.ntmps10
    go_wp2_with (first | ((with_reducible refine gate_callee (f := 11) rfl ?_); refine goesL_ (some 10) rfl rfl Tryd.func11 (by kernel_rfl) rfl #[] rfl (by (try simp only [List.map_toArray, List.map_cons, List.map_nil]); first | done | rfl | (simp only [List.length_drop, List.length_take]; rfl)) ?_; (with_reducible refine (tinderlaw19_alive.calls  false _ ht A4.out).mono ?_); rintro e w33 ⟨rfl, hb⟩; refine ⟨_, rfl, ?_⟩; have n0_ := Aside0.mk (below_step (by repeat (first | (with_reducible first | exact HB.out | apply below_alloc | apply pw_below_drewN | apply below_drew1) | exact HB.out)) hb); clear HB; have HB := n0_; clear n0_; (try clear hb); (try clear hb2); (try clear hk); (try clear hi)))
    go_ret
    exact ⟨by first | rfl | (simp [errW_none, errW_some] <;> rfl) | (simp [*, errW_none, errW_some] <;> rfl), by repeat (first | (with_reducible first | exact HB.out | apply below_alloc | apply pw_below_drewN | apply below_drew1) | exact HB.out)⟩

end Go.Proofs.YtefhngadeimklaaDoor.Q
end
section
set_option linter.unusedSimpArgs false
set_option linter.unusedVariables false
namespace Go.Proofs.YtefhngadeimklaaDoor.Q
open Go.RowKit Go.Proofs.YtefhngadeimklaaDoorW.PrintWords Go.Proofs.YtefhngadeimklaaDoorW.PrintLast
theorem varsCut_row {w : World} (ht : Tabs w) (A1 : Option Addr) (c1 : Nat) (nv : List Int) (hC1 : Kd.C (Kd.int .u8) w A1 nv.length nv) (hc1 : nv.length ≤ c1) (hg1 : nv.length * 1 ≤ 140737488351232 ∧ ∀ a ∈ nv, (Lit.int .u8 a).wf = true)
    (A : Option Addr) (c : Nat) (l : List S40) (hC : Kd.C k40 w A l.length l) (hc : l.length ≤ c) (hg : l.length * 32 ≤ 140737488351232 ∧ ∀ x ∈ l, x.f0.size ≤ 140737488351232 ∧ x.f1.size ≤ 140737488351232) (n : Int) (hn : (Lit.int .i64 n).wf = true) :
    Calls Tryd.prog 10 #[.slice A1 nv.length c1, .slice A l.length c, .int .i64 n] w fun e w' => e = .returned (.bool true) ∧ Below w.heap.size w w' := by
  refine tinderlaw19_VarsCut.calls (l.length + 140737600000000) A1 c1 nv A c l n true w ht hC1 hc1 hC hc ?_
  have hf : Fits l := hg.2
  have hl : l.length < 1125899906842624 := by omega
  have hB : Bytes nv := wf_B hg1.2
  have hs := save_eq nv hB l hf hl (l.length + 140737600000000) (by omega)
  have hln := load_eq nv hB (l.length + 140737600000000) (by omega)
  have hll := loadF_len nv hB
  have hsl := saveF_len nv l
  unfold tinderlaw19_VarsCut.f
  rw [tinderlaw19_alive.f, Option.bind_some, if_pos rfl, hs, Option.bind_some]
  by_cases he : (encodeF l).2 = 0
  · have hr : rightF l = true ∧ (encF l).length ≤ 248 ∧ (encodeF l).1 = encF l := by
      unfold encodeF at he ⊢
      by_cases hr : rightF l = true
      · rw [if_pos hr] at he ⊢
        by_cases h2 : 248 < (encF l).length
        · rw [if_pos h2] at he; exact absurd he (by decide)
        · rw [if_neg h2]; exact ⟨hr, by omega, rfl⟩
      · rw [if_neg hr] at he; exact absurd he (by decide)
    have es : saveF nv l = planF nv (encF l) := by rw [saveF, if_pos he, hr.2.2]
    rw [es]
    by_cases h5 : nv.length = 512
    · have ep : planF nv (encF l) = (rowsF (baseF nv) (genF nv) (encF l), 0) := by rw [planF, if_pos h5, if_pos hr.2.1]
      rw [ep, if_pos rfl]
      dsimp only
      obtain ⟨h1, h2, h3, h4⟩ := cut_rec nv (encF l) n h5 hr.2.1 hB (encF_B l)
      have hrl := rowsF_len (baseF nv) (genF nv) (encF l)
      rw [apply_eq _ nv _ n (by omega) (by omega) (by omega), Option.bind_some, load_eq _ h1 _ (by omega), Option.bind_some]
      by_cases hge : ((encF l).length : Int) + 9 ≤ n
      · obtain ⟨k, hk⟩ := h3 hge
        have e1 : loadF (applyF nv (rowsF (baseF nv) (genF nv) (encF l)) n) = l := by
          unfold loadF
          rw [hk, if_pos rfl]
          dsimp only
          rw [decS_enc l [] (right_small l hf hr.1).1, List.nil_append, decR_ok l hr.1]
        rw [if_pos (by rw [hrl]; omega), e1, same19 l hl _ (by omega)]
        rfl
      · have e1 : loadF (applyF nv (rowsF (baseF nv) (genF nv) (encF l)) n) = loadF nv := by
          unfold loadF
          rw [h4 (by omega)]
        rw [if_neg (by rw [hrl]; omega), e1, hln, Option.bind_some, same19 _ (by omega) _ (by omega)]
        rfl
    · have ep : planF nv (encF l) = ([], 1) := by rw [planF, if_neg h5]
      rw [ep, if_neg (by decide)]
      rfl
  · have es : saveF nv l = ([], (encodeF l).2) := by rw [saveF, if_neg he]
    rw [es, if_neg he]
    rfl
end Go.Proofs.YtefhngadeimklaaDoor.Q
end
