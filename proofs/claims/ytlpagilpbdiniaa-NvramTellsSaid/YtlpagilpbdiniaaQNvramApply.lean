/- What Go functions of this program answer, as plain Lean functions, and that the calls answer so, wherever the plain function has an answer. Written by a program of this claim's own out of the translation. -/
import Derived.Test.YtlpagilpbdiniaaQ0
import Derived.Test.YtlpagilpbdiniaaHClone
namespace Go.Proofs.Ytlpagilpbdiniaa.Q
open Go.RowKit Go.Proofs.YtlpagilpbdiniaaW.PrintWords Go.Proofs.YtlpagilpbdiniaaW.PrintLast Go.Proofs.YtlpagilpbdiniaaW.PrintMore
set_option linter.unusedVariables false
set_option linter.unusedSimpArgs false

attribute [local go_sem] max2_int min2_int max_two min_two max_three min_three max_four min_four
/-! ### nvram_Apply: function 20 -/
def nvram_Apply.l0 : Nat → List Int → List (S62) → Int → Int → Option (List Int)
  | 0, _, _, _, _ => none
  | k + 1, x0, x17, x18, x19 => if x19 < x18 then (if 0 ≤ x19 then (if x19 < (x17.length : Int) then (if ((rd_T62 x17 x19).f0) ≥ 0 then (if ((rd_T62 x17 x19).f0) < (x0.length : Int) then (if 0 ≤ ((rd_T62 x17 x19).f0) then (nvram_Apply.l0 k (x0.set (((rd_T62 x17 x19).f0) : Int).toNat ((rd_T62 x17 x19).f1)) x17 x18 (wrap64 (x19 + 1))) else (none)) else (nvram_Apply.l0 k x0 x17 x18 (wrap64 (x19 + 1)))) else (nvram_Apply.l0 k x0 x17 x18 (wrap64 (x19 + 1)))) else (none)) else (none)) else (some x0)
def nvram_Apply.f (k : Nat) (l0 : List Int) (l1 : List (S62)) (a2 : Int) : Option (List Int) := (slices_Clone_byte_byte.f l0).bind fun t21001 => (if 0 ≤ (mx 0 (mn a2 (l1.length : Int))) then (if (mx 0 (mn a2 (l1.length : Int))) ≤ (l1.length : Int) then ((some (l1.take ((mx 0 (mn a2 (l1.length : Int))) : Int).toNat : List (S62))).bind fun y21004 => (nvram_Apply.l0 k t21001 y21004 (y21004.length : Int) 0)) else (none)) else (none))
theorem nvram_Apply.mono_l : ∀ k, (∀ y0 y1 y2 y3, LeO (nvram_Apply.l0 k y0 y1 y2 y3) (nvram_Apply.l0 (k + 1) y0 y1 y2 y3))
  | 0 => fun _ _ _ _ r h => by simp [nvram_Apply.l0] at h
  | k + 1 => by
    have ih0 := nvram_Apply.mono_l k
    · intro y0 y1 y2 y3
      unfold nvram_Apply.l0
      repeat' first
      | (with_reducible exact ih0 _ _ _ _)
      | (with_reducible exact LeO.refl _)
      | (with_reducible exact LeO.none _)
      | (with_reducible refine LeO.ite ?_ ?_)
      | (with_reducible refine LeO.bind ?_ (fun _ => ?_))
      | exact ih0 _ _ _ _
      | exact LeO.none _
      | refine LeO.ite ?_ ?_
      | refine LeO.bind ?_ (fun _ => ?_)
theorem nvram_Apply.mono : ∀ a0 a1 a2 k, LeO (nvram_Apply.f k a0 a1 a2) (nvram_Apply.f (k + 1) a0 a1 a2) := by
  intro a0 a1 a2 k
  have ih0 := nvram_Apply.mono_l k
  unfold nvram_Apply.f
  repeat' first
      | (with_reducible exact ih0 _ _ _ _)
      | (with_reducible exact LeO.refl _)
      | (with_reducible exact LeO.none _)
      | (with_reducible refine LeO.ite ?_ ?_)
      | (with_reducible refine LeO.bind ?_ (fun _ => ?_))
      | exact ih0 _ _ _ _
      | exact LeO.none _
      | refine LeO.ite ?_ ?_
      | refine LeO.bind ?_ (fun _ => ?_)
set_option maxHeartbeats 8000000 in
set_option maxRecDepth 100000 in
theorem nvram_Apply.calls (k : Nat) (A0 : Option Addr) (c0 : Nat) (l0 : List Int) (A1 : Option Addr) (c1 : Nat) (l1 : List (S62)) (a2 : Int) (r : List Int) (w : World) (hr0 : Kd.C (Kd.int .u8) w A0 l0.length l0) (hc0 : l0.length ≤ c0) (hr1 : Kd.C k62 w A1 l1.length l1) (hc1 : l1.length ≤ c1) (h : nvram_Apply.f k l0 l1 a2 = some r) :
    Calls Try.prog 20 #[.slice A0 l0.length c0, .slice A1 l1.length c1, .int .i64 a2] w fun e w' => ∃ v0_ : Value, e = .returned (v0_) ∧ Kd.R (Kd.int .u8) 5 w' w.heap.size (fun _ => True) v0_ r ∧ Below w.heap.size w w' := by
  have hu62 := Try.underlying62
  have HR0 := Aside0.mk hr0
  have HC0 := Aside0.mk hc0
  clear hr0 hc0
  have HR1 := Aside0.mk hr1
  have HC1 := Aside0.mk hc1
  clear hr1 hc1
  have HB := Aside0.mk (Below.refl w.heap.size w)
  have H : ((slices_Clone_byte_byte.f l0).bind fun t21001 => (if 0 ≤ (mx 0 (mn a2 (l1.length : Int))) then (if (mx 0 (mn a2 (l1.length : Int))) ≤ (l1.length : Int) then ((some (l1.take ((mx 0 (mn a2 (l1.length : Int))) : Int).toNat : List (S62))).bind fun y21004 => (nvram_Apply.l0 k t21001 y21004 (y21004.length : Int) 0)) else (none)) else (none))) = some r := h
  clear h
  replace H := Option.bind_eq_some_iff.mp H
  obtain ⟨t21001, A40, H⟩ := H
  replace H : (if 0 ≤ (mx 0 (mn a2 (l1.length : Int))) then (if (mx 0 (mn a2 (l1.length : Int))) ≤ (l1.length : Int) then ((some (l1.take ((mx 0 (mn a2 (l1.length : Int))) : Int).toNat : List (S62))).bind fun y21004 => (nvram_Apply.l0 k t21001 y21004 (y21004.length : Int) 0)) else (none)) else (none)) = some r := H
  have A4 := Aside0.mk A40
  clear A40
  obtain ⟨ji5, hji5⟩ : ∃ j_ : Int, (mn a2 (l1.length : Int)) = j_ := ⟨_, rfl⟩
  replace H : (if 0 ≤ (mx 0 (ji5)) then (if (mx 0 (ji5)) ≤ (l1.length : Int) then ((some (l1.take ((mx 0 (ji5)) : Int).toNat : List (S62))).bind fun y21004 => (nvram_Apply.l0 k t21001 y21004 (y21004.length : Int) 0)) else (none)) else (none)) = some r := by first | (rw [hji5] at H; exact H) | (simp only [hji5] at H ⊢; exact H)
  (try rw [hji5] at A4)
  have hji5_ : (if (l1.length : Int) < a2 then (l1.length : Int) else a2) = ji5 := hji5
  obtain ⟨ji6, hji6⟩ : ∃ j_ : Int, (mx 0 (ji5)) = j_ := ⟨_, rfl⟩
  replace H : (if 0 ≤ (ji6) then (if (ji6) ≤ (l1.length : Int) then ((some (l1.take ((ji6) : Int).toNat : List (S62))).bind fun y21004 => (nvram_Apply.l0 k t21001 y21004 (y21004.length : Int) 0)) else (none)) else (none)) = some r := by first | (rw [hji6] at H; exact H) | (simp only [hji6] at H ⊢; exact H)
  (try rw [hji6] at A4)
  have hji6_ : (if 0 < (ji5) then (ji5) else 0) = ji6 := hji6
  by_cases c7 : 0 ≤ (ji6)
  · rw [if_pos c7] at H
    have c7b0 := eq_true c7
    have c7b1 : decide (0 ≤ (ji6)) = true := decide_eq_true c7
    clear c7
    by_cases c8 : (ji6) ≤ (l1.length : Int)
    · rw [if_pos c8] at H
      have c8b0 := eq_true c8
      have c8b1 : decide ((ji6) ≤ (l1.length : Int)) = true := decide_eq_true c8
      clear c8
      obtain ⟨y21004, hy21004⟩ : ∃ y_ : List (S62), y_ = (l1.take ((ji6) : Int).toNat) := ⟨_, rfl⟩
      replace H : (nvram_Apply.l0 k t21001 y21004 (y21004.length : Int) 0) = some r := by first | (rw [hy21004]; with_reducible exact H) | (have H2_ := (Option.bind_some _ _).symm.trans H; rw [hy21004]; with_reducible exact H2_) | (have H2_ := (Option.bind_some _ _).symm.trans H; with_reducible exact H2_) | with_reducible exact H | (rw [hy21004]; exact H) | exact H
      have Ny21004 := Aside0.mk hy21004
      clear hy21004
      have H' := Aside0.mk H
      clear H
      go_enter Try.func20, Try.ntmps20
      go_wp2_with (first | ((with_reducible refine gate_callee (f := 26) rfl ?_); refine goesL_ (some 10) rfl rfl Try.func26 (by kernel_rfl) rfl #[.slice A0 l0.length c0] rfl (by (try simp only [List.map_toArray, List.map_cons, List.map_nil]); first | done | rfl | (simp only [List.length_drop, List.length_take]; rfl)) ?_; (with_reducible refine (slices_Clone_byte_byte.calls _ _ l0 t21001 _ ?side1 ?side2 A4.out).mono ?_); (case side1 => repeat (first | exact HR0.out | (with_reducible refine Kd.C_alloc ?_ _) | (with_reducible refine Kd.C_drewN ?_ _) | (with_reducible refine Kd.C_drew ?_))); (case side2 => exact HC0.out); rintro e w9 ⟨v21002, rfl, ho0, hb⟩; refine ⟨_, rfl, ?_⟩; have n0_ := Aside0.mk (Kd.R_lower ho0 (below_size (by repeat (first | (with_reducible first | exact HB.out | apply below_alloc | apply pw_below_drewN | apply below_drew1) | exact HB.out)))); have n1_ := Aside0.mk (below_step (by repeat (first | (with_reducible first | exact HB.out | apply below_alloc | apply pw_below_drewN | apply below_drew1) | exact HB.out)) hb); clear HB; have HO21003 := n0_; have HB := n1_; clear n0_ n1_; (try clear hb); (try clear hb2); (try clear hk); (try clear hi); (try clear ho0); have q10 : ((ji6) : Int) ≤ ((l1.length : Int) : Int) := of_decide_eq_true (by first | (with_reducible assumption) | assumption); obtain ⟨i010, hi010, _, hsz10, _⟩ := info_parts info62; have hroom10 : l1.length ≤ c1 := HC1.out; have hC10 : Kd.C k62 _ A1 l1.length l1 := HR1.out; have hcut10 := cut_to (P := Try.prog) 32 62 .i64 Try.underlying32 hi010 A1 l1.length c1 (ji6) (of_decide_eq_true (by first | (with_reducible assumption) | assumption)) q10 hroom10; have hr10 := Kd.C_take (m := ((ji6) : Int).toNat) hC10 (by omega); have hy10 : y21004.length = ((ji6) : Int).toNat := (by rw [Ny21004.out, List.length_take]; omega); rw [← Ny21004.out] at hr10; rw [← hy10] at hcut10; have HR21007 := Aside0.mk hr10; have HC21007 := Aside0.mk (show y21004.length ≤ c1 from by omega); clear hr10 hC10 hroom10 hi010 hsz10; have KY10 := Aside0.mk hy10; clear hy10; replace q10 := eq_true q10))
      go_loopg [19] k (fun kq v19 w' => ∃ (x0_1 : List Int) (x19_1 : Int), v19 = .int .i64 x19_1 ∧ Aside0 (nvram_Apply.l0 kq x0_1 y21004 (y21004.length : Int) x19_1 = some r) ∧ Aside0 (kq ≤ k) ∧ Aside0 (Kd.R (Kd.int .u8) 5 w' w.heap.size (fun _ => True) v21002 x0_1) ∧ Aside0 (Below w.heap.size w w'))
      case atStart => exact ⟨(t21001), (0), (by first | rfl | (simp; done) | (simp [*]; done)), H', ⟨Nat.le_refl _⟩, ⟨by (with_reducible repeat (first | apply Kd.R_alloc | apply Kd.R_drewN | apply Kd.R_drew)); exact HO21003.out⟩, ⟨by repeat (first | (with_reducible first | exact HB.out | apply below_alloc | apply pw_below_drewN | apply below_drew1) | exact HB.out)⟩⟩
      case round =>
        clear H'
        try clear c1
        try clear q1
        try clear c2
        try clear p2
        try clear c7
        try clear c7b0
        try clear c7b1
        try clear c8
        try clear c8b0
        try clear c8b1
        try clear q10
        try clear q10
        obtain ⟨x0_1, x19_1, rfl, HA, HK1, HO_0, HB⟩ := hrel
        cases gk with
        | zero => exact absurd HA.out (by simp [nvram_Apply.l0])
        | succ k1 =>
          have H := HA.out
          clear HA
          simp only [nvram_Apply.l0] at H
          by_cases c11 : x19_1 < (y21004.length : Int)
          · rw [if_pos c11] at H
            have c11b0 : decide (x19_1 < (y21004.length : Int)) = true := decide_eq_true c11
            clear c11
            by_cases c12 : 0 ≤ x19_1
            · rw [if_pos c12] at H
              have c12b0 : decide (0 ≤ x19_1) = true := decide_eq_true c12
              clear c12
              by_cases c13 : x19_1 < (y21004.length : Int)
              · rw [if_pos c13] at H
                have c13b0 : decide (x19_1 < (y21004.length : Int)) = true := decide_eq_true c13
                clear c13
                by_cases c14 : ((rd_T62 y21004 x19_1).f0) ≥ 0
                · rw [if_pos c14] at H
                  have c14b0 : decide (0 ≤ ((rd_T62 y21004 x19_1).f0)) = true := decide_eq_true c14
                  clear c14
                  by_cases c15 : ((rd_T62 y21004 x19_1).f0) < (x0_1.length : Int)
                  · rw [if_pos c15] at H
                    have c15b0 : decide (((rd_T62 y21004 x19_1).f0) < (x0_1.length : Int)) = true := decide_eq_true c15
                    clear c15
                    by_cases c16 : 0 ≤ ((rd_T62 y21004 x19_1).f0)
                    · rw [if_pos c16] at H
                      have c16b0 : decide (0 ≤ ((rd_T62 y21004 x19_1).f0)) = true := decide_eq_true c16
                      clear c16
                      obtain ⟨y21010, hy21010⟩ : ∃ y_ : List Int, y_ = (x0_1.set (((rd_T62 y21004 x19_1).f0) : Int).toNat ((rd_T62 y21004 x19_1).f1)) := ⟨_, rfl⟩
                      replace H : (nvram_Apply.l0 k1 y21010 y21004 (y21004.length : Int) (wrap64 (x19_1 + 1))) = some r := by first | (rw [hy21010]; with_reducible exact H) | (have H2_ := (Option.bind_some _ _).symm.trans H; rw [hy21010]; with_reducible exact H2_) | (have H2_ := (Option.bind_some _ _).symm.trans H; with_reducible exact H2_) | with_reducible exact H | (rw [hy21010]; exact H) | exact H
                      have Ny21010 := Aside0.mk hy21010
                      clear hy21010
                      have H' := Aside0.mk H
                      clear H
                      have p21008 : 0 ≤ (x19_1 : Int) := of_decide_eq_true (by first | (with_reducible assumption) | assumption)
                      have q21008 : x19_1 < (y21004.length : Int) := of_decide_eq_true (by first | (with_reducible assumption) | assumption)
                      obtain ⟨ad21008, e21008, hx21008_0, hx21008_1⟩ := at_T62 HR21007.out x19_1 p21008 q21008
                      cases e21008
                      replace hx21008_0 := (HB.out.cell (World.block_lt_of_cell? w _ hx21008_0)).trans hx21008_0
                      replace hx21008_1 := (HB.out.cell (World.block_lt_of_cell? w _ hx21008_1)).trans hx21008_1
                      replace p21008 := eq_true p21008
                      replace q21008 := eq_true q21008
                      go_wp2_with (first | ((with_reducible refine gate_dst (N := 8) rfl ?_); (try (refine gate_guard (by rfl) ?_; dsimp only)); refine box_event ?hg (N := 8) ?hd (cs := #[.int .i64 0, .int .u8 0]) (t := 62) ?hr ?_; (case hd => rfl); (case hg => rfl); (case hr => first | (go_simp; done) | (go_simp; rfl)); intro gb21009 hg w18 hbox hb; have n0_ := Aside0.mk (Kd.R_below (by (with_reducible repeat (first | apply Kd.R_alloc | apply Kd.R_drewN | apply Kd.R_drew)); exact HO_0.out) hb); have n1_ := Aside0.mk (below_step (by repeat (first | (with_reducible first | exact HB.out | apply below_alloc | apply pw_below_drewN | apply below_drew1) | exact HB.out)) hb); have n2_ := Aside0.mk (hbox); have n3_ := Aside0.mk ((by rw [hg]; exact (below_size (by repeat (first | (with_reducible first | exact HB.out | apply below_alloc | apply pw_below_drewN | apply below_drew1) | exact HB.out))) : w.heap.size ≤ gb21009)); have n4_ := Aside0.mk ((by rw [hg]; exact (below_size (by repeat (first | (with_reducible first | exact HB.out | apply below_alloc | apply pw_below_drewN | apply below_drew1) | exact HB.out))) : w.heap.size ≤ gb21009)); clear HO_0; clear HB; have HO_0 := n0_; have HB := n1_; have BK21009 := n2_; have GW21009 := n3_; have GE21009 := n4_; clear n0_ n1_ n2_ n3_ n4_; clear hb hbox hg; have hcz19_0 : w18.cell? ⟨gb21009, 0, none⟩ = some (.int .i64 0) := (blk_cell BK21009.out 0).trans rfl; have hcz19_1 : w18.cell? ⟨gb21009, 1, none⟩ = some (.int .u8 0) := (blk_cell BK21009.out 1).trans rfl; have hfz19_0 := blk_frozen BK21009.out 0; have hfz19_1 := blk_frozen BK21009.out 1) | ((with_reducible refine gate_store (t := 62) (p := 8) rfl ?_); refine store_event (t := 62) (p := 8) (v := ?vo_w20) (w1 := ((w18.setCell ⟨gb21009, 0, none⟩ (.int .i64 ((rd_T62 y21004 x19_1).f0))).setCell ⟨gb21009, 1, none⟩ (.int .u8 ((rd_T62 y21004 x19_1).f1)))) ?hg ?ho ?hn ?hr ?_; (case ho => rfl); (case hg => rfl); (case hn => rfl); (case hr => first | (go_simp; done) | (go_simp; rfl)); intro w20 hw; have n0_ : Aside0 (Kd.R (Kd.int .u8) 5 w20 w.heap.size (fun _ => True) v21002 x0_1) := ⟨(by rw [hw]; exact (by (with_reducible repeat (first | apply Kd.R_alloc | apply Kd.R_drewN | apply Kd.R_drew)); exact Kd.R_mono (Kd.R_far (p := ⟨gb21009, 1, none⟩) (Kd.R_far (p := ⟨gb21009, 0, none⟩) (Kd.R_types HO_0.out BK21009.out (by decide)) (fun _ hk => hk.2) (.int .i64 ((rd_T62 y21004 x19_1).f0))) (fun _ hk => hk.2) (.int .u8 ((rd_T62 y21004 x19_1).f1))) (fun _ hk => trivial)))⟩; have n1_ : Aside0 (w20.heap[gb21009]? = some (.cells #[.int .i64 ((rd_T62 y21004 x19_1).f0), .int .u8 ((rd_T62 y21004 x19_1).f1)] 62 (0, 0))) := ⟨(by rw [hw]; exact (by (with_reducible repeat (first | refine blk_drewN ?_ _ | refine blk_drew ?_ | refine blk_alloc ?_ _)); refine blk_put (cs := #[.int .i64 ((rd_T62 y21004 x19_1).f0), .int .u8 0]) ?_ 1 _ rfl; (with_reducible repeat (first | refine blk_drewN ?_ _ | refine blk_drew ?_ | refine blk_alloc ?_ _)); refine blk_put (cs := #[.int .i64 0, .int .u8 0]) ?_ 0 _ rfl; (with_reducible repeat (first | refine blk_drewN ?_ _ | refine blk_drew ?_ | refine blk_alloc ?_ _)); exact BK21009.out))⟩; have n2_ : Aside0 (Below w.heap.size w w20) := ⟨(by rw [hw]; exact (by repeat (first | (with_reducible first | exact HB.out | apply below_alloc | apply pw_below_drewN | apply below_drew1 | refine below_set ?_ GE21009.out) | exact HB.out)))⟩; clear hw; clear HO_0; clear BK21009; clear HB; have HO_0 := n0_; have BK21009 := n1_; have HB := n2_; clear n0_ n1_ n2_; have hcz21_0 : w20.cell? ⟨gb21009, 0, none⟩ = some (.int .i64 ((rd_T62 y21004 x19_1).f0)) := (blk_cell BK21009.out 0).trans rfl; have hcz21_1 : w20.cell? ⟨gb21009, 1, none⟩ = some (.int .u8 ((rd_T62 y21004 x19_1).f1)) := (blk_cell BK21009.out 1).trans rfl; have hfz21_0 := blk_frozen BK21009.out 0; have hfz21_1 := blk_frozen BK21009.out 1; obtain ⟨Ao22, co22, eo22⟩ := Kd.R_slice HO_0.out; subst eo22; have p17 : 0 ≤ (((rd_T62 y21004 x19_1).f0) : Int) := of_decide_eq_true (by first | (with_reducible assumption) | assumption); have q17 : (((rd_T62 y21004 x19_1).f0) : Int) < ((x0_1.length : Int) : Int) := of_decide_eq_true (by first | (with_reducible assumption) | assumption); obtain ⟨go17, co17, eo17, gb17, gl17, cl17, HG17⟩ := Kd.R_form HO_0.out (by omega); (first | cases eo17 | (injection eo17 with ea_ en_ ec_; (first | subst ea_ | (injection ea_ with ea_; subst ea_)); subst ec_; clear en_)); have GB17 := Aside0.mk gb17; have GG17 := Aside0.mk HG17; clear gb17 gl17 HG17; obtain ⟨hx17_0, hf17_0⟩ := Kd.R_celln 0 HO_0.out (((rd_T62 y21004 x19_1).f0) : Int) p17 q17; replace p17 := eq_true p17; replace q17 := eq_true q17; obtain ⟨hy23_, hz23_⟩ := Kd.R_celln 0 HO_0.out (((rd_T62 y21004 x19_1).f0) : Int) (of_decide_eq_true (by first | (with_reducible assumption) | assumption)) (of_decide_eq_true (by first | (with_reducible assumption) | assumption)); have HP23 := Kd.R_putg HO_0.out (((rd_T62 y21004 x19_1).f0) : Int) ((rd_T62 y21004 x19_1).f1)) | ((with_reducible refine gate_store (t := 5) (p := 38) rfl ?_); refine store_event (t := 5) (p := 38) (v := ?vo_w24) (w1 := (w20.setCell ⟨go17, (((rd_T62 y21004 x19_1).f0) : Int).toNat, none⟩ (.int .u8 ((rd_T62 y21004 x19_1).f1)))) ?hg ?ho ?hn ?hr ?_; (case ho => rfl); (case hg => rfl); (case hn => rfl); (case hr => first | (go_simp; done) | (go_simp; rfl)); intro w24 hw; have hg : w20.grownBy w24 (some go17) := (by rw [hw]; exact HP23.2); have hp_ : Kd.R (Kd.int .u8) 5 w24 w.heap.size (fun _ => True) (.slice (some ⟨go17, 0, none⟩) x0_1.length co22) y21010 := (by rw [hw, Ny21010.out]; exact HP23.1); clear HP23; have n0_ := Aside0.mk (hp_); have n1_ := Aside0.mk (blk_grown (g := gb21009) (o := .cells #[.int .i64 ((rd_T62 y21004 x19_1).f0), .int .u8 ((rd_T62 y21004 x19_1).f1)] 62 (0, 0)) (by (with_reducible repeat (first | refine blk_drewN ?_ _ | refine blk_drew ?_ | refine blk_alloc ?_ _)); exact BK21009.out) hg (Kd.R_ne HO_0.out BK21009.out (by decide))); have n2_ := Aside0.mk ((by rw [hw]; exact below_set (HB.out) GB17.out : Below w.heap.size w w24)); clear HO_0; clear BK21009; clear HB; have HO_0 := n0_; have BK21009 := n1_; have HB := n2_; clear n0_ n1_ n2_; clear hg hw hp_))
                      go_roundg k1
                      case measure => have := HK1.out; omega
                      case rel => exact ⟨(y21010), (wrap64 (x19_1 + 1)), (by first | rfl | (simp; done) | (simp [*]; done)), H', ⟨by have := HK1.out; omega⟩, ⟨by (with_reducible repeat (first | apply Kd.R_alloc | apply Kd.R_drewN | apply Kd.R_drew)); exact HO_0.out⟩, ⟨by repeat (first | (with_reducible first | exact HB.out | apply below_alloc | apply pw_below_drewN | apply below_drew1 | refine below_set ?_ GE21009.out) | exact HB.out)⟩⟩
                    · rw [if_neg c16] at H
                      exact absurd H (by simp)
                  · rw [if_neg c15] at H
                    have c15b0 : decide (((rd_T62 y21004 x19_1).f0) < (x0_1.length : Int)) = false := decide_eq_false c15
                    clear c15
                    have H' := Aside0.mk H
                    clear H
                    have p21008 : 0 ≤ (x19_1 : Int) := of_decide_eq_true (by first | (with_reducible assumption) | assumption)
                    have q21008 : x19_1 < (y21004.length : Int) := of_decide_eq_true (by first | (with_reducible assumption) | assumption)
                    obtain ⟨ad21008, e21008, hx21008_0, hx21008_1⟩ := at_T62 HR21007.out x19_1 p21008 q21008
                    cases e21008
                    replace hx21008_0 := (HB.out.cell (World.block_lt_of_cell? w _ hx21008_0)).trans hx21008_0
                    replace hx21008_1 := (HB.out.cell (World.block_lt_of_cell? w _ hx21008_1)).trans hx21008_1
                    replace p21008 := eq_true p21008
                    replace q21008 := eq_true q21008
                    go_wp2_with (first | ((with_reducible refine gate_dst (N := 8) rfl ?_); (try (refine gate_guard (by rfl) ?_; dsimp only)); refine box_event ?hg (N := 8) ?hd (cs := #[.int .i64 0, .int .u8 0]) (t := 62) ?hr ?_; (case hd => rfl); (case hg => rfl); (case hr => first | (go_simp; done) | (go_simp; rfl)); intro gb21009 hg w25 hbox hb; have n0_ := Aside0.mk (Kd.R_below (by (with_reducible repeat (first | apply Kd.R_alloc | apply Kd.R_drewN | apply Kd.R_drew)); exact HO_0.out) hb); have n1_ := Aside0.mk (below_step (by repeat (first | (with_reducible first | exact HB.out | apply below_alloc | apply pw_below_drewN | apply below_drew1) | exact HB.out)) hb); have n2_ := Aside0.mk (hbox); have n3_ := Aside0.mk ((by rw [hg]; exact (below_size (by repeat (first | (with_reducible first | exact HB.out | apply below_alloc | apply pw_below_drewN | apply below_drew1) | exact HB.out))) : w.heap.size ≤ gb21009)); have n4_ := Aside0.mk ((by rw [hg]; exact (below_size (by repeat (first | (with_reducible first | exact HB.out | apply below_alloc | apply pw_below_drewN | apply below_drew1) | exact HB.out))) : w.heap.size ≤ gb21009)); clear HO_0; clear HB; have HO_0 := n0_; have HB := n1_; have BK21009 := n2_; have GW21009 := n3_; have GE21009 := n4_; clear n0_ n1_ n2_ n3_ n4_; clear hb hbox hg; have hcz26_0 : w25.cell? ⟨gb21009, 0, none⟩ = some (.int .i64 0) := (blk_cell BK21009.out 0).trans rfl; have hcz26_1 : w25.cell? ⟨gb21009, 1, none⟩ = some (.int .u8 0) := (blk_cell BK21009.out 1).trans rfl; have hfz26_0 := blk_frozen BK21009.out 0; have hfz26_1 := blk_frozen BK21009.out 1; obtain ⟨Ao27, co27, eo27⟩ := Kd.R_slice HO_0.out; subst eo27))
                    go_roundg k1
                    case measure => have := HK1.out; omega
                    case rel => exact ⟨(x0_1), (wrap64 (x19_1 + 1)), (by first | rfl | (simp; done) | (simp [*]; done)), H', ⟨by have := HK1.out; omega⟩, ⟨by (with_reducible repeat (first | apply Kd.R_alloc | apply Kd.R_drewN | apply Kd.R_drew)); exact Kd.R_mono (Kd.R_far (p := ⟨gb21009, 1, none⟩) (Kd.R_far (p := ⟨gb21009, 0, none⟩) (Kd.R_types HO_0.out BK21009.out (by decide)) (fun _ hk => hk.2) (.int .i64 ((rd_T62 y21004 x19_1).f0))) (fun _ hk => hk.2) (.int .u8 ((rd_T62 y21004 x19_1).f1))) (fun _ hk => trivial)⟩, ⟨by repeat (first | (with_reducible first | exact HB.out | apply below_alloc | apply pw_below_drewN | apply below_drew1 | refine below_set ?_ GE21009.out) | exact HB.out)⟩⟩
                · rw [if_neg c14] at H
                  have c14b0 : decide (0 ≤ ((rd_T62 y21004 x19_1).f0)) = false := decide_eq_false c14
                  clear c14
                  have H' := Aside0.mk H
                  clear H
                  have p21008 : 0 ≤ (x19_1 : Int) := of_decide_eq_true (by first | (with_reducible assumption) | assumption)
                  have q21008 : x19_1 < (y21004.length : Int) := of_decide_eq_true (by first | (with_reducible assumption) | assumption)
                  obtain ⟨ad21008, e21008, hx21008_0, hx21008_1⟩ := at_T62 HR21007.out x19_1 p21008 q21008
                  cases e21008
                  replace hx21008_0 := (HB.out.cell (World.block_lt_of_cell? w _ hx21008_0)).trans hx21008_0
                  replace hx21008_1 := (HB.out.cell (World.block_lt_of_cell? w _ hx21008_1)).trans hx21008_1
                  replace p21008 := eq_true p21008
                  replace q21008 := eq_true q21008
                  go_wp2_with (first | ((with_reducible refine gate_dst (N := 8) rfl ?_); (try (refine gate_guard (by rfl) ?_; dsimp only)); refine box_event ?hg (N := 8) ?hd (cs := #[.int .i64 0, .int .u8 0]) (t := 62) ?hr ?_; (case hd => rfl); (case hg => rfl); (case hr => first | (go_simp; done) | (go_simp; rfl)); intro gb21009 hg w28 hbox hb; have n0_ := Aside0.mk (Kd.R_below (by (with_reducible repeat (first | apply Kd.R_alloc | apply Kd.R_drewN | apply Kd.R_drew)); exact HO_0.out) hb); have n1_ := Aside0.mk (below_step (by repeat (first | (with_reducible first | exact HB.out | apply below_alloc | apply pw_below_drewN | apply below_drew1) | exact HB.out)) hb); have n2_ := Aside0.mk (hbox); have n3_ := Aside0.mk ((by rw [hg]; exact (below_size (by repeat (first | (with_reducible first | exact HB.out | apply below_alloc | apply pw_below_drewN | apply below_drew1) | exact HB.out))) : w.heap.size ≤ gb21009)); have n4_ := Aside0.mk ((by rw [hg]; exact (below_size (by repeat (first | (with_reducible first | exact HB.out | apply below_alloc | apply pw_below_drewN | apply below_drew1) | exact HB.out))) : w.heap.size ≤ gb21009)); clear HO_0; clear HB; have HO_0 := n0_; have HB := n1_; have BK21009 := n2_; have GW21009 := n3_; have GE21009 := n4_; clear n0_ n1_ n2_ n3_ n4_; clear hb hbox hg; have hcz29_0 : w28.cell? ⟨gb21009, 0, none⟩ = some (.int .i64 0) := (blk_cell BK21009.out 0).trans rfl; have hcz29_1 : w28.cell? ⟨gb21009, 1, none⟩ = some (.int .u8 0) := (blk_cell BK21009.out 1).trans rfl; have hfz29_0 := blk_frozen BK21009.out 0; have hfz29_1 := blk_frozen BK21009.out 1))
                  go_roundg k1
                  case measure => have := HK1.out; omega
                  case rel => exact ⟨(x0_1), (wrap64 (x19_1 + 1)), (by first | rfl | (simp; done) | (simp [*]; done)), H', ⟨by have := HK1.out; omega⟩, ⟨by (with_reducible repeat (first | apply Kd.R_alloc | apply Kd.R_drewN | apply Kd.R_drew)); exact Kd.R_mono (Kd.R_far (p := ⟨gb21009, 1, none⟩) (Kd.R_far (p := ⟨gb21009, 0, none⟩) (Kd.R_types HO_0.out BK21009.out (by decide)) (fun _ hk => hk.2) (.int .i64 ((rd_T62 y21004 x19_1).f0))) (fun _ hk => hk.2) (.int .u8 ((rd_T62 y21004 x19_1).f1))) (fun _ hk => trivial)⟩, ⟨by repeat (first | (with_reducible first | exact HB.out | apply below_alloc | apply pw_below_drewN | apply below_drew1 | refine below_set ?_ GE21009.out) | exact HB.out)⟩⟩
              · rw [if_neg c13] at H
                exact absurd H (by simp)
            · rw [if_neg c12] at H
              exact absurd H (by simp)
          · rw [if_neg c11] at H
            have c11b0 : decide (x19_1 < (y21004.length : Int)) = false := decide_eq_false c11
            clear c11
            obtain rfl := Option.some.inj H
            go_wp2
            go_ret
            exact ⟨_, by first | rfl | (simp [errW_none, errW_some] <;> rfl) | (simp only [← hji5, ← hji6]; first | rfl | (simp [errW_none, errW_some] <;> rfl)) | (simp [*, errW_none, errW_some] <;> rfl), by (with_reducible repeat (first | apply Kd.R_alloc | apply Kd.R_drewN | apply Kd.R_drew)); exact HO_0.out, by repeat (first | (with_reducible first | exact HB.out | apply below_alloc | apply pw_below_drewN | apply below_drew1) | exact HB.out)⟩
    · rw [if_neg c8] at H
      exact absurd H (by simp)
  · rw [if_neg c7] at H
    exact absurd H (by simp)

end Go.Proofs.Ytlpagilpbdiniaa.Q
