/- What Go functions of this program answer, as plain Lean functions, and that the calls answer so, wherever the plain function has an answer. Written by a program of this claim's own out of the translation. -/
import Derived.Test.YtlpagilpbdiniaaQ0
namespace Go.Proofs.Ytlpagilpbdiniaa.Q
open Go.RowKit Go.Proofs.YtlpagilpbdiniaaW.PrintWords Go.Proofs.YtlpagilpbdiniaaW.PrintLast Go.Proofs.YtlpagilpbdiniaaW.PrintMore
set_option linter.unusedVariables false
set_option linter.unusedSimpArgs false

attribute [local go_sem] max2_int min2_int max_two min_two max_three min_three max_four min_four
/-! ### tinderref18_Sum: function 12 -/
def tinderref18_Sum.l0 : Nat → List Int → Int → Int → Option (Int)
  | 0, _, _, _ => none
  | k + 1, x6, x7, x8 => if x8 < (x6.length : Int) then (if 0 ≤ x8 then (tinderref18_Sum.l0 k x6 (Int.tmod (IntKind.u64.wrap ((IntKind.u64.wrap ((IntKind.u64.wrap (x7 - (Int.tmod x7 256))) + (Go.bits .xor .u64 (Int.tmod x7 256) (IntKind.u64.wrap (rd x6 x8))))) * 16777619)) 4294967296) (wrap64 (x8 + 1))) else (none)) else (some ((x7) % 4294967296))
def tinderref18_Sum.f (k : Nat) (a0 : Int) (l1 : List Int) : Option (Int) := (some (([a0, (Int.tmod (IntKind.u64.wrap (Int.tdiv (IntKind.u64.wrap ((l1.length : Int))) 256)) 256) % 256, (Int.tmod (IntKind.u64.wrap ((l1.length : Int))) 256) % 256] : List Int) : List Int)).bind fun y13001 => (if y13001.length + l1.length < 140737488355328 then (tinderref18_Sum.l0 k (y13001 ++ l1) 2166136261 0) else (none))
theorem tinderref18_Sum.mono_l : ∀ k, (∀ y0 y1 y2, LeO (tinderref18_Sum.l0 k y0 y1 y2) (tinderref18_Sum.l0 (k + 1) y0 y1 y2))
  | 0 => fun _ _ _ r h => by simp [tinderref18_Sum.l0] at h
  | k + 1 => by
    have ih0 := tinderref18_Sum.mono_l k
    · intro y0 y1 y2
      unfold tinderref18_Sum.l0
      repeat' first
      | (with_reducible exact ih0 _ _ _)
      | (with_reducible exact LeO.refl _)
      | (with_reducible exact LeO.none _)
      | (with_reducible refine LeO.ite ?_ ?_)
      | (with_reducible refine LeO.bind ?_ (fun _ => ?_))
      | exact ih0 _ _ _
      | exact LeO.none _
      | refine LeO.ite ?_ ?_
      | refine LeO.bind ?_ (fun _ => ?_)
theorem tinderref18_Sum.mono : ∀ a0 a1 k, LeO (tinderref18_Sum.f k a0 a1) (tinderref18_Sum.f (k + 1) a0 a1) := by
  intro a0 a1 k
  have ih0 := tinderref18_Sum.mono_l k
  unfold tinderref18_Sum.f
  repeat' first
      | (with_reducible exact ih0 _ _ _)
      | (with_reducible exact LeO.refl _)
      | (with_reducible exact LeO.none _)
      | (with_reducible refine LeO.ite ?_ ?_)
      | (with_reducible refine LeO.bind ?_ (fun _ => ?_))
      | exact ih0 _ _ _
      | exact LeO.none _
      | refine LeO.ite ?_ ?_
      | refine LeO.bind ?_ (fun _ => ?_)
set_option maxHeartbeats 8000000 in
set_option maxRecDepth 100000 in
theorem tinderref18_Sum.calls (k : Nat) (a0 : Int) (A1 : Option Addr) (c1 : Nat) (l1 : List Int) (r : Int) (w : World) (hr1 : Kd.C (Kd.int .u8) w A1 l1.length l1) (hc1 : l1.length ≤ c1) (h : tinderref18_Sum.f k a0 l1 = some r) :
    Calls Try.prog 12 #[.int .u8 a0, .slice A1 l1.length c1] w fun e w' => e = .returned (.int .u32 r) ∧ Below w.heap.size w w' := by
  have HR1 := Aside0.mk hr1
  have HC1 := Aside0.mk hc1
  clear hr1 hc1
  have HB := Aside0.mk (Below.refl w.heap.size w)
  have H : ((some (([a0, (Int.tmod (IntKind.u64.wrap (Int.tdiv (IntKind.u64.wrap ((l1.length : Int))) 256)) 256) % 256, (Int.tmod (IntKind.u64.wrap ((l1.length : Int))) 256) % 256] : List Int) : List Int)).bind fun y13001 => (if y13001.length + l1.length < 140737488355328 then (tinderref18_Sum.l0 k (y13001 ++ l1) 2166136261 0) else (none))) = some r := h
  clear h
  obtain ⟨y13001, hy13001⟩ : ∃ y_ : List Int, y_ = (([a0, (Int.tmod (IntKind.u64.wrap (Int.tdiv (IntKind.u64.wrap ((l1.length : Int))) 256)) 256) % 256, (Int.tmod (IntKind.u64.wrap ((l1.length : Int))) 256) % 256] : List Int)) := ⟨_, rfl⟩
  replace H : (if y13001.length + l1.length < 140737488355328 then (tinderref18_Sum.l0 k (y13001 ++ l1) 2166136261 0) else (none)) = some r := by first | (rw [hy13001]; with_reducible exact H) | (have H2_ := (Option.bind_some _ _).symm.trans H; rw [hy13001]; with_reducible exact H2_) | (have H2_ := (Option.bind_some _ _).symm.trans H; with_reducible exact H2_) | with_reducible exact H | (rw [hy13001]; exact H) | exact H
  have Ny13001 := Aside0.mk hy13001
  clear hy13001
  by_cases c3 : y13001.length + l1.length < 140737488355328
  · rw [if_pos c3] at H
    have LMc3 := Aside0.mk c3
    clear c3
    obtain ⟨y13004, hy13004⟩ : ∃ y_ : List Int, y_ = (y13001 ++ l1) := ⟨_, rfl⟩
    replace H : (tinderref18_Sum.l0 k y13004 2166136261 0) = some r := by first | (rw [hy13004]; with_reducible exact H) | (have H2_ := (Option.bind_some _ _).symm.trans H; rw [hy13004]; with_reducible exact H2_) | (have H2_ := (Option.bind_some _ _).symm.trans H; with_reducible exact H2_) | with_reducible exact H | (rw [hy13004]; exact H) | exact H
    have Ny13004 := Aside0.mk hy13004
    clear hy13004
    have H' := Aside0.mk H
    clear H
    go_enter Try.func12, Try.ntmps12
    go_wp2_with (first | ((with_reducible refine gate_dst (N := 21) rfl ?_); refine Kd.R_lit (Kd.int .u8) _ 5 ?hg (N := 21) ?hd (xs := ([a0, (Int.tmod (IntKind.u64.wrap (Int.tdiv (IntKind.u64.wrap ((l1.length : Int))) 256)) 256) % 256, (Int.tmod (IntKind.u64.wrap ((l1.length : Int))) 256) % 256] : List Int)) (inner := [.int .u8 a0, .int .u8 ((Int.tmod (IntKind.u64.wrap (Int.tdiv (IntKind.u64.wrap ((l1.length : Int))) 256)) 256) % 256), .int .u8 ((Int.tmod (IntKind.u64.wrap ((l1.length : Int))) 256) % 256)]) (ok := fun _ => True) (okp := fun _ => True) ?hr ?hp (fun _ hk => hk) trivial (Below.refl _ _) (Nat.le_refl _) (by simp) ?_; (case hd => rfl); (case hg => rfl); (case hr => first | (go_simp; done) | (go_simp; rfl)); (case hp => exact (Reps.one (show Kd.M (Kd.int .u8) _ _ _ a0 [.int .u8 a0] from rfl) (Reps.one (show Kd.M (Kd.int .u8) _ _ _ ((Int.tmod (IntKind.u64.wrap (Int.tdiv (IntKind.u64.wrap ((l1.length : Int))) 256)) 256) % 256) [.int .u8 ((Int.tmod (IntKind.u64.wrap (Int.tdiv (IntKind.u64.wrap ((l1.length : Int))) 256)) 256) % 256)] from rfl) (Reps.one (show Kd.M (Kd.int .u8) _ _ _ ((Int.tmod (IntKind.u64.wrap ((l1.length : Int))) 256) % 256) [.int .u8 ((Int.tmod (IntKind.u64.wrap ((l1.length : Int))) 256) % 256)] from rfl) (Reps.none _ _))))); intro v13002 w4 ho5 hb hg_ hnew_; clear hg_ hnew_; (first | rw [← Ny13001.out] at ho5 | (simp only [Int.reduceToNat] at ho5; rw [← Ny13001.out] at ho5)); have n0_ := Aside0.mk (Kd.R_lower ho5 (below_size (by repeat (first | (with_reducible first | exact HB.out | apply below_alloc | apply pw_below_drewN | apply below_drew1) | exact HB.out)))); have n1_ := Aside0.mk (below_step (by repeat (first | (with_reducible first | exact HB.out | apply below_alloc | apply pw_below_drewN | apply below_drew1) | exact HB.out)) hb); clear HB; have HO13003 := n0_; have HB := n1_; clear n0_ n1_; clear hb ho5) | ((with_reducible refine gate_builtin (b := .append) (xs := #[.tmp 22, .tmp 23]) rfl ?_); at_builtin; refine Kd.R_append_rows (Kd.int .u8) (w0 := w) w.heap.size rfl (.tmp 22) (.tmp 23) 22 5 (.int .u8 0) 1 rfl Try.underlying22 info5 rfl (by decide) (by omega) v13002 y13001 l1 _ _ _ (fun _ => True) (fun _ => False) rfl rfl ?aO ?aR (fun _ _ h => h) (fun _ h => h.elim) ?aF ?aB ?aS ?aL ?_; (case aR => repeat (first | exact (Kd.C_below HR1.out HB.out) | (with_reducible refine Kd.C_alloc ?_ _) | (with_reducible refine Kd.C_drewN ?_ _) | (with_reducible refine Kd.C_drew ?_))); (case aB => exact (by repeat (first | (with_reducible first | exact HB.out | apply below_alloc | apply pw_below_drewN | apply below_drew1) | exact HB.out))); (case aF => exact (fun _ _ => trivial)); (case aO => exact (by (with_reducible repeat (first | apply Kd.R_alloc | apply Kd.R_drewN | apply Kd.R_drew)); exact HO13003.out)); (case aS => exact (below_size (by repeat (first | (with_reducible first | exact HB.out | apply below_alloc | apply pw_below_drewN | apply below_drew1) | exact HB.out)))); (case aL => have := LMc3.out; omega); intro v13005 w6 ho hb hg hat; rw [← Ny13004.out] at ho; have n0_ := Aside0.mk (hb); have n1_ := Aside0.mk (ho); clear HB; clear HO13003; have HB := n0_; have HO13006 := n1_; clear n0_ n1_; clear ho hb hg hat))
    go_loopg [7, 8] k (fun kq v7 v8 w' => ∃ (x7_1 : Int) (x8_1 : Int), v7 = .int .u64 x7_1 ∧ v8 = .int .i64 x8_1 ∧ Aside0 (tinderref18_Sum.l0 kq y13004 x7_1 x8_1 = some r) ∧ Aside0 (kq ≤ k) ∧ Aside0 (Kd.R (Kd.int .u8) 5 w' w.heap.size (fun _ => True) v13005 y13004) ∧ Aside0 (Below w.heap.size w w'))
    case atStart => exact ⟨(2166136261), (0), (by first | rfl | (simp; done) | (simp [*]; done)), (by first | rfl | (simp; done) | (simp [*]; done)), H', ⟨Nat.le_refl _⟩, ⟨by (with_reducible repeat (first | apply Kd.R_alloc | apply Kd.R_drewN | apply Kd.R_drew)); exact HO13006.out⟩, ⟨by repeat (first | (with_reducible first | exact HB.out | apply below_alloc | apply pw_below_drewN | apply below_drew1) | exact HB.out)⟩⟩
    case round =>
      clear H'
      try clear c1
      try clear p2
      try clear c3
      obtain ⟨x7_1, x8_1, rfl, rfl, HA, HK1, HO_6, HB⟩ := hrel
      cases gk with
      | zero => exact absurd HA.out (by simp [tinderref18_Sum.l0])
      | succ k1 =>
        have H := HA.out
        clear HA
        simp only [tinderref18_Sum.l0] at H
        by_cases c7 : x8_1 < (y13004.length : Int)
        · rw [if_pos c7] at H
          have c7b0 : decide (x8_1 < (y13004.length : Int)) = true := decide_eq_true c7
          clear c7
          by_cases c8 : 0 ≤ x8_1
          · rw [if_pos c8] at H
            have c8b0 : decide (0 ≤ x8_1) = true := decide_eq_true c8
            clear c8
            have H' := Aside0.mk H
            clear H
            obtain ⟨Ao9, co9, eo9⟩ := Kd.R_slice HO_6.out
            subst eo9
            have p13007 : 0 ≤ (x8_1 : Int) := of_decide_eq_true (by first | (with_reducible assumption) | assumption)
            have q13007 : x8_1 < (y13004.length : Int) := of_decide_eq_true (by first | (with_reducible assumption) | assumption)
            obtain ⟨ad13007, e13007, hx13007_0⟩ := Kd.at_int (Kd.R_reads' HO_6.out).2.2 x8_1 p13007 q13007
            cases e13007
            replace p13007 := eq_true p13007
            replace q13007 := eq_true q13007
            go_wp2
            go_roundg k1
            case measure => have := HK1.out; omega
            case rel => exact ⟨(Int.tmod (IntKind.u64.wrap ((IntKind.u64.wrap ((IntKind.u64.wrap (x7_1 - (Int.tmod x7_1 256))) + (Go.bits .xor .u64 (Int.tmod x7_1 256) (IntKind.u64.wrap (rd y13004 x8_1))))) * 16777619)) 4294967296), (wrap64 (x8_1 + 1)), (by first | rfl | (simp; done) | (simp [*]; done)), (by first | rfl | (simp; done) | (simp [*]; done)), H', ⟨by have := HK1.out; omega⟩, ⟨by (with_reducible repeat (first | apply Kd.R_alloc | apply Kd.R_drewN | apply Kd.R_drew)); exact HO_6.out⟩, ⟨by repeat (first | (with_reducible first | exact HB.out | apply below_alloc | apply pw_below_drewN | apply below_drew1) | exact HB.out)⟩⟩
          · rw [if_neg c8] at H
            exact absurd H (by simp)
        · rw [if_neg c7] at H
          have c7b0 : decide (x8_1 < (y13004.length : Int)) = false := decide_eq_false c7
          clear c7
          obtain rfl := Option.some.inj H
          obtain ⟨Ao10, co10, eo10⟩ := Kd.R_slice HO_6.out
          subst eo10
          go_wp2
          go_ret
          exact ⟨by first | rfl | (simp [errW_none, errW_some] <;> rfl) | (simp [*, errW_none, errW_some] <;> rfl), by repeat (first | (with_reducible first | exact HB.out | apply below_alloc | apply pw_below_drewN | apply below_drew1) | exact HB.out)⟩
  · rw [if_neg c3] at H
    exact absurd H (by simp)

end Go.Proofs.Ytlpagilpbdiniaa.Q
