/- Contracts of Go functions and plain facts, of several texts, one behind the other; no condition. -/
import Derived.Test.YtfpkakedlapmkaaMDictStarts2
import Derived.Test.YtfpkakedlapmkaaMDictStarts4
import Derived.Test.YtfpkakedlapmkaaMDictStarts3
import Derived.ChangeArms
import Derived.OpenShut
import Derived.SizedLaws
section
namespace Go.Proofs.Ytfpkakedlapmkaa.Q
open Go.RowKit Go.Proofs.YtfpkakedlapmkaaW.PrintWords Go.Proofs.YtfpkakedlapmkaaW.PrintLast Go.Proofs.YtfpkakedlapmkaaW.PrintMore
set_option linter.unusedVariables false
set_option linter.unusedSimpArgs false

attribute [local go_sem] max2_int min2_int max_two min_two max_three min_three max_four min_four
/-! ### tinderref09_New: function 13 -/
def tinderref09_New.l0 : Nat → List (S37) → Int → List (S51) → Int → List (S91) → Int → Int → ByteArray → Option (List Int × List Int × (List (S51)) × List Int × Int × (List (S91)) × Int × (List (S82)) × Int × ByteArray)
  | 0, _, _, _, _, _, _, _, _ => none
  | k + 1, x2, x3, x14006002, x14006004, x14006005, x14006006, x14006008, x14006009 => if x3 < (x2.length : Int) then (if 0 ≤ x3 then (if x14006002.length < 2199023255552 then (tinderref09_New.l0 k x2 (wrap64 (x3 + 1)) (x14006002 ++ [(⟨(rd_T37 x2 x3).f0, (-1), 1, ((rd_T37 x2 x3).f1) % 4294967296, ([] : List (S69))⟩ : S51)]) x14006004 x14006005 x14006006 x14006008 x14006009) else (none)) else (none)) else (some (([] : List Int), ([] : List Int), x14006002, ([] : List Int), x14006004, x14006005, x14006006, ([] : List (S82)), x14006008, x14006009))
def tinderref09_New.f (k : Nat)  : Option (List Int × List Int × (List (S51)) × List Int × Int × (List (S91)) × Int × (List (S82)) × Int × ByteArray) := (tinderref08_New.f).bind fun t14002 => ((tinderref09_Prims.f).bind fun t14006 => (tinderref09_New.l0 k t14006 0 ([] : List (S51)) 16 t14002 (-1) (-1) (⟨#[]⟩ : ByteArray)))
def tinderref09_New.T6 : Bool × List (List Nat × List Nat) := (true, [([], []), ([0], [0]), ([], []), ([], []), ([2, 3], [2, 3]), ([4], [4]), ([5], [5]), ([], []), ([], []), ([7, 8], [7, 8]), ([9], [9]), ([10], [10]), ([11], [11]), ([6, 12], [6, 12]), ([13], [13]), ([1, 14], [1, 14]), ([0, 1, 2, 3, 4, 5, 6, 7, 8, 9, 10, 11, 12, 13, 14, 15], []), ([16, 15, 15, 0, 1, 2, 3, 4, 5, 6, 7, 8, 9, 10, 11, 12, 13, 14, 15], [15, 16])])
def tinderref09_New.B6 : List Nat := [0, 1, 0, 0, 12, 28, 60, 0, 0, 384, 896, 1920, 3968, 8188, 16380, 32767, 65535, 131071]
theorem tinderref09_New.tab6 : rtab .any (opsOf Try.f13 6) = tinderref09_New.T6 := by kernel_rfl
theorem tinderref09_New.bits6 : waitsOk tinderref09_New.T6.2 tinderref09_New.B6 = true := by kernel_rfl
set_option maxHeartbeats 8000000 in
set_option maxRecDepth 100000 in
theorem tinderref09_New.calls (k : Nat)  (r1 : List Int) (r2 : List Int) (r3 : List (S51)) (r4 : List Int) (r5 : Int) (r6 : List (S91)) (r7 : Int) (r8 : List (S82)) (r9 : Int) (r10 : ByteArray) (w : World) (h : tinderref09_New.f k  = some (r1, r2, r3, r4, r5, r6, r7, r8, r9, r10)) :
    Calls Try.prog 13 #[] w fun e w' => ∃ v0_ v1_ v2_ v3_ v5_ v7_ : Value, e = .returned (.agg #[v0_, v1_, v2_, v3_, .int .u32 r5, v5_, .int .i64 r7, v7_, .int .i64 r9, .string r10]) ∧ Kd.R (Kd.int .u32) 28 w' w.heap.size (fun _ => True) v0_ r1 ∧ Kd.R (Kd.int .u8) 5 w' w.heap.size (fun _ => True) v1_ r2 ∧ Kd.S k51 51 w' w.heap.size (fun _ => True) v2_ r3 ∧ Kd.R (Kd.int .i64) 3 w' w.heap.size (fun _ => True) v3_ r4 ∧ Kd.R k91 91 w' w.heap.size (fun k_ => some k_ ≠ (v0_ : Value).ownBlock ∧ some k_ ≠ (v1_ : Value).ownBlock) v5_ r6 ∧ Kd.S k82 82 w' w.heap.size (fun k_ => some k_ ≠ (v0_ : Value).ownBlock) v7_ r8 ∧ Below w.heap.size w w' := by
  have hu32 := Try.underlying32
  have hu51 := Try.underlying51
  have HB := Aside0.mk (Below.refl w.heap.size w)
  have H : ((tinderref08_New.f).bind fun t14002 => ((tinderref09_Prims.f).bind fun t14006 => (tinderref09_New.l0 k t14006 0 ([] : List (S51)) 16 t14002 (-1) (-1) (⟨#[]⟩ : ByteArray)))) = some (r1, r2, r3, r4, r5, r6, r7, r8, r9, r10) := h
  clear h
  replace H := Option.bind_eq_some_iff.mp H
  obtain ⟨t14002, A10, H⟩ := H
  replace H : ((tinderref09_Prims.f).bind fun t14006 => (tinderref09_New.l0 k t14006 0 ([] : List (S51)) 16 t14002 (-1) (-1) (⟨#[]⟩ : ByteArray))) = some (r1, r2, r3, r4, r5, r6, r7, r8, r9, r10) := H
  have A1 := Aside0.mk A10
  clear A10
  replace H := Option.bind_eq_some_iff.mp H
  obtain ⟨t14006, A20, H⟩ := H
  replace H : (tinderref09_New.l0 k t14006 0 ([] : List (S51)) 16 t14002 (-1) (-1) (⟨#[]⟩ : ByteArray)) = some (r1, r2, r3, r4, r5, r6, r7, r8, r9, r10) := H
  have A2 := Aside0.mk A20
  clear A20
  have H' := Aside0.mk H
  clear H
  go_enter Try.func13, Try.ntmps13
  go_wp2_with (first | ((with_reducible refine gate_dst (N := 0) rfl ?_); refine box_event ?hg (N := 0) ?hd (cs := #[.slice none 0 0, .slice none 0 0, .slice none 0 0, .slice none 0 0, .int .u32 0, .slice none 0 0, .int .i64 0, .slice none 0 0, .int .i64 0, .string (⟨#[]⟩ : ByteArray)]) (t := 32) ?hr ?_; (case hd => rfl); (case hg => rfl); (case hr => first | (go_simp; done) | (go_simp; rfl)); intro gb14001 hg w3 hbox hb; have n0_ := Aside0.mk (below_step (by repeat (first | (with_reducible first | exact HB.out | apply below_alloc | apply pw_below_drewN | apply below_drew1) | exact HB.out)) hb); have n1_ := Aside0.mk (hbox); have n2_ := Aside0.mk ((by rw [hg]; exact (below_size (by repeat (first | (with_reducible first | exact HB.out | apply below_alloc | apply pw_below_drewN | apply below_drew1) | exact HB.out))) : w.heap.size ≤ gb14001)); have n3_ := Aside0.mk ((by rw [hg]; exact (below_size (by repeat (first | (with_reducible first | exact HB.out | apply below_alloc | apply pw_below_drewN | apply below_drew1) | exact HB.out))) : w.heap.size ≤ gb14001)); clear HB; have HB := n0_; have BK14001 := n1_; have GW14001 := n2_; have GE14001 := n3_; clear n0_ n1_ n2_ n3_; clear hb hbox hg) | ((with_reducible refine gate_callee (f := 38) rfl ?_); refine goesL_ (some 4) rfl rfl Try.func38 (by kernel_rfl) rfl #[] rfl (by (try simp only [List.map_toArray, List.map_cons, List.map_nil]); first | done | rfl | (simp only [List.length_drop, List.length_take]; rfl)) ?_; (with_reducible refine (tinderref08_New.calls  t14002 _ A1.out).mono ?_); rintro e w4 ⟨v14003, rfl, ho0, hb⟩; refine ⟨_, rfl, ?_⟩; have n0_ := Aside0.mk (Kd.R_lower ho0 (below_size (by repeat (first | (with_reducible first | exact HB.out | apply below_alloc | apply pw_below_drewN | apply below_drew1 | refine below_set ?_ GE14001.out) | exact HB.out)))); have n1_ := Aside0.mk (blk_below (g := gb14001) (o := .cells #[.slice none 0 0, .slice none 0 0, .slice none 0 0, .slice none 0 0, .int .u32 0, .slice none 0 0, .int .i64 0, .slice none 0 0, .int .i64 0, .string (⟨#[]⟩ : ByteArray)] 32 (0, 0)) (by (with_reducible repeat (first | refine blk_drewN ?_ _ | refine blk_drew ?_ | refine blk_alloc ?_ _)); exact BK14001.out) hb); have n2_ := Aside0.mk (below_step (by repeat (first | (with_reducible first | exact HB.out | apply below_alloc | apply pw_below_drewN | apply below_drew1 | refine below_set ?_ GE14001.out) | exact HB.out)) hb); clear BK14001; clear HB; have HO14004 := n0_; have BK14001 := n1_; have HB := n2_; clear n0_ n1_ n2_; (try clear hb); (try clear hb2); (try clear hk); (try clear hi); (try clear ho0); obtain ⟨Ao5, co5, eo5⟩ := Kd.R_slice HO14004.out; subst eo5) | ((with_reducible refine gate_dst (N := 1) rfl ?_); refine box_event ?hg (N := 1) ?hd (cs := #[.slice none 0 0, .slice none 0 0, .slice none 0 0, .slice none 0 0, .int .u32 0, .slice none 0 0, .int .i64 0, .slice none 0 0, .int .i64 0, .string (⟨#[]⟩ : ByteArray)]) (t := 32) ?hr ?_; (case hd => rfl); (case hg => rfl); (case hr => first | (go_simp; done) | (go_simp; rfl)); intro gb14005 hg w6 hbox hb; have n0_ := Aside0.mk (Kd.R_below (by (with_reducible repeat (first | apply Kd.R_alloc | apply Kd.R_drewN | apply Kd.R_drew)); exact HO14004.out) hb); have n1_ := Aside0.mk (blk_below (g := gb14001) (o := .cells #[.slice none 0 0, .slice none 0 0, .slice none 0 0, .slice none 0 0, .int .u32 0, .slice none 0 0, .int .i64 0, .slice none 0 0, .int .i64 0, .string (⟨#[]⟩ : ByteArray)] 32 (0, 0)) (by (with_reducible repeat (first | refine blk_drewN ?_ _ | refine blk_drew ?_ | refine blk_alloc ?_ _)); exact BK14001.out) hb); have n2_ := Aside0.mk (below_step (by repeat (first | (with_reducible first | exact HB.out | apply below_alloc | apply pw_below_drewN | apply below_drew1 | refine below_set ?_ GE14001.out) | exact HB.out)) hb); have n3_ := Aside0.mk (hbox); have n4_ := Aside0.mk ((by rw [hg]; exact (below_size (by repeat (first | (with_reducible first | exact HB.out | apply below_alloc | apply pw_below_drewN | apply below_drew1 | refine below_set ?_ GE14001.out) | exact HB.out))) : w.heap.size ≤ gb14005)); have n5_ := Aside0.mk ((by rw [hg]; exact (below_size (by repeat (first | (with_reducible first | exact HB.out | apply below_alloc | apply pw_below_drewN | apply below_drew1 | refine below_set ?_ GE14001.out) | exact HB.out))) : w.heap.size ≤ gb14005)); have n6_ := Aside0.mk ((by rw [hg]; exact Nat.ne_of_lt (blk_lt (g := gb14001) (o := .cells #[.slice none 0 0, .slice none 0 0, .slice none 0 0, .slice none 0 0, .int .u32 0, .slice none 0 0, .int .i64 0, .slice none 0 0, .int .i64 0, .string (⟨#[]⟩ : ByteArray)] 32 (0, 0)) (by (with_reducible repeat (first | refine blk_drewN ?_ _ | refine blk_drew ?_ | refine blk_alloc ?_ _)); exact BK14001.out)) : gb14001 ≠ gb14005)); have n7_ := Aside0.mk ((by rw [hg]; exact Nat.ne_of_gt (blk_lt (g := gb14001) (o := .cells #[.slice none 0 0, .slice none 0 0, .slice none 0 0, .slice none 0 0, .int .u32 0, .slice none 0 0, .int .i64 0, .slice none 0 0, .int .i64 0, .string (⟨#[]⟩ : ByteArray)] 32 (0, 0)) (by (with_reducible repeat (first | refine blk_drewN ?_ _ | refine blk_drew ?_ | refine blk_alloc ?_ _)); exact BK14001.out)) : gb14005 ≠ gb14001)); clear HO14004; clear BK14001; clear HB; have HO14004 := n0_; have BK14001 := n1_; have HB := n2_; have BK14005 := n3_; have GW14005 := n4_; have GE14005 := n5_; have NB14001_14005 := n6_; have NB14005_14001 := n7_; clear n0_ n1_ n2_ n3_ n4_ n5_ n6_ n7_; clear hb hbox hg; have hnb7 := NB14005_14001.out; have hnc7 := NB14001_14005.out; have hcz8_0 : w6.cell? ⟨gb14005, 0, none⟩ = some (.slice none 0 0) := (blk_cell BK14005.out 0).trans rfl; have hcz8_1 : w6.cell? ⟨gb14005, 1, none⟩ = some (.slice none 0 0) := (blk_cell BK14005.out 1).trans rfl; have hcz8_2 : w6.cell? ⟨gb14005, 2, none⟩ = some (.slice none 0 0) := (blk_cell BK14005.out 2).trans rfl; have hcz8_3 : w6.cell? ⟨gb14005, 3, none⟩ = some (.slice none 0 0) := (blk_cell BK14005.out 3).trans rfl; have hcz8_4 : w6.cell? ⟨gb14005, 4, none⟩ = some (.int .u32 0) := (blk_cell BK14005.out 4).trans rfl; have hcz8_5 : w6.cell? ⟨gb14005, 5, none⟩ = some (.slice none 0 0) := (blk_cell BK14005.out 5).trans rfl; have hcz8_6 : w6.cell? ⟨gb14005, 6, none⟩ = some (.int .i64 0) := (blk_cell BK14005.out 6).trans rfl; have hcz8_7 : w6.cell? ⟨gb14005, 7, none⟩ = some (.slice none 0 0) := (blk_cell BK14005.out 7).trans rfl; have hcz8_8 : w6.cell? ⟨gb14005, 8, none⟩ = some (.int .i64 0) := (blk_cell BK14005.out 8).trans rfl; have hcz8_9 : w6.cell? ⟨gb14005, 9, none⟩ = some (.string (⟨#[]⟩ : ByteArray)) := (blk_cell BK14005.out 9).trans rfl; have hfz8_0 := blk_frozen BK14005.out 0; have hfz8_1 := blk_frozen BK14005.out 1; have hfz8_2 := blk_frozen BK14005.out 2; have hfz8_3 := blk_frozen BK14005.out 3; have hfz8_4 := blk_frozen BK14005.out 4; have hfz8_5 := blk_frozen BK14005.out 5; have hfz8_6 := blk_frozen BK14005.out 6; have hfz8_7 := blk_frozen BK14005.out 7; have hfz8_8 := blk_frozen BK14005.out 8; have hfz8_9 := blk_frozen BK14005.out 9) | ((with_reducible refine gate_callee (f := 15) rfl ?_); refine goesL_ (some 6) rfl rfl Try.func15 (by kernel_rfl) rfl #[] rfl (by (try simp only [List.map_toArray, List.map_cons, List.map_nil]); first | done | rfl | (simp only [List.length_drop, List.length_take]; rfl)) ?_; (with_reducible refine (tinderref09_Prims.calls  t14006 _ A2.out).mono ?_); rintro e w9 ⟨v14007, rfl, ho0, hb⟩; refine ⟨_, rfl, ?_⟩; have n0_ := Aside0.mk (Kd.R_below (by (with_reducible repeat (first | apply Kd.R_alloc | apply Kd.R_drewN | apply Kd.R_drew)); exact (Kd.R_mono (Kd.R_far (p := ⟨gb14005, 9, none⟩) (Kd.R_far (p := ⟨gb14005, 8, none⟩) (Kd.R_far (p := ⟨gb14005, 7, none⟩) (Kd.R_far (p := ⟨gb14005, 6, none⟩) (Kd.R_far (p := ⟨gb14005, 5, none⟩) (Kd.R_far (p := ⟨gb14005, 4, none⟩) (Kd.R_far (p := ⟨gb14005, 3, none⟩) (Kd.R_far (p := ⟨gb14005, 2, none⟩) (Kd.R_far (p := ⟨gb14005, 1, none⟩) (Kd.R_far (p := ⟨gb14005, 0, none⟩) (Kd.R_types HO14004.out BK14005.out (by decide)) (fun _ hk => hk.2) (.slice none 0 0)) (fun _ hk => hk.2) (.slice none 0 0)) (fun _ hk => hk.2) (.slice none 0 0)) (fun _ hk => hk.2) (.slice none 0 0)) (fun _ hk => hk.2) (.int .u32 16)) (fun _ hk => hk.2) (.slice Ao5 t14002.length co5)) (fun _ hk => hk.2) (.int .i64 (-1))) (fun _ hk => hk.2) (.slice none 0 0)) (fun _ hk => hk.2) (.int .i64 (-1))) (fun _ hk => hk.2) (.string (⟨#[]⟩ : ByteArray))) (fun _ h_ => h_.1))) hb); have n1_ := Aside0.mk (Kd.R_lower ho0 (below_size (by repeat (first | (with_reducible first | exact HB.out | apply below_alloc | apply pw_below_drewN | apply below_drew1 | refine below_set ?_ GE14001.out | refine below_set ?_ GE14005.out) | exact HB.out)))); have n2_ := Aside0.mk (blk_below (g := gb14001) (o := .cells #[.slice none 0 0, .slice none 0 0, .slice none 0 0, .slice none 0 0, .int .u32 0, .slice none 0 0, .int .i64 0, .slice none 0 0, .int .i64 0, .string (⟨#[]⟩ : ByteArray)] 32 (0, 0)) (by (with_reducible repeat (first | refine blk_drewN ?_ _ | refine blk_drew ?_ | refine blk_alloc ?_ _)); refine blk_far ?_ NB14001_14005.out _; (with_reducible repeat (first | refine blk_drewN ?_ _ | refine blk_drew ?_ | refine blk_alloc ?_ _)); refine blk_far ?_ NB14001_14005.out _; (with_reducible repeat (first | refine blk_drewN ?_ _ | refine blk_drew ?_ | refine blk_alloc ?_ _)); refine blk_far ?_ NB14001_14005.out _; (with_reducible repeat (first | refine blk_drewN ?_ _ | refine blk_drew ?_ | refine blk_alloc ?_ _)); refine blk_far ?_ NB14001_14005.out _; (with_reducible repeat (first | refine blk_drewN ?_ _ | refine blk_drew ?_ | refine blk_alloc ?_ _)); refine blk_far ?_ NB14001_14005.out _; (with_reducible repeat (first | refine blk_drewN ?_ _ | refine blk_drew ?_ | refine blk_alloc ?_ _)); refine blk_far ?_ NB14001_14005.out _; (with_reducible repeat (first | refine blk_drewN ?_ _ | refine blk_drew ?_ | refine blk_alloc ?_ _)); refine blk_far ?_ NB14001_14005.out _; (with_reducible repeat (first | refine blk_drewN ?_ _ | refine blk_drew ?_ | refine blk_alloc ?_ _)); refine blk_far ?_ NB14001_14005.out _; (with_reducible repeat (first | refine blk_drewN ?_ _ | refine blk_drew ?_ | refine blk_alloc ?_ _)); refine blk_far ?_ NB14001_14005.out _; (with_reducible repeat (first | refine blk_drewN ?_ _ | refine blk_drew ?_ | refine blk_alloc ?_ _)); refine blk_far ?_ NB14001_14005.out _; (with_reducible repeat (first | refine blk_drewN ?_ _ | refine blk_drew ?_ | refine blk_alloc ?_ _)); exact BK14001.out) hb); have n3_ := Aside0.mk (blk_below (g := gb14005) (o := .cells #[.slice none 0 0, .slice none 0 0, .slice none 0 0, .slice none 0 0, .int .u32 16, .slice Ao5 t14002.length co5, .int .i64 (-1), .slice none 0 0, .int .i64 (-1), .string (⟨#[]⟩ : ByteArray)] 32 (0, 0)) (by (with_reducible repeat (first | refine blk_drewN ?_ _ | refine blk_drew ?_ | refine blk_alloc ?_ _)); refine blk_put (cs := #[.slice none 0 0, .slice none 0 0, .slice none 0 0, .slice none 0 0, .int .u32 16, .slice Ao5 t14002.length co5, .int .i64 (-1), .slice none 0 0, .int .i64 (-1), .string (⟨#[]⟩ : ByteArray)]) ?_ 9 _ rfl; (with_reducible repeat (first | refine blk_drewN ?_ _ | refine blk_drew ?_ | refine blk_alloc ?_ _)); refine blk_put (cs := #[.slice none 0 0, .slice none 0 0, .slice none 0 0, .slice none 0 0, .int .u32 16, .slice Ao5 t14002.length co5, .int .i64 (-1), .slice none 0 0, .int .i64 0, .string (⟨#[]⟩ : ByteArray)]) ?_ 8 _ rfl; (with_reducible repeat (first | refine blk_drewN ?_ _ | refine blk_drew ?_ | refine blk_alloc ?_ _)); refine blk_put (cs := #[.slice none 0 0, .slice none 0 0, .slice none 0 0, .slice none 0 0, .int .u32 16, .slice Ao5 t14002.length co5, .int .i64 (-1), .slice none 0 0, .int .i64 0, .string (⟨#[]⟩ : ByteArray)]) ?_ 7 _ rfl; (with_reducible repeat (first | refine blk_drewN ?_ _ | refine blk_drew ?_ | refine blk_alloc ?_ _)); refine blk_put (cs := #[.slice none 0 0, .slice none 0 0, .slice none 0 0, .slice none 0 0, .int .u32 16, .slice Ao5 t14002.length co5, .int .i64 0, .slice none 0 0, .int .i64 0, .string (⟨#[]⟩ : ByteArray)]) ?_ 6 _ rfl; (with_reducible repeat (first | refine blk_drewN ?_ _ | refine blk_drew ?_ | refine blk_alloc ?_ _)); refine blk_put (cs := #[.slice none 0 0, .slice none 0 0, .slice none 0 0, .slice none 0 0, .int .u32 16, .slice none 0 0, .int .i64 0, .slice none 0 0, .int .i64 0, .string (⟨#[]⟩ : ByteArray)]) ?_ 5 _ rfl; (with_reducible repeat (first | refine blk_drewN ?_ _ | refine blk_drew ?_ | refine blk_alloc ?_ _)); refine blk_put (cs := #[.slice none 0 0, .slice none 0 0, .slice none 0 0, .slice none 0 0, .int .u32 0, .slice none 0 0, .int .i64 0, .slice none 0 0, .int .i64 0, .string (⟨#[]⟩ : ByteArray)]) ?_ 4 _ rfl; (with_reducible repeat (first | refine blk_drewN ?_ _ | refine blk_drew ?_ | refine blk_alloc ?_ _)); refine blk_put (cs := #[.slice none 0 0, .slice none 0 0, .slice none 0 0, .slice none 0 0, .int .u32 0, .slice none 0 0, .int .i64 0, .slice none 0 0, .int .i64 0, .string (⟨#[]⟩ : ByteArray)]) ?_ 3 _ rfl; (with_reducible repeat (first | refine blk_drewN ?_ _ | refine blk_drew ?_ | refine blk_alloc ?_ _)); refine blk_put (cs := #[.slice none 0 0, .slice none 0 0, .slice none 0 0, .slice none 0 0, .int .u32 0, .slice none 0 0, .int .i64 0, .slice none 0 0, .int .i64 0, .string (⟨#[]⟩ : ByteArray)]) ?_ 2 _ rfl; (with_reducible repeat (first | refine blk_drewN ?_ _ | refine blk_drew ?_ | refine blk_alloc ?_ _)); refine blk_put (cs := #[.slice none 0 0, .slice none 0 0, .slice none 0 0, .slice none 0 0, .int .u32 0, .slice none 0 0, .int .i64 0, .slice none 0 0, .int .i64 0, .string (⟨#[]⟩ : ByteArray)]) ?_ 1 _ rfl; (with_reducible repeat (first | refine blk_drewN ?_ _ | refine blk_drew ?_ | refine blk_alloc ?_ _)); refine blk_put (cs := #[.slice none 0 0, .slice none 0 0, .slice none 0 0, .slice none 0 0, .int .u32 0, .slice none 0 0, .int .i64 0, .slice none 0 0, .int .i64 0, .string (⟨#[]⟩ : ByteArray)]) ?_ 0 _ rfl; (with_reducible repeat (first | refine blk_drewN ?_ _ | refine blk_drew ?_ | refine blk_alloc ?_ _)); exact BK14005.out) hb); have n4_ := Aside0.mk (below_step (by repeat (first | (with_reducible first | exact HB.out | apply below_alloc | apply pw_below_drewN | apply below_drew1 | refine below_set ?_ GE14001.out | refine below_set ?_ GE14005.out) | exact HB.out)) hb); clear HO14004; clear BK14001; clear BK14005; clear HB; have HO14004 := n0_; have HO14008 := n1_; have BK14001 := n2_; have BK14005 := n3_; have HB := n4_; clear n0_ n1_ n2_ n3_ n4_; (try clear hb); (try clear hb2); (try clear hk); (try clear hi); (try clear ho0)))
  go_loopg [3] k (fun kq v3 w' => ∃ (x3_1 : Int) (x14006002_1 : List (S51)) (u14006002 : Value), v3 = .int .i64 x3_1 ∧ Aside0 (tinderref09_New.l0 kq t14006 x3_1 x14006002_1 16 t14002 (-1) (-1) (⟨#[]⟩ : ByteArray) = some (r1, r2, r3, r4, r5, r6, r7, r8, r9, r10)) ∧ Aside0 (kq ≤ k) ∧ Aside0 (Kd.R k37 37 w' w.heap.size (fun _ => True) v14007 t14006) ∧ Aside0 (Kd.S k51 51 w' w.heap.size (fun _ => True) u14006002 x14006002_1) ∧ Aside0 (Kd.R k91 91 w' w.heap.size (fun _ => True) (.slice Ao5 t14002.length co5) t14002) ∧ Aside0 (w'.heap[gb14001]? = some (.cells #[(.slice none 0 0), (.slice none 0 0), (.slice none 0 0), (.slice none 0 0), .int .u32 0, (.slice none 0 0), .int .i64 0, (.slice none 0 0), .int .i64 0, .string (⟨#[]⟩ : ByteArray)] 32 (0, 0))) ∧ Aside0 (w'.heap[gb14005]? = some (.cells #[(.slice none 0 0), (.slice none 0 0), u14006002, (.slice none 0 0), .int .u32 16, (.slice Ao5 t14002.length co5), .int .i64 (-1), (.slice none 0 0), .int .i64 (-1), .string (⟨#[]⟩ : ByteArray)] 32 (0, 0))) ∧ Aside0 (Below w.heap.size w w'))
  case atStart => exact ⟨(0), (([] : List (S51))), (.slice none 0 0), (by first | rfl | (simp; done) | (simp [*]; done)), H', ⟨Nat.le_refl _⟩, ⟨by (with_reducible repeat (first | apply Kd.R_alloc | apply Kd.R_drewN | apply Kd.R_drew)); exact HO14008.out⟩, ⟨by first | exact Kd.S_nil _ _ _ _ _ | exact Kd.N_nil _ _ _ _ _ | exact Kd.V_nil _ _ _ _ _ | exact Kd.Q_nil _ _ _ _ _ | exact Kd.R_nil _ _ _ _ _⟩, ⟨by (with_reducible repeat (first | apply Kd.R_alloc | apply Kd.R_drewN | apply Kd.R_drew)); exact HO14004.out⟩, ⟨by (with_reducible repeat (first | refine blk_drewN ?_ _ | refine blk_drew ?_ | refine blk_alloc ?_ _)); exact BK14001.out⟩, ⟨by (with_reducible repeat (first | refine blk_drewN ?_ _ | refine blk_drew ?_ | refine blk_alloc ?_ _)); exact BK14005.out⟩, ⟨by repeat (first | (with_reducible first | exact HB.out | apply below_alloc | apply pw_below_drewN | apply below_drew1 | refine below_set ?_ GE14001.out | refine below_set ?_ GE14005.out) | exact HB.out)⟩⟩
  case round =>
    clear H'
    try clear c1
    try clear p2
    try clear c3
    try clear c7
    try clear hcz8_0
    try clear hcz8_1
    try clear hcz8_2
    try clear hcz8_3
    try clear hcz8_4
    try clear hcz8_5
    try clear hcz8_6
    try clear hcz8_7
    try clear hcz8_8
    try clear hcz8_9
    try clear hfz8_0
    try clear hfz8_1
    try clear hfz8_2
    try clear hfz8_3
    try clear hfz8_4
    try clear hfz8_5
    try clear hfz8_6
    try clear hfz8_7
    try clear hfz8_8
    try clear hfz8_9
    obtain ⟨x3_1, x14006002_1, u14006002, rfl, HA, HK1, HO_2, HO_14006002, HO_14006005, BK14001, BK14005, HB⟩ := hrel
    cases gk with
    | zero => exact absurd HA.out (by simp [tinderref09_New.l0])
    | succ k1 =>
      have H := HA.out
      clear HA
      simp only [tinderref09_New.l0] at H
      by_cases c10 : x3_1 < (t14006.length : Int)
      · rw [if_pos c10] at H
        have c10b0 : decide (x3_1 < (t14006.length : Int)) = true := decide_eq_true c10
        clear c10
        by_cases c11 : 0 ≤ x3_1
        · rw [if_pos c11] at H
          have c11b0 : decide (0 ≤ x3_1) = true := decide_eq_true c11
          clear c11
          by_cases c12 : x14006002_1.length < 2199023255552
          · rw [if_pos c12] at H
            have LMc12 := Aside0.mk c12
            clear c12
            obtain ⟨y14011, hy14011⟩ : ∃ y_ : List (S51), y_ = (x14006002_1 ++ [(⟨(rd_T37 t14006 x3_1).f0, (-1), 1, ((rd_T37 t14006 x3_1).f1) % 4294967296, ([] : List (S69))⟩ : S51)]) := ⟨_, rfl⟩
            replace H : (tinderref09_New.l0 k1 t14006 (wrap64 (x3_1 + 1)) y14011 16 t14002 (-1) (-1) (⟨#[]⟩ : ByteArray)) = some (r1, r2, r3, r4, r5, r6, r7, r8, r9, r10) := by first | (rw [hy14011]; with_reducible exact H) | (have H2_ := (Option.bind_some _ _).symm.trans H; rw [hy14011]; with_reducible exact H2_) | (have H2_ := (Option.bind_some _ _).symm.trans H; with_reducible exact H2_) | with_reducible exact H | (rw [hy14011]; exact H) | exact H
            have Ny14011 := Aside0.mk hy14011
            clear hy14011
            have H' := Aside0.mk H
            clear H
            obtain ⟨Ao13, co13, eo13⟩ := Kd.R_slice HO_2.out
            subst eo13
            try go_wp2
            have n0_ := Aside0.mk (Kd.R_drew HO_2.out)
            have n1_ := Aside0.mk (Kd.S_drew HO_14006002.out)
            have n2_ := Aside0.mk (Kd.R_drew HO_14006005.out)
            have n3_ := Aside0.mk (blk_drew BK14001.out)
            have n4_ := Aside0.mk (blk_drew BK14005.out)
            have n5_ := Aside0.mk (below_drew1 HB.out)
            clear HO_2
            clear HO_14006002
            clear HO_14006005
            clear BK14001
            clear BK14005
            clear HB
            have HO_2 := n0_
            have HO_14006002 := n1_
            have HO_14006005 := n2_
            have BK14001 := n3_
            have BK14005 := n4_
            have HB := n5_
            clear n0_ n1_ n2_ n3_ n4_ n5_
            have p14009 : 0 ≤ (x3_1 : Int) := of_decide_eq_true (by first | (with_reducible assumption) | assumption)
            have q14009 : x3_1 < (t14006.length : Int) := of_decide_eq_true (by first | (with_reducible assumption) | assumption)
            obtain ⟨ad14009, e14009, hx14009_0, hx14009_1⟩ := at_T37 (Kd.R_reads' HO_2.out).2.2 x3_1 p14009 q14009
            cases e14009
            replace p14009 := eq_true p14009
            replace q14009 := eq_true q14009
            have p14010 : 0 ≤ (x3_1 : Int) := of_decide_eq_true (by first | (with_reducible assumption) | assumption)
            have q14010 : x3_1 < (t14006.length : Int) := of_decide_eq_true (by first | (with_reducible assumption) | assumption)
            obtain ⟨ad14010, e14010, hx14010_0, hx14010_1⟩ := at_T37 (Kd.R_reads' HO_2.out).2.2 x3_1 p14010 q14010
            obtain rfl : ad14009 = ad14010 := (by injection e14010)
            replace p14010 := eq_true p14010
            replace q14010 := eq_true q14010
            refine start_ (n := 18) (S := fun w' => w'.cell? ⟨gb14005, 0, none⟩ = some (.slice none 0 0) ∧ w'.cell? ⟨gb14005, 1, none⟩ = some (.slice none 0 0) ∧ w'.cell? ⟨gb14005, 2, none⟩ = some (u14006002) ∧ w'.cell? ⟨gb14005, 3, none⟩ = some (.slice none 0 0) ∧ w'.cell? ⟨gb14005, 4, none⟩ = some (.int .u32 16) ∧ w'.cell? ⟨gb14005, 5, none⟩ = some (.slice Ao5 t14002.length co5) ∧ w'.cell? ⟨gb14005, 6, none⟩ = some (.int .i64 (-1)) ∧ w'.cell? ⟨gb14005, 7, none⟩ = some (.slice none 0 0) ∧ w'.cell? ⟨gb14005, 8, none⟩ = some (.int .i64 (-1)) ∧ w'.cell? ⟨gb14005, 9, none⟩ = some (.string (⟨#[]⟩ : ByteArray)) ∧ w'.cell? (ad14009.add ((x3_1).toNat * 2)) = some (.string ((rd_T37 t14006 x3_1).f0)) ∧ w'.cell? ⟨(ad14009.add ((x3_1).toNat * 2)).block, (ad14009.add ((x3_1).toNat * 2)).off + 1, none⟩ = some (.int .i64 ((rd_T37 t14006 x3_1).f1)) ∧ w'.cell? (ad14009.add ((x3_1).toNat * 2)) = some (.string ((rd_T37 t14006 x3_1).f0)) ∧ w'.cell? ⟨(ad14009.add ((x3_1).toNat * 2)).block, (ad14009.add ((x3_1).toNat * 2)).off + 1, none⟩ = some (.int .i64 ((rd_T37 t14006 x3_1).f1))) (ds := [15, 17]) #[false, false, false, false, false, false, false, false, false, false, false, false, false, false, false, false, false, false] (by kernel_rfl) rfl rfl ⟨(blk_cell BK14005.out 0).trans rfl, (blk_cell BK14005.out 1).trans rfl, (blk_cell BK14005.out 2).trans rfl, (blk_cell BK14005.out 3).trans rfl, (blk_cell BK14005.out 4).trans rfl, (blk_cell BK14005.out 5).trans rfl, (blk_cell BK14005.out 6).trans rfl, (blk_cell BK14005.out 7).trans rfl, (blk_cell BK14005.out 8).trans rfl, (blk_cell BK14005.out 9).trans rfl, hx14009_0, hx14009_1, hx14010_0, hx14010_1⟩ (fun hHeld => ?_); refine with_tabW tinderref09_New.tab6 tinderref09_New.bits6 (fun HT_ HW_ => ?_)
            generalize wr.drew = w14 at HO_2 HO_14006002 HO_14006005 BK14001 BK14005 HB hx14009_0 hx14009_1 hx14010_0 hx14010_1 hHeld ⊢
            refine pure_ (i := 0) (N := some 13) (v := ?_) (a' := ?_) #[true, false, false, false, false, false, false, false, false, false, false, false, false, false, false, false, false, false] rfl rfl (any_of HT_.out (by kernel_rfl)) (fun _ _ _ h => h) (Or.inl ⟨by rfl, ?_⟩) ?_ ?_
            rotate_left
            · intro w'
              go_simp
              with_reducible rfl
            rotate_left
            · simp only [Act.put, List.setIfInBounds_toArray, List.set_cons_zero, List.set_cons_succ, i64_w, i32_w]
              rfl
            refine pure_ (i := 2) (N := some 15) (v := ?_) (a' := ?_) #[true, false, true, false, false, false, false, false, false, false, false, false, false, false, false, false, false, false] rfl rfl (any_of HT_.out (by kernel_rfl)) (fun _ _ _ h => h) (Or.inl ⟨by rfl, ?_⟩) ?_ ?_
            rotate_left
            · intro w'
              go_simp
              with_reducible rfl
            rotate_left
            · simp only [Act.put, List.setIfInBounds_toArray, List.set_cons_zero, List.set_cons_succ, i64_w, i32_w]
              rfl
            refine pure_ (i := 3) (N := some 16) (v := ?_) (a' := ?_) #[true, false, true, true, false, false, false, false, false, false, false, false, false, false, false, false, false, false] rfl rfl (any_of HT_.out (by kernel_rfl)) (fun _ _ _ h => h) (Or.inl ⟨by rfl, ?_⟩) ?_ ?_
            rotate_left
            · intro w'
              go_simp
              with_reducible rfl
            rotate_left
            · simp only [Act.put, List.setIfInBounds_toArray, List.set_cons_zero, List.set_cons_succ, i64_w, i32_w]
              rfl
            refine pure_ (i := 4) (N := some 17) (v := ?_) (a' := ?_) #[true, false, true, true, true, false, false, false, false, false, false, false, false, false, false, false, false, false] rfl rfl (any_of HT_.out (by kernel_rfl)) (fun _ _ _ h => h) (Or.inl ⟨by rfl, ?_⟩) ?_ ?_
            rotate_left
            · intro w'
              go_simp
              with_reducible rfl
            rotate_left
            · simp only [Act.put, List.setIfInBounds_toArray, List.set_cons_zero, List.set_cons_succ, i64_w, i32_w]
              rfl
            refine pure_ (i := 5) (N := some 18) (v := ?_) (a' := ?_) #[true, false, true, true, true, true, false, false, false, false, false, false, false, false, false, false, false, false] rfl rfl (any_of HT_.out (by kernel_rfl)) (fun _ _ _ h => h) (Or.inl ⟨by rfl, ?_⟩) ?_ ?_
            rotate_left
            · intro w'
              go_simp
              with_reducible rfl
            rotate_left
            · simp only [Act.put, List.setIfInBounds_toArray, List.set_cons_zero, List.set_cons_succ, i64_w, i32_w]
              rfl
            refine pure_ (i := 7) (N := some 20) (v := ?_) (a' := ?_) #[true, false, true, true, true, true, false, true, false, false, false, false, false, false, false, false, false, false] rfl rfl (any_of HT_.out (by kernel_rfl)) (fun _ _ _ h => h) (Or.inl ⟨by rfl, ?_⟩) ?_ ?_
            rotate_left
            · intro w'
              go_simp
              with_reducible rfl
            rotate_left
            · simp only [Act.put, List.setIfInBounds_toArray, List.set_cons_zero, List.set_cons_succ, i64_w, i32_w]
              rfl
            refine pure_ (i := 8) (N := some 21) (v := ?_) (a' := ?_) #[true, false, true, true, true, true, false, true, true, false, false, false, false, false, false, false, false, false] rfl rfl (any_of HT_.out (by kernel_rfl)) (fun _ _ _ h => h) (Or.inl ⟨by rfl, ?_⟩) ?_ ?_
            rotate_left
            · intro w'
              go_simp
              with_reducible rfl
            rotate_left
            · simp only [Act.put, List.setIfInBounds_toArray, List.set_cons_zero, List.set_cons_succ, i64_w, i32_w]
              rfl
            refine pure_ (i := 9) (N := some 22) (v := ?_) (a' := ?_) #[true, false, true, true, true, true, false, true, true, true, false, false, false, false, false, false, false, false] rfl rfl (any_of HT_.out (by kernel_rfl)) (fun _ _ _ h => h) (Or.inl ⟨by rfl, ?_⟩) ?_ ?_
            rotate_left
            · intro w'
              go_simp
              with_reducible rfl
            rotate_left
            · simp only [Act.put, List.setIfInBounds_toArray, List.set_cons_zero, List.set_cons_succ, i64_w, i32_w]
              rfl
            refine pure_ (i := 10) (N := some 23) (v := ?_) (a' := ?_) #[true, false, true, true, true, true, false, true, true, true, true, false, false, false, false, false, false, false] rfl rfl (any_of HT_.out (by kernel_rfl)) (fun _ _ _ h => h) (Or.inl ⟨by rfl, ?_⟩) ?_ ?_
            rotate_left
            · intro w'
              go_simp
              with_reducible rfl
            rotate_left
            · simp only [Act.put, List.setIfInBounds_toArray, List.set_cons_zero, List.set_cons_succ, i64_w, i32_w]
              rfl
            refine take_ (i := 1) (N := some 14) (v := ?_) (a' := ?_) #[true, true, true, true, true, true, false, true, true, true, true, false, false, false, false, false, false, false] rfl rfl (take_ofW HT_.out HW_.out (by kernel_rfl)) (fun _ _ _ h => h) (Or.inl ⟨by rfl, ?_⟩) hHeld ?_ ?_
            rotate_left
            · rintro w' ⟨s0, s1, s2, s3, s4, s5, s6, s7, s8, s9, s10, s11, s12, s13⟩
              go_simp
              with_reducible rfl
            rotate_left
            · simp only [Act.put, List.setIfInBounds_toArray, List.set_cons_zero, List.set_cons_succ, i64_w, i32_w]
              rfl
            refine take_ (i := 6) (N := some 19) (v := ?_) (a' := ?_) #[true, true, true, true, true, true, true, true, true, true, true, false, false, false, false, false, false, false] rfl rfl (take_ofW HT_.out HW_.out (by kernel_rfl)) (fun _ _ _ h => h) (Or.inl ⟨by rfl, ?_⟩) hHeld ?_ ?_
            rotate_left
            · rintro w' ⟨s0, s1, s2, s3, s4, s5, s6, s7, s8, s9, s10, s11, s12, s13⟩
              go_simp
              with_reducible rfl
            rotate_left
            · simp only [Act.put, List.setIfInBounds_toArray, List.set_cons_zero, List.set_cons_succ, i64_w, i32_w]
              rfl
            refine take_ (i := 11) (N := some 24) (v := ?_) (a' := ?_) #[true, true, true, true, true, true, true, true, true, true, true, true, false, false, false, false, false, false] rfl rfl (take_ofW HT_.out HW_.out (by kernel_rfl)) (fun _ _ _ h => h) (Or.inl ⟨by rfl, ?_⟩) hHeld ?_ ?_
            rotate_left
            · rintro w' ⟨s0, s1, s2, s3, s4, s5, s6, s7, s8, s9, s10, s11, s12, s13⟩
              go_simp
              with_reducible rfl
            rotate_left
            · simp only [Act.put, List.setIfInBounds_toArray, List.set_cons_zero, List.set_cons_succ, i64_w, i32_w]
              rfl
            refine pure_ (i := 12) (N := some 25) (v := ?_) (a' := ?_) #[true, true, true, true, true, true, true, true, true, true, true, true, true, false, false, false, false, false] rfl rfl (any_of HT_.out (by kernel_rfl)) (fun _ _ _ h => h) (Or.inl ⟨by rfl, ?_⟩) ?_ ?_
            rotate_left
            · intro w'
              go_simp
              with_reducible rfl
            rotate_left
            · simp only [Act.put, List.setIfInBounds_toArray, List.set_cons_zero, List.set_cons_succ, i64_w, i32_w]
              rfl
            refine pure_ (i := 13) (N := some 26) (v := ?_) (a' := ?_) #[true, true, true, true, true, true, true, true, true, true, true, true, true, true, false, false, false, false] rfl rfl (any_of HT_.out (by kernel_rfl)) (fun _ _ _ h => h) (Or.inl ⟨by rfl, ?_⟩) ?_ ?_
            rotate_left
            · intro w'
              go_simp
              with_reducible rfl
            rotate_left
            · simp only [Act.put, List.setIfInBounds_toArray, List.set_cons_zero, List.set_cons_succ, i64_w, i32_w]
              rfl
            refine one_ (i := 14) (N := some 27) #[true, true, true, true, true, true, true, true, true, true, true, true, true, true, true, false, false, false] rfl rfl (one_of HT_.out (by kernel_rfl)) (by decide) (fun K hK => ?_)
            refine value_ (w1 := ?_) (v := ?_) (by rfl) rfl ?_ ?_
            rotate_left 2
            · go_simp
              constructor
              · rfl
              · rfl
            refine hK.out _ _ ⟨(blk_cell (blk_alloc BK14005.out _) 0).trans rfl, (blk_cell (blk_alloc BK14005.out _) 1).trans rfl, (blk_cell (blk_alloc BK14005.out _) 2).trans rfl, (blk_cell (blk_alloc BK14005.out _) 3).trans rfl, (blk_cell (blk_alloc BK14005.out _) 4).trans rfl, (blk_cell (blk_alloc BK14005.out _) 5).trans rfl, (blk_cell (blk_alloc BK14005.out _) 6).trans rfl, (blk_cell (blk_alloc BK14005.out _) 7).trans rfl, (blk_cell (blk_alloc BK14005.out _) 8).trans rfl, (blk_cell (blk_alloc BK14005.out _) 9).trans rfl, (World.cell?_alloc_lt _ _ _ (World.block_lt_of_cell? _ _ (hHeld.2.2.2.2.2.2.2.2.2.2.1))).trans (hHeld.2.2.2.2.2.2.2.2.2.2.1), (World.cell?_alloc_lt _ _ _ (World.block_lt_of_cell? _ _ (hHeld.2.2.2.2.2.2.2.2.2.2.2.1))).trans (hHeld.2.2.2.2.2.2.2.2.2.2.2.1), (World.cell?_alloc_lt _ _ _ (World.block_lt_of_cell? _ _ (hHeld.2.2.2.2.2.2.2.2.2.2.2.2.1))).trans (hHeld.2.2.2.2.2.2.2.2.2.2.2.2.1), (World.cell?_alloc_lt _ _ _ (World.block_lt_of_cell? _ _ (hHeld.2.2.2.2.2.2.2.2.2.2.2.2.2))).trans (hHeld.2.2.2.2.2.2.2.2.2.2.2.2.2)⟩ (fun hHeld => ?_)
            clear hK K
            refine norm_ (a' := ?_) ?_ ?_
            rotate_left
            · show Act.put _ (some 27) _ = _
              simp only [Act.put, List.setIfInBounds_toArray, List.set_cons_zero, List.set_cons_succ, i64_w, i32_w]
              rfl
            refine last_ (i := 15) (N := some 28) #[true, true, true, true, true, true, true, true, true, true, true, true, true, true, true, true, false, false] rfl rfl (one_of HT_.out (by kernel_rfl)) (by decide) (fun K hK => ?_)
            refine Kd.S_append_step k51 (w0 := w) w.heap.size (by rfl) (.tmp 14) (.tmp 27) 26 51 (.agg #[(.string ⟨#[]⟩), (.int .i64 0), (.int .i64 0), (.int .u32 0), (.slice none 0 0)]) 64 rfl Try.underlying26 info51 rfl (by decide) (by omega) u14006002 x14006002_1 (⟨(rd_T37 t14006 x3_1).f0, (-1), 1, ((rd_T37 t14006 x3_1).f1) % 4294967296, ([] : List (S69))⟩ : S51) [.string ((rd_T37 t14006 x3_1).f0), .int .i64 (-1), .int .i64 1, .int .u32 (((rd_T37 t14006 x3_1).f1) % 4294967296), .slice none 0 0] (fun _ => True) (fun _ => False) rfl rfl ?aP (fun k_ hk_ => hk_.elim) ?aF ?aO ?aB ?aS ?aL ?_
            (case aP => exact k51_mkM _ _ _ (⟨(rd_T37 t14006 x3_1).f0, (-1), 1, ((rd_T37 t14006 x3_1).f1) % 4294967296, ([] : List (S69))⟩ : S51) (Kd.R_nil _ _ _ _ _))
            (case aB => exact (by repeat (first | (with_reducible first | exact HB.out | apply below_alloc | apply pw_below_drewN | apply below_drew1 | refine below_set ?_ GE14001.out | refine below_set ?_ GE14005.out) | exact HB.out)))
            (case aF => exact (fun _ _ => trivial))
            (case aO => exact (by (with_reducible repeat (first | apply Kd.S_alloc | apply Kd.S_drewN | apply Kd.S_drew)); exact Kd.S_mono HO_14006002.out (fun k_ hk => ⟨trivial, fun e_ => e_⟩)))
            (case aS => exact (below_size (by repeat (first | (with_reducible first | exact HB.out | apply below_alloc | apply pw_below_drewN | apply below_drew1 | refine below_set ?_ GE14001.out | refine below_set ?_ GE14005.out) | exact HB.out))))
            (case aL => have := LMc12.out; omega)
            intro v14012 w15 ho hb hg hat
            rw [← Ny14011.out] at ho
            have n0_ := Aside0.mk (Kd.R_over' (by (with_reducible repeat (first | apply Kd.R_alloc | apply Kd.R_drewN | apply Kd.R_drew)); exact HO_2.out) (Kd.S_typed (by (with_reducible repeat (first | apply Kd.S_alloc | apply Kd.S_drewN | apply Kd.S_drew)); exact HO_14006002.out)) (by decide) hg)
            have n1_ := Aside0.mk (Kd.R_over' (by (with_reducible repeat (first | apply Kd.R_alloc | apply Kd.R_drewN | apply Kd.R_drew)); exact HO_14006005.out) (Kd.S_typed (by (with_reducible repeat (first | apply Kd.S_alloc | apply Kd.S_drewN | apply Kd.S_drew)); exact HO_14006002.out)) (by decide) hg)
            have n2_ := Aside0.mk (blk_grown (g := gb14001) (o := .cells #[.slice none 0 0, .slice none 0 0, .slice none 0 0, .slice none 0 0, .int .u32 0, .slice none 0 0, .int .i64 0, .slice none 0 0, .int .i64 0, .string (⟨#[]⟩ : ByteArray)] 32 (0, 0)) (by (with_reducible repeat (first | refine blk_drewN ?_ _ | refine blk_drew ?_ | refine blk_alloc ?_ _)); exact BK14001.out) hg (Kd.S_ne HO_14006002.out BK14001.out (by decide)))
            have n3_ := Aside0.mk (blk_grown (g := gb14005) (o := .cells #[.slice none 0 0, .slice none 0 0, u14006002, .slice none 0 0, .int .u32 16, .slice Ao5 t14002.length co5, .int .i64 (-1), .slice none 0 0, .int .i64 (-1), .string (⟨#[]⟩ : ByteArray)] 32 (0, 0)) (by (with_reducible repeat (first | refine blk_drewN ?_ _ | refine blk_drew ?_ | refine blk_alloc ?_ _)); exact BK14005.out) hg (Kd.S_ne HO_14006002.out BK14005.out (by decide)))
            have n4_ := Aside0.mk (hb)
            have n5_ := Aside0.mk (ho)
            clear HO_2
            clear HO_14006005
            clear BK14001
            clear BK14005
            clear HB
            clear HO_14006002
            have HO_2 := n0_
            have HO_14006005 := n1_
            have BK14001 := n2_
            have BK14005 := n3_
            have HB := n4_
            have HO14013 := n5_
            clear n0_ n1_ n2_ n3_ n4_ n5_
            clear ho hb hg hat
            obtain ⟨Ao16, co16, eo16⟩ := Kd.S_slice HO14013.out
            (first | subst eo16 | (injection eo16 with f1_ f2_ f3_; have f4_ := f1_.symm; have f5_ := f3_.symm; clear f1_ f2_ f3_; subst f4_; subst f5_))
            refine hK.out _ _ ?_
            clear hK K
            refine norm_ (a' := ?_) ?_ ?_
            rotate_left
            · show Act.put _ (some 28) _ = _
              simp only [Act.put, List.setIfInBounds_toArray, List.set_cons_zero, List.set_cons_succ, i64_w, i32_w]
              rfl
            refine pure_ (i := 16) (N := some 29) (v := ?_) (a' := ?_) #[true, true, true, true, true, true, true, true, true, true, true, true, true, true, true, true, true, false] rfl rfl (any_of HT_.out (by kernel_rfl)) (fun _ _ _ h => h) (Or.inl ⟨by rfl, ?_⟩) ?_ ?_
            rotate_left
            · intro w'
              go_simp
              with_reducible rfl
            rotate_left
            · simp only [Act.put, List.setIfInBounds_toArray, List.set_cons_zero, List.set_cons_succ, i64_w, i32_w]
              rfl
            refine last_ (i := 17) (N := none) #[true, true, true, true, true, true, true, true, true, true, true, true, true, true, true, true, true, true] rfl rfl (one_of HT_.out (by kernel_rfl)) (by decide) (fun K hK => ?_)
            have hs17 : w15.cell? ⟨gb14005, 2, none⟩ = some (u14006002) := (blk_cell BK14005.out 2).trans rfl
            have hfs17 := blk_frozen BK14005.out 2
            have hns17_0 := NB14001_14005.out
            have hms17_0 := NB14005_14001.out
            refine skip_ (w1 := ?_) (by rfl) rfl ?_ ?_
            rotate_left
            · go_simp
              rfl
            refine hK.out _ _ ?_
            clear hK K
            refine done_ (done_of HT_.out (by kernel_rfl)) ?_
            try go_wp2
            go_roundg k1
            case measure => have := HK1.out; omega
            case rel => exact ⟨(wrap64 (x3_1 + 1)), (y14011), (.slice Ao16 y14011.length co16), (by first | rfl | (simp; done) | (simp [*]; done)), H', ⟨by have := HK1.out; omega⟩, ⟨by (with_reducible repeat (first | apply Kd.R_alloc | apply Kd.R_drewN | apply Kd.R_drew)); exact Kd.R_mono (Kd.R_far (p := ⟨gb14005, 2, none⟩) (Kd.R_types HO_2.out BK14005.out (by decide)) (fun _ hk => hk.2) (.slice Ao16 y14011.length co16)) (fun _ hk => trivial)⟩, ⟨by (with_reducible repeat (first | apply Kd.S_alloc | apply Kd.S_drewN | apply Kd.S_drew)); exact Kd.S_mono (Kd.S_far (p := ⟨gb14005, 2, none⟩) (Kd.S_types HO14013.out BK14005.out (by decide)) (fun _ hk => hk.2) (.slice Ao16 y14011.length co16)) (fun _ hk => trivial)⟩, ⟨by (with_reducible repeat (first | apply Kd.R_alloc | apply Kd.R_drewN | apply Kd.R_drew)); exact Kd.R_mono (Kd.R_far (p := ⟨gb14005, 2, none⟩) (Kd.R_types HO_14006005.out BK14005.out (by decide)) (fun _ hk => hk.2) (.slice Ao16 y14011.length co16)) (fun _ hk => trivial)⟩, ⟨by (with_reducible repeat (first | refine blk_drewN ?_ _ | refine blk_drew ?_ | refine blk_alloc ?_ _)); refine blk_far ?_ NB14001_14005.out _; (with_reducible repeat (first | refine blk_drewN ?_ _ | refine blk_drew ?_ | refine blk_alloc ?_ _)); exact BK14001.out⟩, ⟨by (with_reducible repeat (first | refine blk_drewN ?_ _ | refine blk_drew ?_ | refine blk_alloc ?_ _)); refine blk_put (cs := #[.slice none 0 0, .slice none 0 0, u14006002, .slice none 0 0, .int .u32 16, .slice Ao5 t14002.length co5, .int .i64 (-1), .slice none 0 0, .int .i64 (-1), .string (⟨#[]⟩ : ByteArray)]) ?_ 2 _ rfl; (with_reducible repeat (first | refine blk_drewN ?_ _ | refine blk_drew ?_ | refine blk_alloc ?_ _)); exact BK14005.out⟩, ⟨by repeat (first | (with_reducible first | exact HB.out | apply below_alloc | apply pw_below_drewN | apply below_drew1 | refine below_set ?_ GE14001.out | refine below_set ?_ GE14005.out) | exact HB.out)⟩⟩
          · rw [if_neg c12] at H
            exact absurd H (by simp)
        · rw [if_neg c11] at H
          exact absurd H (by simp)
      · rw [if_neg c10] at H
        have c10b0 : decide (x3_1 < (t14006.length : Int)) = false := decide_eq_false c10
        clear c10
        simp only [Option.some.injEq, Prod.mk.injEq] at H
        obtain ⟨rfl, rfl, rfl, rfl, rfl, rfl, rfl, rfl, rfl, rfl⟩ := H
        obtain ⟨Ao18, co18, eo18⟩ := Kd.R_slice HO_2.out
        subst eo18
        have hnb19 := NB14005_14001.out
        have hnc19 := NB14001_14005.out
        have hcz20_0 : wr.cell? ⟨gb14005, 0, none⟩ = some (.slice none 0 0) := (blk_cell BK14005.out 0).trans rfl
        have hcz20_1 : wr.cell? ⟨gb14005, 1, none⟩ = some (.slice none 0 0) := (blk_cell BK14005.out 1).trans rfl
        have hcz20_2 : wr.cell? ⟨gb14005, 2, none⟩ = some (u14006002) := (blk_cell BK14005.out 2).trans rfl
        have hcz20_3 : wr.cell? ⟨gb14005, 3, none⟩ = some (.slice none 0 0) := (blk_cell BK14005.out 3).trans rfl
        have hcz20_4 : wr.cell? ⟨gb14005, 4, none⟩ = some (.int .u32 16) := (blk_cell BK14005.out 4).trans rfl
        have hcz20_5 : wr.cell? ⟨gb14005, 5, none⟩ = some (.slice Ao5 t14002.length co5) := (blk_cell BK14005.out 5).trans rfl
        have hcz20_6 : wr.cell? ⟨gb14005, 6, none⟩ = some (.int .i64 (-1)) := (blk_cell BK14005.out 6).trans rfl
        have hcz20_7 : wr.cell? ⟨gb14005, 7, none⟩ = some (.slice none 0 0) := (blk_cell BK14005.out 7).trans rfl
        have hcz20_8 : wr.cell? ⟨gb14005, 8, none⟩ = some (.int .i64 (-1)) := (blk_cell BK14005.out 8).trans rfl
        have hcz20_9 : wr.cell? ⟨gb14005, 9, none⟩ = some (.string (⟨#[]⟩ : ByteArray)) := (blk_cell BK14005.out 9).trans rfl
        have hfz20_0 := blk_frozen BK14005.out 0
        have hfz20_1 := blk_frozen BK14005.out 1
        have hfz20_2 := blk_frozen BK14005.out 2
        have hfz20_3 := blk_frozen BK14005.out 3
        have hfz20_4 := blk_frozen BK14005.out 4
        have hfz20_5 := blk_frozen BK14005.out 5
        have hfz20_6 := blk_frozen BK14005.out 6
        have hfz20_7 := blk_frozen BK14005.out 7
        have hfz20_8 := blk_frozen BK14005.out 8
        have hfz20_9 := blk_frozen BK14005.out 9
        have hcz21_0 : wr.cell? ⟨gb14001, 0, none⟩ = some (.slice none 0 0) := (blk_cell BK14001.out 0).trans rfl
        have hcz21_1 : wr.cell? ⟨gb14001, 1, none⟩ = some (.slice none 0 0) := (blk_cell BK14001.out 1).trans rfl
        have hcz21_2 : wr.cell? ⟨gb14001, 2, none⟩ = some (.slice none 0 0) := (blk_cell BK14001.out 2).trans rfl
        have hcz21_3 : wr.cell? ⟨gb14001, 3, none⟩ = some (.slice none 0 0) := (blk_cell BK14001.out 3).trans rfl
        have hcz21_4 : wr.cell? ⟨gb14001, 4, none⟩ = some (.int .u32 0) := (blk_cell BK14001.out 4).trans rfl
        have hcz21_5 : wr.cell? ⟨gb14001, 5, none⟩ = some (.slice none 0 0) := (blk_cell BK14001.out 5).trans rfl
        have hcz21_6 : wr.cell? ⟨gb14001, 6, none⟩ = some (.int .i64 0) := (blk_cell BK14001.out 6).trans rfl
        have hcz21_7 : wr.cell? ⟨gb14001, 7, none⟩ = some (.slice none 0 0) := (blk_cell BK14001.out 7).trans rfl
        have hcz21_8 : wr.cell? ⟨gb14001, 8, none⟩ = some (.int .i64 0) := (blk_cell BK14001.out 8).trans rfl
        have hcz21_9 : wr.cell? ⟨gb14001, 9, none⟩ = some (.string (⟨#[]⟩ : ByteArray)) := (blk_cell BK14001.out 9).trans rfl
        have hfz21_0 := blk_frozen BK14001.out 0
        have hfz21_1 := blk_frozen BK14001.out 1
        have hfz21_2 := blk_frozen BK14001.out 2
        have hfz21_3 := blk_frozen BK14001.out 3
        have hfz21_4 := blk_frozen BK14001.out 4
        have hfz21_5 := blk_frozen BK14001.out 5
        have hfz21_6 := blk_frozen BK14001.out 6
        have hfz21_7 := blk_frozen BK14001.out 7
        have hfz21_8 := blk_frozen BK14001.out 8
        have hfz21_9 := blk_frozen BK14001.out 9
        obtain ⟨Ao22, co22, eo22⟩ := Kd.S_slice HO_14006002.out
        subst eo22
        go_wp2
        refine bodyPost_ret (results_cell_row rfl _ _ gb14001 32 #[.slice none 0 0, .slice none 0 0, .slice Ao22 x14006002_1.length co22, .slice none 0 0, .int .u32 16, .slice Ao5 t14002.length co5, .int .i64 (-1), .slice none 0 0, .int .i64 (-1), .string (⟨#[]⟩ : ByteArray)] (0, 0) _ rfl (by (with_reducible repeat (first | refine blk_drewN ?_ _ | refine blk_drew ?_ | refine blk_alloc ?_ _)); refine blk_put (cs := #[.slice none 0 0, .slice none 0 0, .slice Ao22 x14006002_1.length co22, .slice none 0 0, .int .u32 16, .slice Ao5 t14002.length co5, .int .i64 (-1), .slice none 0 0, .int .i64 (-1), .string (⟨#[]⟩ : ByteArray)]) ?_ 9 _ rfl; (with_reducible repeat (first | refine blk_drewN ?_ _ | refine blk_drew ?_ | refine blk_alloc ?_ _)); refine blk_put (cs := #[.slice none 0 0, .slice none 0 0, .slice Ao22 x14006002_1.length co22, .slice none 0 0, .int .u32 16, .slice Ao5 t14002.length co5, .int .i64 (-1), .slice none 0 0, .int .i64 0, .string (⟨#[]⟩ : ByteArray)]) ?_ 8 _ rfl; (with_reducible repeat (first | refine blk_drewN ?_ _ | refine blk_drew ?_ | refine blk_alloc ?_ _)); refine blk_put (cs := #[.slice none 0 0, .slice none 0 0, .slice Ao22 x14006002_1.length co22, .slice none 0 0, .int .u32 16, .slice Ao5 t14002.length co5, .int .i64 (-1), .slice none 0 0, .int .i64 0, .string (⟨#[]⟩ : ByteArray)]) ?_ 7 _ rfl; (with_reducible repeat (first | refine blk_drewN ?_ _ | refine blk_drew ?_ | refine blk_alloc ?_ _)); refine blk_put (cs := #[.slice none 0 0, .slice none 0 0, .slice Ao22 x14006002_1.length co22, .slice none 0 0, .int .u32 16, .slice Ao5 t14002.length co5, .int .i64 0, .slice none 0 0, .int .i64 0, .string (⟨#[]⟩ : ByteArray)]) ?_ 6 _ rfl; (with_reducible repeat (first | refine blk_drewN ?_ _ | refine blk_drew ?_ | refine blk_alloc ?_ _)); refine blk_put (cs := #[.slice none 0 0, .slice none 0 0, .slice Ao22 x14006002_1.length co22, .slice none 0 0, .int .u32 16, .slice none 0 0, .int .i64 0, .slice none 0 0, .int .i64 0, .string (⟨#[]⟩ : ByteArray)]) ?_ 5 _ rfl; (with_reducible repeat (first | refine blk_drewN ?_ _ | refine blk_drew ?_ | refine blk_alloc ?_ _)); refine blk_put (cs := #[.slice none 0 0, .slice none 0 0, .slice Ao22 x14006002_1.length co22, .slice none 0 0, .int .u32 0, .slice none 0 0, .int .i64 0, .slice none 0 0, .int .i64 0, .string (⟨#[]⟩ : ByteArray)]) ?_ 4 _ rfl; (with_reducible repeat (first | refine blk_drewN ?_ _ | refine blk_drew ?_ | refine blk_alloc ?_ _)); refine blk_put (cs := #[.slice none 0 0, .slice none 0 0, .slice Ao22 x14006002_1.length co22, .slice none 0 0, .int .u32 0, .slice none 0 0, .int .i64 0, .slice none 0 0, .int .i64 0, .string (⟨#[]⟩ : ByteArray)]) ?_ 3 _ rfl; (with_reducible repeat (first | refine blk_drewN ?_ _ | refine blk_drew ?_ | refine blk_alloc ?_ _)); refine blk_put (cs := #[.slice none 0 0, .slice none 0 0, .slice none 0 0, .slice none 0 0, .int .u32 0, .slice none 0 0, .int .i64 0, .slice none 0 0, .int .i64 0, .string (⟨#[]⟩ : ByteArray)]) ?_ 2 _ rfl; (with_reducible repeat (first | refine blk_drewN ?_ _ | refine blk_drew ?_ | refine blk_alloc ?_ _)); refine blk_put (cs := #[.slice none 0 0, .slice none 0 0, .slice none 0 0, .slice none 0 0, .int .u32 0, .slice none 0 0, .int .i64 0, .slice none 0 0, .int .i64 0, .string (⟨#[]⟩ : ByteArray)]) ?_ 1 _ rfl; (with_reducible repeat (first | refine blk_drewN ?_ _ | refine blk_drew ?_ | refine blk_alloc ?_ _)); refine blk_put (cs := #[.slice none 0 0, .slice none 0 0, .slice none 0 0, .slice none 0 0, .int .u32 0, .slice none 0 0, .int .i64 0, .slice none 0 0, .int .i64 0, .string (⟨#[]⟩ : ByteArray)]) ?_ 0 _ rfl; (with_reducible repeat (first | refine blk_drewN ?_ _ | refine blk_drew ?_ | refine blk_alloc ?_ _)); exact BK14001.out) Try.underlying32 rfl (by kernel_rfl)) rfl ?_
        exact ⟨_, _, _, _, _, _, by first | rfl | (simp [errW_none, errW_some] <;> rfl) | (simp [*, errW_none, errW_some] <;> rfl), by first | exact Kd.R_nil _ _ _ _ _ | exact Kd.N_nil _ _ _ _ _ | exact Kd.V_nil _ _ _ _ _ | exact Kd.Q_nil _ _ _ _ _ | exact Kd.S_nil _ _ _ _ _, by first | exact Kd.R_nil _ _ _ _ _ | exact Kd.N_nil _ _ _ _ _ | exact Kd.V_nil _ _ _ _ _ | exact Kd.Q_nil _ _ _ _ _ | exact Kd.S_nil _ _ _ _ _, by (with_reducible repeat (first | apply Kd.S_alloc | apply Kd.S_drewN | apply Kd.S_drew)); exact Kd.S_mono (Kd.S_far (p := ⟨gb14001, 9, none⟩) (Kd.S_far (p := ⟨gb14001, 8, none⟩) (Kd.S_far (p := ⟨gb14001, 7, none⟩) (Kd.S_far (p := ⟨gb14001, 6, none⟩) (Kd.S_far (p := ⟨gb14001, 5, none⟩) (Kd.S_far (p := ⟨gb14001, 4, none⟩) (Kd.S_far (p := ⟨gb14001, 3, none⟩) (Kd.S_far (p := ⟨gb14001, 2, none⟩) (Kd.S_far (p := ⟨gb14001, 1, none⟩) (Kd.S_far (p := ⟨gb14001, 0, none⟩) (Kd.S_types HO_14006002.out BK14001.out (by decide)) (fun _ hk => hk.2) (.slice none 0 0)) (fun _ hk => hk.2) (.slice none 0 0)) (fun _ hk => hk.2) (.slice Ao22 x14006002_1.length co22)) (fun _ hk => hk.2) (.slice none 0 0)) (fun _ hk => hk.2) (.int .u32 16)) (fun _ hk => hk.2) (.slice Ao5 t14002.length co5)) (fun _ hk => hk.2) (.int .i64 (-1))) (fun _ hk => hk.2) (.slice none 0 0)) (fun _ hk => hk.2) (.int .i64 (-1))) (fun _ hk => hk.2) (.string (⟨#[]⟩ : ByteArray))) (fun _ hk => trivial), by first | exact Kd.R_nil _ _ _ _ _ | exact Kd.N_nil _ _ _ _ _ | exact Kd.V_nil _ _ _ _ _ | exact Kd.Q_nil _ _ _ _ _ | exact Kd.S_nil _ _ _ _ _, by (with_reducible repeat (first | apply Kd.R_alloc | apply Kd.R_drewN | apply Kd.R_drew)); exact Kd.R_mono (Kd.R_far (p := ⟨gb14001, 9, none⟩) (Kd.R_far (p := ⟨gb14001, 8, none⟩) (Kd.R_far (p := ⟨gb14001, 7, none⟩) (Kd.R_far (p := ⟨gb14001, 6, none⟩) (Kd.R_far (p := ⟨gb14001, 5, none⟩) (Kd.R_far (p := ⟨gb14001, 4, none⟩) (Kd.R_far (p := ⟨gb14001, 3, none⟩) (Kd.R_far (p := ⟨gb14001, 2, none⟩) (Kd.R_far (p := ⟨gb14001, 1, none⟩) (Kd.R_far (p := ⟨gb14001, 0, none⟩) (Kd.R_types HO_14006005.out BK14001.out (by decide)) (fun _ hk => hk.2) (.slice none 0 0)) (fun _ hk => hk.2) (.slice none 0 0)) (fun _ hk => hk.2) (.slice Ao22 x14006002_1.length co22)) (fun _ hk => hk.2) (.slice none 0 0)) (fun _ hk => hk.2) (.int .u32 16)) (fun _ hk => hk.2) (.slice Ao5 t14002.length co5)) (fun _ hk => hk.2) (.int .i64 (-1))) (fun _ hk => hk.2) (.slice none 0 0)) (fun _ hk => hk.2) (.int .i64 (-1))) (fun _ hk => hk.2) (.string (⟨#[]⟩ : ByteArray))) (fun _ hk => ⟨(by simp [Value.ownBlock]), (by simp [Value.ownBlock])⟩), by first | exact Kd.S_nil _ _ _ _ _ | exact Kd.N_nil _ _ _ _ _ | exact Kd.V_nil _ _ _ _ _ | exact Kd.Q_nil _ _ _ _ _ | exact Kd.R_nil _ _ _ _ _, by repeat (first | (with_reducible first | exact HB.out | apply below_alloc | apply pw_below_drewN | apply below_drew1 | refine below_set ?_ GE14001.out | refine below_set ?_ GE14005.out) | exact HB.out)⟩

end Go.Proofs.Ytfpkakedlapmkaa.Q
end
section
set_option linter.unusedSimpArgs false
set_option linter.unusedVariables false
namespace Go.Proofs.Ytfpkakedlapmkaa.Q
open Go.RowKit Go.Proofs.YtfpkakedlapmkaaW.PrintWords Go.Proofs.YtfpkakedlapmkaaW.PrintLast Go.Proofs.YtfpkakedlapmkaaW.PrintMore
theorem eqA37 (d : Nat) (w : World) (x0 y0 : ByteArray) (x1 y1 : Int) :
    (Op.equalIn (d + 2) 37 (.agg #[.string x0, .int .i64 x1]) (.agg #[.string y0, .int .i64 y1])).run Try.prog w = .ok (x0.toList == y0.toList && (x1 == y1)) w := by
  refine eqA_of Try.underlying37 (by kernel_rfl) ?_
  refine eqf_cons (by rfl) (by go_simp; rfl) (by go_simp; rfl) (by go_simp) ?_
  exact eqf_last (by rfl) (by go_simp; rfl) (by go_simp; rfl) (by go_simp)
attribute [local go_sem high] eqA37
attribute [local go_sem] max2_int min2_int max_two min_two max_three min_three max_four min_four
theorem C_none {α : Type} (d : Kd α) (w : World) : Kd.C d w none 0 ([] : List α) := ⟨rfl, by decide, fun h => absurd h (by decide)⟩
theorem ref_primsS : tinderref09_Prims.f = some primsL := rfl
theorem rnew_go : ∀ (d k : Nat) (i : Int), 0 ≤ i → i + d = 111 → d < k → tinderref09_New.l0 k primsL i (wordsN primsL i.toNat) 16 [root91] (-1) (-1) ⟨#[]⟩ = some ([], [], wordsN primsL 111, [], 16, [root91], -1, [], -1, ⟨#[]⟩)
  | 0, k, i, h0, h1, hk => by
    obtain ⟨k, rfl⟩ : ∃ m, k = m + 1 := ⟨k - 1, by omega⟩
    rw [tinderref09_New.l0, if_neg (by rw [primsL_len]; omega), show i.toNat = 111 by omega]
  | d + 1, k, i, h0, h1, hk => by
    obtain ⟨k, rfl⟩ : ∃ m, k = m + 1 := ⟨k - 1, by omega⟩
    have hw : wrap64 (i + 1) = i + 1 := by unfold wrap64; omega
    have hl := wordsN_len primsL i.toNat (by rw [primsL_len]; omega)
    rw [tinderref09_New.l0, if_pos (by rw [primsL_len]; omega), if_pos h0, if_pos (by omega), hw]
    have e := wordsN_succ primsL i.toNat (by rw [primsL_len]; omega)
    rw [show i.toNat + 1 = (i + 1).toNat by omega] at e
    rw [show wordsN primsL i.toNat ++ [(⟨(rd_T37 primsL i).f0, -1, 1, (rd_T37 primsL i).f1 % 4294967296, []⟩ : S51)] = wordsN primsL (i + 1).toNat from e.symm]
    exact rnew_go d k (i + 1) (by omega) (by omega) (by omega)
theorem rnew_eq : tinderref09_New.f 200 = some ([], [], wordsN primsL 111, [], 16, [root91], -1, [], -1, ⟨#[]⟩) := by
  unfold tinderref09_New.f
  rw [show tinderref08_New.f = some [root91] from rfl, Option.bind_some, ref_primsS, Option.bind_some]
  exact rnew_go 111 200 0 (Int.le_refl _) rfl (by omega)
theorem rnew_calls (w : World) : Calls Try.prog 13 #[] w fun e w' => ∃ B0 d0 B1 d1 B2 d2 B3 d3 B5 d5 B7 d7, e = .returned (.agg #[.slice B0 0 d0, .slice B1 0 d1, .slice B2 111 d2, .slice B3 0 d3, .int .u32 16, .slice B5 1 d5, .int .i64 (-1), .slice B7 0 d7, .int .i64 (-1), .string ⟨#[]⟩]) ∧ (Kd.C (Kd.int .u32) w' B0 0 [] ∧ Kd.C (Kd.int .u8) w' B1 0 [] ∧ Kd.C k51 w' B2 111 (wordsN primsL 111) ∧ 111 ≤ d2 ∧ Kd.C (Kd.int .i64) w' B3 0 [] ∧ Kd.C k91 w' B5 1 [root91] ∧ 1 ≤ d5 ∧ Kd.C k82 w' B7 0 []) ∧ Below w.heap.size w w' := by
  refine (tinderref09_New.calls 200 [] [] (wordsN primsL 111) [] 16 [root91] (-1) [] (-1) ⟨#[]⟩ w rnew_eq).mono ?_
  rintro e w' ⟨v0, v1, v2, v3, v5, v7, rfl, h0, h1, h2, h3, h5, h7, hb⟩
  have hl : (wordsN primsL 111).length = 111 := wordsN_len primsL 111 (by rw [primsL_len]; omega)
  obtain ⟨B0, d0, rfl, _, g0⟩ := Kd.R_reads h0
  obtain ⟨B1, d1, rfl, _, g1⟩ := Kd.R_reads h1
  obtain ⟨B2, d2, rfl, q2, g2⟩ := Kd.S_reads h2
  obtain ⟨B3, d3, rfl, _, g3⟩ := Kd.R_reads h3
  obtain ⟨B5, d5, rfl, q5, g5⟩ := Kd.R_reads h5
  obtain ⟨B7, d7, rfl, _, g7⟩ := Kd.S_reads h7
  rw [hl] at q2 g2 ⊢
  exact ⟨B0, d0, B1, d1, B2, d2, B3, d3, B5, d5, B7, d7, rfl, ⟨g0, g1, g2, q2, g3, g5, q5, g7⟩, hb⟩
theorem prims14 (w : World) : Calls Try.prog 14 #[] w fun e w' => ∃ A c, e = .returned (.slice A 111 c) ∧ Kd.C k37 w' A 111 primsL ∧ Below w.heap.size w w' := by
  refine (dict_Prims.calls primsL w rfl).mono ?_
  rintro e w' ⟨v, rfl, h, hb⟩
  obtain ⟨A, c, rfl, _, g⟩ := Kd.R_reads h
  rw [primsL_len] at g ⊢
  exact ⟨A, c, rfl, g, hb⟩
theorem prims15 (w : World) : Calls Try.prog 15 #[] w fun e w' => ∃ A c, e = .returned (.slice A 111 c) ∧ Kd.C k37 w' A 111 primsL ∧ Below w.heap.size w w' := by
  refine (tinderref09_Prims.calls primsL w ref_primsS).mono ?_
  rintro e w' ⟨v, rfl, h, hb⟩
  obtain ⟨A, c, rfl, _, g⟩ := Kd.R_reads h
  rw [primsL_len] at g ⊢
  exact ⟨A, c, rfl, g, hb⟩
/-- Each of the words is found under its name and under its number, and its name is one. -/
def startOk (j : Nat) : Bool := (lastP (isN51 (primsL.getD j z37).f0) (wordsN primsL 111) == ((j : Int), true)) && ((primIdx primsL (primsL.getD j z37).f1 == ((j : Int), true)) && (dNamed (primsL.getD j z37).f0 && decide ((primsL.getD j z37).f1 < 2048)))
set_option maxRecDepth 100000 in
theorem starts_all : ((List.range 111).all startOk) = true := by kernel_rfl
theorem start_at (n : Int) (h0 : 0 ≤ n) (h1 : n < 111) : lastP (isN51 (rd_T37 primsL n).f0) (wordsN primsL 111) = (n, true) ∧ primIdx primsL (rd_T37 primsL n).f1 = (n, true) ∧ dNamed (rd_T37 primsL n).f0 = true ∧ (rd_T37 primsL n).f1 < 2048 := by
  have h := List.all_eq_true.1 starts_all n.toNat (List.mem_range.2 (by omega))
  simp only [startOk, Bool.and_eq_true, beq_iff_eq, decide_eq_true_eq] at h
  rw [show ((n.toNat : Nat) : Int) = n by omega] at h
  exact ⟨h.1, h.2.1, h.2.2.1, h.2.2.2⟩
theorem findS (n : Int) (h0 : 0 ≤ n) (h1 : n < 111) (A : Option Addr) (c : Nat) (A5 : Option Addr) (c5 : Nat) (X : World) (hC : Kd.C k51 X A 111 (wordsN primsL 111)) :
    Calls Try.prog 16 #[.agg (mcells (.slice A 111 c) (.slice A5 1 c5)), .string (rd_T37 primsL n).f0] X fun e w' => e = .returned (.tuple #[.int .i64 n, .bool true]) ∧ Below X.heap.size X w' := by
  have hl : (wordsN primsL 111).length = 111 := wordsN_len primsL 111 (by rw [primsL_len]; omega)
  have h := find_calls (.slice none 0 0) (.slice none 0 0) A c (wordsN primsL 111) (.slice none 0 0) 16 (.slice A5 1 c5) (-1) (.slice none 0 0) (-1) ⟨#[]⟩ (rd_T37 primsL n).f0 X (by rw [hl]; exact hC)
  rw [(start_at n h0 h1).1, hl] at h
  exact h
theorem codeS (n : Int) (h0 : 0 ≤ n) (h1 : n < 111) (A : Option Addr) (c : Nat) (A5 : Option Addr) (c5 : Nat) (X : World) :
    Calls Try.prog 17 #[.agg (mcells (.slice A 111 c) (.slice A5 1 c5)), .int .i64 (rd_T37 primsL n).f1] X fun e w' => e = .returned (.tuple #[.int .i64 n, .bool true]) ∧ Below X.heap.size X w' := by
  have h := code_low primsL primsL_len prims_exact (.slice none 0 0) (.slice none 0 0) (.slice A 111 c) (.slice none 0 0) 16 (.slice A5 1 c5) (-1) (.slice none 0 0) (-1) ⟨#[]⟩ (rd_T37 primsL n).f1 (start_at n h0 h1).2.2.2 X
  rw [(start_at n h0 h1).2.1] at h
  exact h
theorem namedS (n : Int) (h0 : 0 ≤ n) (h1 : n < 111) (X : World) : Calls Try.prog 18 #[.string (rd_T37 primsL n).f0] X fun e w' => e = .returned (.bool true) ∧ Below X.heap.size X w' := by
  have h := named_calls (rd_T37 primsL n).f0 X
  rw [(start_at n h0 h1).2.2.1] at h
  exact h
theorem sameS (A : Option Addr) (c : Nat) (A5 : Option Addr) (c5 : Nat) (B0 : Option Addr) (d0 : Nat) (B1 : Option Addr) (d1 : Nat) (B2 : Option Addr) (d2 : Nat) (B3 : Option Addr) (d3 : Nat) (B5 : Option Addr) (d5 : Nat) (B7 : Option Addr) (d7 : Nat) (X : World) (hA : Kd.C k51 X A 111 (wordsN primsL 111)) (hc : 111 ≤ c) (hA5 : Kd.C k91 X A5 1 [root91]) (hc5 : 1 ≤ c5)
    (hB : Kd.C (Kd.int .u32) X B0 0 [] ∧ Kd.C (Kd.int .u8) X B1 0 [] ∧ Kd.C k51 X B2 111 (wordsN primsL 111) ∧ 111 ≤ d2 ∧ Kd.C (Kd.int .i64) X B3 0 [] ∧ Kd.C k91 X B5 1 [root91] ∧ 1 ≤ d5 ∧ Kd.C k82 X B7 0 []) :
    Calls Try.prog 11 #[.agg (mcells (.slice A 111 c) (.slice A5 1 c5)), .agg #[.slice B0 0 d0, .slice B1 0 d1, .slice B2 111 d2, .slice B3 0 d3, .int .u32 16, .slice B5 1 d5, .int .i64 (-1), .slice B7 0 d7, .int .i64 (-1), .string ⟨#[]⟩]] X fun e w' => e = .returned (.bool true) ∧ Below X.heap.size X w' := by
  have hl : (wordsN primsL 111).length = 111 := wordsN_len primsL 111 (by rw [primsL_len]; omega)
  obtain ⟨h0, h1, h2, q2, h3, h5, q5, h7⟩ := hB
  have h := same9T_calls [] [] (wordsN primsL 111) [] 16 [root91] (-1) [] (-1) ⟨#[]⟩ none 0 none 0 A c none 0 A5 c5 none 0 B0 d0 B1 d1 B2 d2 B3 d3 B5 d5 B7 d7 X (C_none _ X) (Nat.zero_le _) (C_none _ X) (Nat.zero_le _) (by rw [hl]; exact hA) (by rw [hl]; exact hc) (C_none _ X) (Nat.zero_le _) hA5 hc5 (C_none _ X) (Nat.zero_le _) h0 (Nat.zero_le _) h1 (Nat.zero_le _) (by rw [hl]; exact h2) (by rw [hl]; exact q2) h3 (Nat.zero_le _) h5 q5 h7 (Nat.zero_le _)
  rw [hl] at h
  exact h
set_option maxHeartbeats 4000000 in
set_option maxRecDepth 100000 in
theorem dictStarts_row {w : World} (n : Int) (_hn : (Lit.int .i64 n).wf = true) : Calls Try.prog 3 #[.int .i64 n] w fun e w' => e = .returned (.bool true) ∧ Below w.heap.size w w' := by
  have hu37 := Try.underlying37
  have mixed : Try.prog.follows Departure.mixedOrders = true := by kernel_rfl
  have HB := Aside0.mk (Below.refl w.heap.size w)
  have HAL := Aside0.mk alive_calls
  have HN := Aside0.mk new2
  have HRN := Aside0.mk rnew_calls
  have HSM := Aside0.mk sameS
  have HP := Aside0.mk prims14
  have HQ := Aside0.mk prims15
  unfold mcells at HN HSM
  go_enter Try.func3, Try.ntmps3
  go_wp2_with (first
    | (go_at_call 10; refine (HAL.out _).mono ?_; rintro e w1 ⟨rfl, hb⟩; replace HB := Aside0.mk (below_step HB.out hb); clear hb)
    | (go_at_call 12; refine (HN.out _).mono ?_; rintro e w2 ⟨A, c, A5, c5, rfl, hc, hC, hc5, hC5, hb⟩; replace HB := Aside0.mk (below_step HB.out hb); have H1 := Aside0.mk hc; have H2 := Aside0.mk hC; have H3 := Aside0.mk hc5; have H4 := Aside0.mk hC5; clear hb hc hC hc5 hC5)
    | (go_at_call 13; refine (HRN.out _).mono ?_; rintro e w3 ⟨B0, d0, B1, d1, B2, d2, B3, d3, B5, d5, B7, d7, rfl, hB, hb⟩; replace HB := Aside0.mk (below_step HB.out hb); replace H2 := Aside0.mk (Kd.C_below H2.out hb); replace H4 := Aside0.mk (Kd.C_below H4.out hb); have H5 := Aside0.mk hB; clear hb hB)
    | (go_at_call 11; refine (HSM.out _ _ _ _ _ _ _ _ _ _ _ _ _ _ _ _ _ H2.out H1.out H4.out H3.out H5.out).mono ?_; rintro e w4 ⟨rfl, hb⟩; replace HB := Aside0.mk (below_step HB.out hb); clear hb H1 H2 H3 H4 H5)
    | (go_at_call 14; refine (HP.out _).mono ?_; rintro e w5 ⟨PA, pc, rfl, hC, hb⟩; replace HB := Aside0.mk (below_step HB.out hb); have HPA := Aside0.mk hC; clear hb hC)
    | (go_at_call 15; refine (HQ.out _).mono ?_; rintro e w6 ⟨QA, qc, rfl, hC, hb⟩; replace HB := Aside0.mk (below_step HB.out hb); replace HPA := Aside0.mk (Kd.C_below HPA.out hb); have HQA := Aside0.mk hC; clear hb hC))
  go_loopg [5] 111 (fun kq v5 w' => ∃ i : Int, v5 = .int .i64 i ∧ Aside0 (0 ≤ i ∧ i + kq = 111) ∧ Aside0 (Kd.C k37 w' PA 111 primsL) ∧ Aside0 (Kd.C k37 w' QA 111 primsL) ∧ Aside0 (Below w.heap.size w w'))
  case atStart => exact ⟨0, rfl, ⟨by omega, by omega⟩, HPA, HQA, HB⟩
  case round =>
    clear HPA HQA HB
    obtain ⟨i, rfl, HI, HPA, HQA, HB⟩ := hrel
    cases gk with
    | succ k1 =>
      have hi := HI.out
      have hlt : decide (i < 111) = true := decide_eq_true (by omega)
      have p1 : (0 ≤ i) = True := eq_true (by omega)
      have p2 : (i < 111) = True := eq_true (by omega)
      have hwr : IntKind.i64.wrap (i + 1) = i + 1 := (i64_w _).trans (by unfold wrap64; omega)
      have hwr2 : wrap64 (i + 1) = i + 1 := by unfold wrap64; omega
      obtain ⟨ad, eA, hx0, hx1⟩ := at_T37 HPA.out i (by omega) (by omega)
      cases eA
      obtain ⟨bd, eB, hv0, hv1⟩ := at_T37 HQA.out i (by omega) (by omega)
      cases eB
      generalize rd_T37 primsL i = x at *
      clear hi
      go_wp2
      go_quiet (fail)
      go_wp2
      go_roundg k1
      case measure => omega
      case rel => exact ⟨i + 1, rfl, ⟨by have := HI.out; omega, by have := HI.out; omega⟩, ⟨HPA.out⟩, ⟨HQA.out⟩, ⟨by first | exact HB.out | exact pw_below_drewN HB.out _⟩⟩
    | zero =>
      have hlt : decide (i < 111) = false := decide_eq_false (by have := HI.out; omega)
      by_cases hn0 : n < 0
      · have d0 : decide (n < 0) = true := decide_eq_true hn0
        clear hn0
        go_wp2
        go_ret
        exact ⟨rfl, HB.out⟩
      have d0 : decide (n < 0) = false := decide_eq_false hn0
      by_cases hn1 : 111 ≤ n
      · have d1 : decide (111 ≤ n) = true := decide_eq_true hn1
        clear hn0 hn1
        go_wp2
        go_ret
        exact ⟨rfl, HB.out⟩
      have d1 : decide (111 ≤ n) = false := decide_eq_false hn1
      have p1 : (0 ≤ n) = True := eq_true (by omega)
      have p2 : (n < 111) = True := eq_true (by omega)
      obtain ⟨ad, eA, hx0, hx1⟩ := at_T37 HPA.out n (by omega) (by omega)
      cases eA
      have HF := Aside0.mk (findS n (by omega) (by omega))
      have HCO := Aside0.mk (codeS n (by omega) (by omega))
      have HNM := Aside0.mk (namedS n (by omega) (by omega))
      unfold mcells at HF HCO
      generalize rd_T37 primsL n = x at *
      clear hn0 hn1
      go_wp2
      refine start_ (n := 12) (S := fun w' => w'.cell? (ad.add (n.toNat * 2)) = some (.string x.f0) ∧ w'.cell? ⟨(ad.add (n.toNat * 2)).block, (ad.add (n.toNat * 2)).off + 1, none⟩ = some (.int .i64 x.f1) ∧ Below wr.heap.size wr w') (ds := []) #[false, false, false, false, false, false, false, false, false, false, false, false] (by kernel_rfl) rfl rfl ⟨hx0, hx1, below_drew1 (Below.refl wr.heap.size wr)⟩ (fun hHeld => ?_)
      refine pure_ (i := 1) (N := some 55) (v := ?_) (a' := ?_) #[false, true, false, false, false, false, false, false, false, false, false, false] rfl rfl (by kernel_rfl) (fun _ _ _ h => h) (Or.inl ⟨by rfl, ?_⟩) ?_ ?_
      rotate_left
      · intro w'
        go_simp
        with_reducible rfl
      rotate_left
      · simp only [Act.put, List.setIfInBounds_toArray, List.set_cons_zero, List.set_cons_succ]
        rfl
      refine pure_ (i := 2) (N := some 56) (v := ?_) (a' := ?_) #[false, true, true, false, false, false, false, false, false, false, false, false] rfl rfl (by kernel_rfl) (fun _ _ _ h => h) (Or.inl ⟨by rfl, ?_⟩) ?_ ?_
      rotate_left
      · intro w'
        go_simp
        with_reducible rfl
      rotate_left
      · simp only [Act.put, List.setIfInBounds_toArray, List.set_cons_zero, List.set_cons_succ]
        rfl
      refine pure_ (i := 3) (N := some 57) (v := ?_) (a' := ?_) #[false, true, true, true, false, false, false, false, false, false, false, false] rfl rfl (by kernel_rfl) (fun _ _ _ h => h) (Or.inl ⟨by rfl, ?_⟩) ?_ ?_
      rotate_left
      · intro w'
        go_simp
        with_reducible rfl
      rotate_left
      · simp only [Act.put, List.setIfInBounds_toArray, List.set_cons_zero, List.set_cons_succ]
        rfl
      refine pure_ (i := 4) (N := some 58) (v := ?_) (a' := ?_) #[false, true, true, true, true, false, false, false, false, false, false, false] rfl rfl (by kernel_rfl) (fun _ _ _ h => h) (Or.inl ⟨by rfl, ?_⟩) ?_ ?_
      rotate_left
      · intro w'
        go_simp
        with_reducible rfl
      rotate_left
      · simp only [Act.put, List.setIfInBounds_toArray, List.set_cons_zero, List.set_cons_succ]
        rfl
      refine take_ (i := 5) (N := some 59) (v := (.string x.f0)) (a' := ?_) #[false, true, true, true, true, true, false, false, false, false, false, false] rfl rfl (by kernel_rfl) (fun _ _ _ h => h) (Or.inl ⟨by rfl, ?_⟩) hHeld ?_ ?_
      rotate_left
      rotate_left
      · simp only [Act.put, List.setIfInBounds_toArray, List.set_cons_zero, List.set_cons_succ]
        rfl
      rotate_left
      · rintro w' ⟨s0, s1, s2⟩
        go_simp
      refine one_ (i := 0) (N := some 54) #[true, true, true, true, true, true, false, false, false, false, false, false] rfl rfl (by kernel_rfl) (by decide) (fun K hK => ?_)
      refine goes_ Try.func12 (by kernel_rfl) rfl #[] (by rfl) rfl rfl (by simp only [List.map_toArray, List.map_nil]) ?_
      refine (HN.out _).mono ?_
      rintro e wc ⟨A, c, A5, c5, rfl, hc, hC, hc5, hC5, hb⟩
      have H2 := Aside0.mk hC
      refine ⟨_, rfl, hK.out _ _ ⟨cell_step hHeld.1 hb, cell_step hHeld.2.1 hb, below_step hHeld.2.2 hb⟩ (fun hHeld => ?_)⟩
      clear hb hc hC hc5 hC5
      clear hK K
      simp only [Act.put, List.setIfInBounds_toArray, List.set_cons_zero, List.set_cons_succ]
      refine one_ (i := 6) (N := some 60) #[true, true, true, true, true, true, true, false, false, false, false, false] rfl rfl (by kernel_rfl) (by decide) (fun K hK => ?_)
      refine goes_ Try.func16 (by kernel_rfl) rfl #[.agg #[.slice none 0 0, .slice none 0 0, .slice A 111 c, .slice none 0 0, .int .u32 16, .slice A5 1 c5, .int .i64 (-1), .slice none 0 0, .int .i64 (-1), .string ⟨#[]⟩], .string x.f0] (by rfl) rfl rfl (by first | rfl | (simp only [List.map_toArray, List.map_cons, List.map_nil]; rfl)) ?_
      refine (HF.out A c A5 c5 _ H2.out).mono ?_
      rintro e wb ⟨rfl, hb⟩
      refine ⟨_, rfl, hK.out _ _ ⟨cell_step hHeld.1 hb, cell_step hHeld.2.1 hb, below_step hHeld.2.2 hb⟩ (fun hHeld => ?_)⟩
      clear hb
      clear hK K
      simp only [Act.put, List.setIfInBounds_toArray, List.set_cons_zero, List.set_cons_succ]
      refine pure_ (i := 7) (N := some 53) (v := ?_) (a' := ?_) #[true, true, true, true, true, true, true, true, false, false, false, false] rfl rfl (by kernel_rfl) (fun _ _ _ h => h) (Or.inl ⟨by rfl, ?_⟩) ?_ ?_
      rotate_left
      · intro w'
        go_simp
        with_reducible rfl
      rotate_left
      · simp only [Act.put, List.setIfInBounds_toArray, List.set_cons_zero, List.set_cons_succ]
        rfl
      refine pure_ (i := 8) (N := some 61) (v := ?_) (a' := ?_) #[true, true, true, true, true, true, true, true, true, false, false, false] rfl rfl (by kernel_rfl) (fun _ _ _ h => h) (Or.inl ⟨by rfl, ?_⟩) ?_ ?_
      rotate_left
      · intro w'
        go_simp
        with_reducible rfl
      rotate_left
      · simp only [Act.put, List.setIfInBounds_toArray, List.set_cons_zero, List.set_cons_succ]
        rfl
      refine pure_ (i := 9) (N := some 62) (v := ?_) (a' := ?_) #[true, true, true, true, true, true, true, true, true, true, false, false] rfl rfl (by kernel_rfl) (fun _ _ _ h => h) (Or.inl ⟨by rfl, ?_⟩) ?_ ?_
      rotate_left
      · intro w'
        go_simp
        with_reducible rfl
      rotate_left
      · simp only [Act.put, List.setIfInBounds_toArray, List.set_cons_zero, List.set_cons_succ]
        rfl
      refine pure_ (i := 10) (N := some 6) (v := ?_) (a' := ?_) #[true, true, true, true, true, true, true, true, true, true, true, false] rfl rfl (by kernel_rfl) (fun _ _ _ h => h) (Or.inl ⟨by rfl, ?_⟩) ?_ ?_
      rotate_left
      · intro w'
        go_simp
        with_reducible rfl
      rotate_left
      · simp only [Act.put, List.setIfInBounds_toArray, List.set_cons_zero, List.set_cons_succ]
        rfl
      refine pure_ (i := 11) (N := some 7) (v := ?_) (a' := ?_) #[true, true, true, true, true, true, true, true, true, true, true, true] rfl rfl (by kernel_rfl) (fun _ _ _ h => h) (Or.inl ⟨by rfl, ?_⟩) ?_ ?_
      rotate_left
      · intro w'
        go_simp
        with_reducible rfl
      rotate_left
      · simp only [Act.put, List.setIfInBounds_toArray, List.set_cons_zero, List.set_cons_succ]
        rfl
      have hx0' := hHeld.1
      have hx1' := hHeld.2.1
      have HBn := Aside0.mk (below_step HB.out hHeld.2.2)
      clear hHeld hx0 hx1 H2 HB
      have hx0 := hx0'
      have hx1 := hx1'
      have HB := HBn
      clear hx0' hx1' HBn
      refine done_ (n := 0) (by kernel_rfl) ?_
      go_wp2
      refine start_ (n := 12) (S := fun w' => w'.cell? (ad.add (n.toNat * 2)) = some (.string x.f0) ∧ w'.cell? ⟨(ad.add (n.toNat * 2)).block, (ad.add (n.toNat * 2)).off + 1, none⟩ = some (.int .i64 x.f1) ∧ Below wb.heap.size wb w') (ds := []) #[false, false, false, false, false, false, false, false, false, false, false, false] (by kernel_rfl) rfl rfl ⟨hx0, hx1, below_drew1 (Below.refl wb.heap.size wb)⟩ (fun hHeld => ?_)
      refine pure_ (i := 1) (N := some 65) (v := ?_) (a' := ?_) #[false, true, false, false, false, false, false, false, false, false, false, false] rfl rfl (by kernel_rfl) (fun _ _ _ h => h) (Or.inl ⟨by rfl, ?_⟩) ?_ ?_
      rotate_left
      · intro w'
        go_simp
        with_reducible rfl
      rotate_left
      · simp only [Act.put, List.setIfInBounds_toArray, List.set_cons_zero, List.set_cons_succ]
        rfl
      refine pure_ (i := 2) (N := some 66) (v := ?_) (a' := ?_) #[false, true, true, false, false, false, false, false, false, false, false, false] rfl rfl (by kernel_rfl) (fun _ _ _ h => h) (Or.inl ⟨by rfl, ?_⟩) ?_ ?_
      rotate_left
      · intro w'
        go_simp
        with_reducible rfl
      rotate_left
      · simp only [Act.put, List.setIfInBounds_toArray, List.set_cons_zero, List.set_cons_succ]
        rfl
      refine pure_ (i := 3) (N := some 67) (v := ?_) (a' := ?_) #[false, true, true, true, false, false, false, false, false, false, false, false] rfl rfl (by kernel_rfl) (fun _ _ _ h => h) (Or.inl ⟨by rfl, ?_⟩) ?_ ?_
      rotate_left
      · intro w'
        go_simp
        with_reducible rfl
      rotate_left
      · simp only [Act.put, List.setIfInBounds_toArray, List.set_cons_zero, List.set_cons_succ]
        rfl
      refine pure_ (i := 4) (N := some 68) (v := ?_) (a' := ?_) #[false, true, true, true, true, false, false, false, false, false, false, false] rfl rfl (by kernel_rfl) (fun _ _ _ h => h) (Or.inl ⟨by rfl, ?_⟩) ?_ ?_
      rotate_left
      · intro w'
        go_simp
        with_reducible rfl
      rotate_left
      · simp only [Act.put, List.setIfInBounds_toArray, List.set_cons_zero, List.set_cons_succ]
        rfl
      refine take_ (i := 5) (N := some 69) (v := (.int .i64 x.f1)) (a' := ?_) #[false, true, true, true, true, true, false, false, false, false, false, false] rfl rfl (by kernel_rfl) (fun _ _ _ h => h) (Or.inl ⟨by rfl, ?_⟩) hHeld ?_ ?_
      rotate_left
      rotate_left
      · simp only [Act.put, List.setIfInBounds_toArray, List.set_cons_zero, List.set_cons_succ]
        rfl
      rotate_left
      · rintro w' ⟨s0, s1, s2⟩
        go_simp
      refine one_ (i := 0) (N := some 64) #[true, true, true, true, true, true, false, false, false, false, false, false] rfl rfl (by kernel_rfl) (by decide) (fun K hK => ?_)
      refine goes_ Try.func12 (by kernel_rfl) rfl #[] (by rfl) rfl rfl (by simp only [List.map_toArray, List.map_nil]) ?_
      refine (HN.out _).mono ?_
      rintro e wc ⟨A, c, A5, c5, rfl, hc, hC, hc5, hC5, hb⟩
      have H2 := Aside0.mk hC
      refine ⟨_, rfl, hK.out _ _ ⟨cell_step hHeld.1 hb, cell_step hHeld.2.1 hb, below_step hHeld.2.2 hb⟩ (fun hHeld => ?_)⟩
      clear hb hc hC hc5 hC5
      clear hK K
      simp only [Act.put, List.setIfInBounds_toArray, List.set_cons_zero, List.set_cons_succ]
      refine one_ (i := 6) (N := some 70) #[true, true, true, true, true, true, true, false, false, false, false, false] rfl rfl (by kernel_rfl) (by decide) (fun K hK => ?_)
      refine goes_ Try.func17 (by kernel_rfl) rfl #[.agg #[.slice none 0 0, .slice none 0 0, .slice A 111 c, .slice none 0 0, .int .u32 16, .slice A5 1 c5, .int .i64 (-1), .slice none 0 0, .int .i64 (-1), .string ⟨#[]⟩], .int .i64 x.f1] (by rfl) rfl rfl (by first | rfl | (simp only [List.map_toArray, List.map_cons, List.map_nil]; rfl)) ?_
      refine (HCO.out A c A5 c5 _).mono ?_
      rintro e wd ⟨rfl, hb⟩
      refine ⟨_, rfl, hK.out _ _ ⟨cell_step hHeld.1 hb, cell_step hHeld.2.1 hb, below_step hHeld.2.2 hb⟩ (fun hHeld => ?_)⟩
      clear hb
      clear hK K
      simp only [Act.put, List.setIfInBounds_toArray, List.set_cons_zero, List.set_cons_succ]
      refine pure_ (i := 7) (N := some 63) (v := ?_) (a' := ?_) #[true, true, true, true, true, true, true, true, false, false, false, false] rfl rfl (by kernel_rfl) (fun _ _ _ h => h) (Or.inl ⟨by rfl, ?_⟩) ?_ ?_
      rotate_left
      · intro w'
        go_simp
        with_reducible rfl
      rotate_left
      · simp only [Act.put, List.setIfInBounds_toArray, List.set_cons_zero, List.set_cons_succ]
        rfl
      refine pure_ (i := 8) (N := some 71) (v := ?_) (a' := ?_) #[true, true, true, true, true, true, true, true, true, false, false, false] rfl rfl (by kernel_rfl) (fun _ _ _ h => h) (Or.inl ⟨by rfl, ?_⟩) ?_ ?_
      rotate_left
      · intro w'
        go_simp
        with_reducible rfl
      rotate_left
      · simp only [Act.put, List.setIfInBounds_toArray, List.set_cons_zero, List.set_cons_succ]
        rfl
      refine pure_ (i := 9) (N := some 72) (v := ?_) (a' := ?_) #[true, true, true, true, true, true, true, true, true, true, false, false] rfl rfl (by kernel_rfl) (fun _ _ _ h => h) (Or.inl ⟨by rfl, ?_⟩) ?_ ?_
      rotate_left
      · intro w'
        go_simp
        with_reducible rfl
      rotate_left
      · simp only [Act.put, List.setIfInBounds_toArray, List.set_cons_zero, List.set_cons_succ]
        rfl
      refine pure_ (i := 10) (N := some 8) (v := ?_) (a' := ?_) #[true, true, true, true, true, true, true, true, true, true, true, false] rfl rfl (by kernel_rfl) (fun _ _ _ h => h) (Or.inl ⟨by rfl, ?_⟩) ?_ ?_
      rotate_left
      · intro w'
        go_simp
        with_reducible rfl
      rotate_left
      · simp only [Act.put, List.setIfInBounds_toArray, List.set_cons_zero, List.set_cons_succ]
        rfl
      refine pure_ (i := 11) (N := some 9) (v := ?_) (a' := ?_) #[true, true, true, true, true, true, true, true, true, true, true, true] rfl rfl (by kernel_rfl) (fun _ _ _ h => h) (Or.inl ⟨by rfl, ?_⟩) ?_ ?_
      rotate_left
      · intro w'
        go_simp
        with_reducible rfl
      rotate_left
      · simp only [Act.put, List.setIfInBounds_toArray, List.set_cons_zero, List.set_cons_succ]
        rfl
      have hx0' := hHeld.1
      have hx1' := hHeld.2.1
      have HBn := Aside0.mk (below_step HB.out hHeld.2.2)
      clear hHeld hx0 hx1 H2 HB
      have hx0 := hx0'
      have hx1 := hx1'
      have HB := HBn
      clear hx0' hx1' HBn
      refine done_ (n := 0) (by kernel_rfl) ?_
      go_wp2_with (go_at_call 18; refine (HNM.out _).mono ?_; rintro e w9 ⟨rfl, hb⟩; replace HB := Aside0.mk (below_step HB.out hb); clear hb)
      go_ret
      exact ⟨rfl, HB.out⟩
end Go.Proofs.Ytfpkakedlapmkaa.Q
end
section
namespace Go.Proofs.Ytfpkakedlapmkaa.Q
open Go.RowKit Go.Proofs.YtfpkakedlapmkaaW.PrintWords Go.Proofs.YtfpkakedlapmkaaW.PrintLast Go.Proofs.YtfpkakedlapmkaaW.PrintMore
def Opens {α : Type} (P : Program) (t : TypeId) (d : Kd α) (G : α → Prop) : Prop :=
  ∀ (H : Type) (enc : TypeId × Value → H) (W : World) (fuel : Nat) (cs : List Value) (x : DataW H × List MemPlace), DataW.trod enc P W 0 (fun _ => true) true fuel t cs = some x → (∀ n ∈ x.1.weights P t, n ≤ reachBytes) → ∃ a, d.K W a cs ∧ G a
section
variable {P : Program} {t e : TypeId}
/-- The fields of a struct from one on, one behind the other. -/
def OpensFields {α : Type} (P : Program) (fs : List Field) (off : Nat) (d : Kd α) (G : α → Prop) : Prop :=
  ∀ (H : Type) (enc : TypeId × Value → H) (W : World) (fuel : Nat) (cs : List Value) (xs : List (DataW H × List MemPlace)), off + d.sz = cs.length → xs.length = fs.length →
    (∀ (i : Nat) (f : Field), fs[i]? = some f → DataW.trod enc P W 0 (fun _ => true) true fuel f.type ((cs.drop f.offset).take (P.cellsOf f.type)) = xs[i]?) →
    (∀ n ∈ DataW.weightsEach P (fs.map (·.type)) (xs.map (·.1)), n ≤ reachBytes) → ∃ a, d.K W a (cs.drop off) ∧ G a
end
end Go.Proofs.Ytfpkakedlapmkaa.Q
end
