/- The walk of the law BlockBytes. -/
import Derived.Test.YtpjlhehmobhijaaHBlockGetP
import Derived.Test.YtpjlhehmobhijaaHBlockRefs
import Derived.Test.YtpjlhehmobhijaaHAlive
namespace Go.Proofs.Ytpjlhehmobhijaa.Q
open Go.RowKit Go.Proofs.YtpjlhehmobhijaaW.PrintWords Go.Proofs.YtpjlhehmobhijaaW.PrintLast Go.Proofs.YtpjlhehmobhijaaW.PrintMore
set_option maxHeartbeats 4000000 in
set_option maxRecDepth 100000 in
theorem blockBytes_walk (A0 : Option Addr) (c0 : Nat) (l0 : List Int) (x y : Int) (A2 : Option Addr) (c2 : Nat) (l2 : List Int) (w : World) (hr0 : Kd.C (Kd.int .u8) w A0 l0.length l0) (hc0 : l0.length ≤ c0) (hl0 : l0.length ≤ 140737488351232) (hr2 : Kd.C (Kd.int .u8) w A2 l2.length l2) (hc2 : l2.length ≤ c2) (hl2 : l2.length ≤ 140737488351232) :
    Calls Try.prog 6 #[.slice A0 l0.length c0, .agg #[.int .i64 x, .int .i64 y], .slice A2 l2.length c2] w fun e w' => e = .returned (.bool true) ∧ Below w.heap.size w w' := by
  obtain ⟨gx, ge, hG⟩ : ∃ gx ge, block_Get.f 50000 l0 x y = some (gx, ge) := ⟨_, _, (block_Get_eq l0 x y 50000 hl0 (by omega)).trans rfl⟩
  have hG2 : tinderref20_Get.f l0 x y = some (gx, ge) := by rw [← hG, block_Get_eq l0 x y 50000 hl0 (by omega), ref20_Get_eq l0 x y hl0]
  obtain ⟨px, pe, hP⟩ : ∃ px pe, block_Put.f l0 x l2 = some (px, pe) := by
    unfold block_Put.f
    rw [if_pos hl0]
    split
    · split <;> exact ⟨_, _, rfl⟩
    · exact ⟨_, _, rfl⟩
  have hP2 : tinderref20_Put.f l0 x l2 = some (px, pe) := by rw [ref20_Put_eq l0 x l2 hl0 hl2, hP]
  have HCp := Aside0.mk (ref04_Copy_eq l0 hl0)
  have HG := Aside0.mk hG
  have HG2 := Aside0.mk hG2
  have HP := Aside0.mk hP
  have HP2 := Aside0.mk hP2
  have HR0 := Aside0.mk hr0
  have HC0 := Aside0.mk hc0
  have HR2 := Aside0.mk hr2
  have HC2 := Aside0.mk hc2
  clear hr0 hc0 hl0 hr2 hc2 hl2 hG hG2 hP hP2
  go_enter Try.func6, Try.ntmps6
  go_wp2_with (first
    | (go_at_call 8; refine (tinderlaw20_alive.calls 10 true _ (alive20 10 (by omega))).mono ?_; rintro e w1 ⟨rfl, hb⟩; have HB := Aside0.mk (below_step (below_alloc (Below.refl _ _) _) hb); have BK := Aside0.mk (blk_below (blk_new w _) hb); have hz0 : w1.cell? ⟨w.heap.size, 0, none⟩ = some (.int .i64 x) := (blk_cell BK.out 0).trans rfl; have hz1 : w1.cell? ⟨w.heap.size, 1, none⟩ = some (.int .i64 y) := (blk_cell BK.out 1).trans rfl; clear hb)
    | (go_at_call 11; refine (tinderref04_Copy.calls _ _ _ _ _ (Kd.C_below HR0.out HB.out) HC0.out HCp.out).mono ?_; rintro e w2 ⟨vo, rfl, ho, hb⟩; obtain ⟨Avo, cvo, rfl⟩ := Kd.R_slice ho; have HO := Aside0.mk (Kd.R_lower ho HB.out.size); have HB' := Aside0.mk (below_step HB.out hb); clear HB; have HB := HB'; clear HB'; have BK' := Aside0.mk (blk_below BK.out hb); clear BK; have BK := BK'; clear BK'; clear hz0 hz1 ho hb; have hz0 : w2.cell? ⟨w.heap.size, 0, none⟩ = some (.int .i64 x) := (blk_cell BK.out 0).trans rfl; have hz1 : w2.cell? ⟨w.heap.size, 1, none⟩ = some (.int .i64 y) := (blk_cell BK.out 1).trans rfl)
    | (go_at_call 20; refine (block_Get.calls 50000 _ _ _ _ _ _ _ _ (Kd.R_reads' HO.out).2.2 (Kd.R_reads' HO.out).2.1 HG.out).mono ?_; rintro e w3 ⟨vx, rfl, ho, hb⟩; obtain ⟨Avx, cvx, rfl⟩ := Kd.R_slice ho; have HO' := Aside0.mk (Kd.R_below HO.out hb); clear HO; have HO := HO'; clear HO'; have HX := Aside0.mk (Kd.R_lower ho HB.out.size); have HB' := Aside0.mk (below_step HB.out hb); clear HB; have HB := HB'; clear HB'; have BK' := Aside0.mk (blk_below BK.out hb); clear BK; have BK := BK'; clear BK'; clear hz0 hz1 ho hb; have hz0 : w3.cell? ⟨w.heap.size, 0, none⟩ = some (.int .i64 x) := (blk_cell BK.out 0).trans rfl; have hz1 : w3.cell? ⟨w.heap.size, 1, none⟩ = some (.int .i64 y) := (blk_cell BK.out 1).trans rfl)
    | (go_at_call 21; refine (tinderref20_Get.calls _ _ _ _ _ _ _ _ (Kd.C_below HR0.out HB.out) HC0.out HG2.out).mono ?_; rintro e w4 ⟨vy, rfl, ho, hb⟩; obtain ⟨Avy, cvy, rfl⟩ := Kd.R_slice ho; have HO' := Aside0.mk (Kd.R_below HO.out hb); clear HO; have HO := HO'; clear HO'; have HX' := Aside0.mk (Kd.R_below HX.out hb); clear HX; have HX := HX'; clear HX'; have HY := Aside0.mk (Kd.R_lower ho HB.out.size); have HB' := Aside0.mk (below_step HB.out hb); clear HB; have HB := HB'; clear HB'; have BK' := Aside0.mk (blk_below BK.out hb); clear BK; have BK := BK'; clear BK'; clear hz0 hz1 ho hb; have hz0 : w4.cell? ⟨w.heap.size, 0, none⟩ = some (.int .i64 x) := (blk_cell BK.out 0).trans rfl; have hz1 : w4.cell? ⟨w.heap.size, 1, none⟩ = some (.int .i64 y) := (blk_cell BK.out 1).trans rfl)
    | (go_at_call 19; refine (block_Put.calls _ _ _ _ _ _ _ _ _ _ (Kd.R_reads' HO.out).2.2 (Kd.R_reads' HO.out).2.1 (Kd.C_below HR2.out HB.out) HC2.out HP.out).mono ?_; rintro e w5 ⟨vp, rfl, ho, hb⟩; obtain ⟨Avp, cvp, rfl⟩ := Kd.R_slice ho; have HO' := Aside0.mk (Kd.R_below HO.out hb); clear HO; have HO := HO'; clear HO'; have HX' := Aside0.mk (Kd.R_below HX.out hb); clear HX; have HX := HX'; clear HX'; have HY' := Aside0.mk (Kd.R_below HY.out hb); clear HY; have HY := HY'; clear HY'; have HZ := Aside0.mk (Kd.R_lower ho HB.out.size); have HB' := Aside0.mk (below_step HB.out hb); clear HB; have HB := HB'; clear HB'; have BK' := Aside0.mk (blk_below BK.out hb); clear BK; have BK := BK'; clear BK'; clear hz0 hz1 ho hb; have hz0 : w5.cell? ⟨w.heap.size, 0, none⟩ = some (.int .i64 x) := (blk_cell BK.out 0).trans rfl; have hz1 : w5.cell? ⟨w.heap.size, 1, none⟩ = some (.int .i64 y) := (blk_cell BK.out 1).trans rfl)
    | (go_at_call 22; refine (tinderref20_Put.calls _ _ _ _ _ _ _ _ _ _ (Kd.C_below HR0.out HB.out) HC0.out (Kd.C_below HR2.out HB.out) HC2.out HP2.out).mono ?_; rintro e w6 ⟨vq, rfl, ho, hb⟩; obtain ⟨Avq, cvq, rfl⟩ := Kd.R_slice ho; have HO' := Aside0.mk (Kd.R_below HO.out hb); clear HO; have HO := HO'; clear HO'; have HX' := Aside0.mk (Kd.R_below HX.out hb); clear HX; have HX := HX'; clear HX'; have HY' := Aside0.mk (Kd.R_below HY.out hb); clear HY; have HY := HY'; clear HY'; have HZ' := Aside0.mk (Kd.R_below HZ.out hb); clear HZ; have HZ := HZ'; clear HZ'; have HQ := Aside0.mk (Kd.R_lower ho HB.out.size); have HB' := Aside0.mk (below_step HB.out hb); clear HB; have HB := HB'; clear HB'; have BK' := Aside0.mk (blk_below BK.out hb); clear BK; have BK := BK'; clear BK'; clear hz0 hz1 ho hb; have hz0 : w6.cell? ⟨w.heap.size, 0, none⟩ = some (.int .i64 x) := (blk_cell BK.out 0).trans rfl; have hz1 : w6.cell? ⟨w.heap.size, 1, none⟩ = some (.int .i64 y) := (blk_cell BK.out 1).trans rfl)
    | (go_at_call 16; refine (tinderref04_Same.calls _ _ _ _ _ _ true _ ?s1 ?s2 ?s3 ?s4 (ref04_Same_self _)).mono ?_; (case s1 => repeat (first | exact (Kd.R_reads' HO.out).2.2 | exact (Kd.R_reads' HX.out).2.2 | exact (Kd.R_reads' HY.out).2.2 | exact (Kd.R_reads' HZ.out).2.2 | exact (Kd.R_reads' HQ.out).2.2 | exact Kd.C_below HR0.out HB.out | (with_reducible refine Kd.C_drewN ?_ _) | (with_reducible refine Kd.C_drew ?_))); (case s3 => repeat (first | exact (Kd.R_reads' HO.out).2.2 | exact (Kd.R_reads' HX.out).2.2 | exact (Kd.R_reads' HY.out).2.2 | exact (Kd.R_reads' HZ.out).2.2 | exact (Kd.R_reads' HQ.out).2.2 | exact Kd.C_below HR0.out HB.out | (with_reducible refine Kd.C_drewN ?_ _) | (with_reducible refine Kd.C_drew ?_))); (case s2 => first | exact (Kd.R_reads' HO.out).2.1 | exact (Kd.R_reads' HX.out).2.1 | exact (Kd.R_reads' HY.out).2.1 | exact (Kd.R_reads' HZ.out).2.1 | exact (Kd.R_reads' HQ.out).2.1 | exact HC0.out); (case s4 => first | exact (Kd.R_reads' HO.out).2.1 | exact (Kd.R_reads' HX.out).2.1 | exact (Kd.R_reads' HY.out).2.1 | exact (Kd.R_reads' HZ.out).2.1 | exact (Kd.R_reads' HQ.out).2.1 | exact HC0.out); rintro e w' ⟨rfl, ⟨nd, rfl⟩⟩))
  go_ret
  exact ⟨rfl, pw_below_drewN HB.out _⟩
theorem blockBytes_row (A0 : Option Addr) (c0 : Nat) (l0 : List Int) {w : World} (hr0 : Kd.C (Kd.int .u8) w A0 l0.length l0) (hc0 : l0.length ≤ c0) (hl0 : l0.length * 1 ≤ 140737488351232 ∧ ∀ a ∈ l0, (Lit.int .u8 a).wf = true) (x y : Int) (_g : ∀ a ∈ [x, y], (Lit.int .i64 a).wf = true)
    (A2 : Option Addr) (c2 : Nat) (l2 : List Int) (hr2 : Kd.C (Kd.int .u8) w A2 l2.length l2) (hc2 : l2.length ≤ c2) (hl2 : l2.length * 1 ≤ 140737488351232 ∧ ∀ a ∈ l2, (Lit.int .u8 a).wf = true) :
    Calls Try.prog 6 #[.slice A0 l0.length c0, .agg #[.int .i64 x, .int .i64 y], .slice A2 l2.length c2] w fun e w' => e = .returned (.bool true) ∧ Below w.heap.size w w' :=
  blockBytes_walk A0 c0 l0 x y A2 c2 l2 w hr0 hc0 (by omega) hr2 hc2 (by omega)
end Go.Proofs.Ytpjlhehmobhijaa.Q
