/- Contracts of Go functions and plain facts, of several texts, one behind the other; no condition. -/
import Derived.Test.YtfpkakedlapmkaaMDictNewest3
import Derived.Test.YtfpkakedlapmkaaMDictNewest6
import Derived.Test.YtfpkakedlapmkaaMDictNewest5
section
set_option linter.unusedSimpArgs false
set_option linter.unusedVariables false
namespace Go.Proofs.Ytfpkakedlapmkaa.Q
open Go.RowKit Go.Proofs.YtfpkakedlapmkaaW.PrintWords Go.Proofs.YtfpkakedlapmkaaW.PrintLast
def root91 : S91 := ⟨⟨#[]⟩, [], -1, [], []⟩
theorem treeF_root : treeF [root91] = true := by kernel_rfl
theorem wordsF_new : wordsF primsL (wordsN primsL 111) = true := by kernel_rfl
set_option maxHeartbeats 2000000 in
set_option maxRecDepth 100000 in
theorem formedNew (Av : Option Addr) (c : Nat) (A5 : Option Addr) (c5 : Nat) (w : World) (hC : Kd.C k51 w Av 111 (wordsN primsL 111)) (hc : 111 ≤ c) (hT : Kd.C k91 w A5 1 [root91]) (hc5 : 1 ≤ c5) :
    Calls Try.prog 26 #[.agg (mcells (.slice Av 111 c) (.slice A5 1 c5))] w fun e w' => e = .returned (.bool true) ∧ Below w.heap.size w w' := by
  obtain ⟨l, hl⟩ : ∃ l, l = wordsN primsL 111 := ⟨_, rfl⟩
  have hlen : l.length = 111 := by rw [hl]; exact wordsN_len primsL 111 (by rw [primsL_len]; omega)
  have hF : wordsF primsL l = true := by rw [hl]; exact wordsF_new
  rw [← hl] at hC
  clear hl
  have HTF := Aside0.mk (fun (X : World) (hX : Below w.heap.size w X) => treeFormed_calls A5 c5 [root91] X (Kd.C_below hT hX) hc5)
  rw [treeF_root] at HTF
  obtain ⟨ad, rfl⟩ : ∃ ad, Av = some ad := by
    rw [← hlen] at hC
    obtain ⟨ad, _, _, hA, _⟩ := at_T51 hC 0 (by omega) (by omega)
    exact ⟨ad, hA⟩
  have HI := Aside0.mk (fun X : World => instsRight_nil (.slice none 0 0) (.slice none 0 0) (.slice (some ad) 111 c) (.slice none 0 0) 16 (.slice A5 1 c5) (-1) none 0 ⟨#[]⟩ X)
  have HWR := Aside0.mk (show ∀ X : World, Below w.heap.size w X → Calls Try.prog 47 #[.agg (mcells (.slice (some ad) 111 c) (.slice A5 1 c5))] X fun e w' => e = .returned (.bool true) ∧ Below X.heap.size X w' from fun X hX => by
    have hCX := Kd.C_below hC hX
    rw [← hlen] at hCX
    have h := wordsRight_calls primsL primsL_len prims_exact (.slice none 0 0) (.slice none 0 0) ad c l (.slice none 0 0) 16 (.slice A5 1 c5) (-1) (.slice none 0 0) (-1) ⟨#[]⟩ X hCX (by omega) (by omega) (by omega) false (fun Y hY _ => by
      have h0 : l.length - 111 = 0 := by omega
      rw [h0]
      refine (containsW_nil _ _ _ Y).mono ?_
      rintro e w' ⟨rfl, rfl⟩
      exact ⟨rfl, Below.refl _ _⟩)
    rw [hF, hlen] at h
    exact h)
  have HB := Aside0.mk (Below.refl w.heap.size w)
  clear hC hT hF hlen hc hc5
  unfold mcells at HWR ⊢
  have BK := Aside0.mk (blk_new w (.cells #[.slice none 0 0, .slice none 0 0, .slice (some ad) 111 c, .slice none 0 0, .int .u32 16, .slice A5 1 c5, .int .i64 (-1), .slice none 0 0, .int .i64 (-1), .string ⟨#[]⟩] 32 (0, 0)))
  go_enter Try.func26, Try.ntmps26
  go_wp2_with (first
    | (go_at_call 44; refine (HTF.out _ (below_alloc (Below.refl _ _) _)).mono ?_; rintro e w1 ⟨rfl, hb⟩; replace BK := Aside0.mk (blk_below BK.out hb); replace HB := Aside0.mk (below_step (below_alloc (Below.refl _ _) _) hb); clear hb; have z1_0 : w1.cell? ⟨w.heap.size, 0, none⟩ = some (.slice none 0 0) := (blk_cell BK.out 0).trans rfl; have z1_1 : w1.cell? ⟨w.heap.size, 1, none⟩ = some (.slice none 0 0) := (blk_cell BK.out 1).trans rfl; have z1_2 : w1.cell? ⟨w.heap.size, 2, none⟩ = some (.slice (some ad) 111 c) := (blk_cell BK.out 2).trans rfl; have z1_3 : w1.cell? ⟨w.heap.size, 3, none⟩ = some (.slice none 0 0) := (blk_cell BK.out 3).trans rfl; have z1_4 : w1.cell? ⟨w.heap.size, 4, none⟩ = some (.int .u32 16) := (blk_cell BK.out 4).trans rfl; have z1_5 : w1.cell? ⟨w.heap.size, 5, none⟩ = some (.slice A5 1 c5) := (blk_cell BK.out 5).trans rfl; have z1_6 : w1.cell? ⟨w.heap.size, 6, none⟩ = some (.int .i64 (-1)) := (blk_cell BK.out 6).trans rfl; have z1_7 : w1.cell? ⟨w.heap.size, 7, none⟩ = some (.slice none 0 0) := (blk_cell BK.out 7).trans rfl; have z1_8 : w1.cell? ⟨w.heap.size, 8, none⟩ = some (.int .i64 (-1)) := (blk_cell BK.out 8).trans rfl; have z1_9 : w1.cell? ⟨w.heap.size, 9, none⟩ = some (.string ⟨#[]⟩) := (blk_cell BK.out 9).trans rfl)
    | (go_at_call 46; refine (HI.out _).mono ?_; rintro e w2 ⟨rfl, hb⟩; replace BK := Aside0.mk (blk_below BK.out hb); replace HB := Aside0.mk (below_step HB.out hb); clear hb; have z2_0 : w2.cell? ⟨w.heap.size, 0, none⟩ = some (.slice none 0 0) := (blk_cell BK.out 0).trans rfl; have z2_1 : w2.cell? ⟨w.heap.size, 1, none⟩ = some (.slice none 0 0) := (blk_cell BK.out 1).trans rfl; have z2_2 : w2.cell? ⟨w.heap.size, 2, none⟩ = some (.slice (some ad) 111 c) := (blk_cell BK.out 2).trans rfl; have z2_3 : w2.cell? ⟨w.heap.size, 3, none⟩ = some (.slice none 0 0) := (blk_cell BK.out 3).trans rfl; have z2_4 : w2.cell? ⟨w.heap.size, 4, none⟩ = some (.int .u32 16) := (blk_cell BK.out 4).trans rfl; have z2_5 : w2.cell? ⟨w.heap.size, 5, none⟩ = some (.slice A5 1 c5) := (blk_cell BK.out 5).trans rfl; have z2_6 : w2.cell? ⟨w.heap.size, 6, none⟩ = some (.int .i64 (-1)) := (blk_cell BK.out 6).trans rfl; have z2_7 : w2.cell? ⟨w.heap.size, 7, none⟩ = some (.slice none 0 0) := (blk_cell BK.out 7).trans rfl; have z2_8 : w2.cell? ⟨w.heap.size, 8, none⟩ = some (.int .i64 (-1)) := (blk_cell BK.out 8).trans rfl; have z2_9 : w2.cell? ⟨w.heap.size, 9, none⟩ = some (.string ⟨#[]⟩) := (blk_cell BK.out 9).trans rfl)
    | (go_at_call 47; refine (HWR.out _ HB.out).mono ?_; rintro e w3 ⟨rfl, hb⟩; replace BK := Aside0.mk (blk_below BK.out hb); replace HB := Aside0.mk (below_step HB.out hb); clear hb; have z3_0 : w3.cell? ⟨w.heap.size, 0, none⟩ = some (.slice none 0 0) := (blk_cell BK.out 0).trans rfl; have z3_1 : w3.cell? ⟨w.heap.size, 1, none⟩ = some (.slice none 0 0) := (blk_cell BK.out 1).trans rfl; have z3_2 : w3.cell? ⟨w.heap.size, 2, none⟩ = some (.slice (some ad) 111 c) := (blk_cell BK.out 2).trans rfl; have z3_3 : w3.cell? ⟨w.heap.size, 3, none⟩ = some (.slice none 0 0) := (blk_cell BK.out 3).trans rfl; have z3_4 : w3.cell? ⟨w.heap.size, 4, none⟩ = some (.int .u32 16) := (blk_cell BK.out 4).trans rfl; have z3_5 : w3.cell? ⟨w.heap.size, 5, none⟩ = some (.slice A5 1 c5) := (blk_cell BK.out 5).trans rfl; have z3_6 : w3.cell? ⟨w.heap.size, 6, none⟩ = some (.int .i64 (-1)) := (blk_cell BK.out 6).trans rfl; have z3_7 : w3.cell? ⟨w.heap.size, 7, none⟩ = some (.slice none 0 0) := (blk_cell BK.out 7).trans rfl; have z3_8 : w3.cell? ⟨w.heap.size, 8, none⟩ = some (.int .i64 (-1)) := (blk_cell BK.out 8).trans rfl; have z3_9 : w3.cell? ⟨w.heap.size, 9, none⟩ = some (.string ⟨#[]⟩) := (blk_cell BK.out 9).trans rfl)
    | (go_at_call 48; refine (containsI_nil _ _ _ _).mono ?_; rintro e w4 ⟨rfl, rfl⟩))
  go_ret
  exact ⟨rfl, HB.out⟩
end Go.Proofs.Ytfpkakedlapmkaa.Q
end
section
set_option linter.unusedSimpArgs false
set_option linter.unusedVariables false
namespace Go.Proofs.Ytfpkakedlapmkaa.Q
open Go.RowKit Go.Proofs.YtfpkakedlapmkaaW.PrintWords Go.Proofs.YtfpkakedlapmkaaW.PrintLast
def dupB : ByteArray := ⟨#[100, 117, 112]⟩
theorem lastP_dup : lastP (isN51 dupB) (wordsN primsL 111) = (41, true) := by kernel_rfl
theorem primIdx_dup : primIdx primsL 71 = (41, true) := by kernel_rfl
theorem new2 (w : World) : Calls Try.prog 12 #[] w fun e w' => ∃ A c A5 c5, e = .returned (.agg (mcells (.slice A 111 c) (.slice A5 1 c5))) ∧ 111 ≤ c ∧ Kd.C k51 w' A 111 (wordsN primsL 111) ∧ 1 ≤ c5 ∧ Kd.C k91 w' A5 1 [root91] ∧ Below w.heap.size w w' := by
  refine (new_calls primsL primsL_len prims_exact w).mono ?_
  rintro e w' ⟨v, v5, rfl, hv, hv5, hb⟩
  obtain ⟨A, c, rfl, hc, hC⟩ := Kd.R_reads hv
  obtain ⟨A5, c5, rfl, hc5, hC5⟩ := Kd.R_reads hv5
  have hl : (wordsN primsL 111).length = 111 := wordsN_len primsL 111 (by rw [primsL_len]; omega)
  rw [hl] at hc hC ⊢
  exact ⟨A, c, A5, c5, rfl, hc, hC, hc5, hC5, hb⟩
theorem find_new (A : Option Addr) (c : Nat) (A5 : Option Addr) (c5 : Nat) (X : World) (hC : Kd.C k51 X A 111 (wordsN primsL 111)) :
    Calls Try.prog 16 #[.agg (mcells (.slice A 111 c) (.slice A5 1 c5)), .string dupB] X fun e w' => e = .returned (.tuple #[.int .i64 41, .bool true]) ∧ Below X.heap.size X w' := by
  have hl : (wordsN primsL 111).length = 111 := wordsN_len primsL 111 (by rw [primsL_len]; omega)
  have hC2 := hC
  rw [← hl] at hC2
  have h := find_calls (.slice none 0 0) (.slice none 0 0) A c (wordsN primsL 111) (.slice none 0 0) 16 (.slice A5 1 c5) (-1) (.slice none 0 0) (-1) ⟨#[]⟩ dupB X (by rw [hl]; exact hC)
  rw [lastP_dup, hl] at h
  exact h
theorem code_new (A : Option Addr) (c : Nat) (A5 : Option Addr) (c5 : Nat) (X : World) :
    Calls Try.prog 17 #[.agg (mcells (.slice A 111 c) (.slice A5 1 c5)), .int .i64 71] X fun e w' => e = .returned (.tuple #[.int .i64 41, .bool true]) ∧ Below X.heap.size X w' := by
  have h := code_low primsL primsL_len prims_exact (.slice none 0 0) (.slice none 0 0) (.slice A 111 c) (.slice none 0 0) 16 (.slice A5 1 c5) (-1) (.slice none 0 0) (-1) ⟨#[]⟩ 71 (by omega) X
  rw [primIdx_dup] at h
  exact h
set_option maxHeartbeats 2000000 in
set_option maxRecDepth 100000 in
theorem alive_calls (w : World) : Calls Try.prog 10 #[] w fun e w' => e = .returned (.bool true) ∧ Below w.heap.size w w' := by
  have HB := Aside0.mk (Below.refl w.heap.size w)
  have HN := Aside0.mk new2
  have HFD := Aside0.mk find_new
  have HCD := Aside0.mk code_new
  have HFM := Aside0.mk formedNew
  unfold mcells dupB at HFD
  unfold mcells at HN HCD HFM
  go_enter Try.func10, Try.ntmps10
  go_wp2_with (first
    | (go_at_call 12; refine (HN.out _).mono ?_; rintro e w1 ⟨A, c, A5, c5, rfl, hc, hC, hc5, hC5, hb⟩; replace HB := Aside0.mk (below_step HB.out hb); have H1 := Aside0.mk hc; have H2 := Aside0.mk hC; have H3 := Aside0.mk hc5; have H4 := Aside0.mk hC5; clear hb hc hC hc5 hC5)
    | (go_at_call 16; refine (HFD.out _ _ _ _ _ H2.out).mono ?_; rintro e w2 ⟨rfl, hb⟩; replace HB := Aside0.mk (below_step HB.out hb); clear hb)
    | (go_at_call 17; refine (HCD.out _ _ _ _ _).mono ?_; rintro e w2 ⟨rfl, hb⟩; replace HB := Aside0.mk (below_step HB.out hb); clear hb)
    | (go_at_call 26; refine (HFM.out _ _ _ _ _ H2.out H1.out H4.out H3.out).mono ?_; rintro e w2 ⟨rfl, hb⟩; replace HB := Aside0.mk (below_step HB.out hb); clear hb))
  go_ret
  exact ⟨rfl, HB.out⟩
def tinderlaw09_alive.f : Option Bool := some true
theorem tinderlaw09_alive.calls (r : Bool) (w : World) (h : tinderlaw09_alive.f = some r) : Calls Try.prog 10 #[] w fun e w' => e = .returned (.bool r) ∧ Below w.heap.size w w' := by
  obtain rfl := Option.some.inj h
  exact alive_calls w
end Go.Proofs.Ytfpkakedlapmkaa.Q
end
