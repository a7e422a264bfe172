/- The reference's Make. -/
import Derived.Test.YtnbomjfpnpmllaaHRefBytes
set_option linter.unusedSimpArgs false
set_option linter.unusedVariables false
namespace Go.Proofs.Ytnbomjfpnpmllaa.Q
open Go.RowKit Go.Proofs.YtnbomjfpnpmllaaW.PrintWords Go.Proofs.YtnbomjfpnpmllaaW.PrintLast Go.Proofs.YtnbomjfpnpmllaaW.PrintMore
set_option maxHeartbeats 8000000 in
set_option maxRecDepth 100000 in
theorem refMake_calls (ps : List Part) (w : World) (hl : ps.length = 8) (hr : Parts ps) :
    Calls Try.prog 11 #[.agg (partCells ps).toArray] w fun e w' => ∃ v : Value, e = .returned (.tuple #[v, .int .i64 (makeF ps).2]) ∧ Kd.R (Kd.int .u8) 5 w' w.heap.size (fun _ => True) v (makeF ps).1 ∧ Below w.heap.size w w' := by
  obtain ⟨cs, hcs⟩ : ∃ cs, cs = partCells ps := ⟨_, rfl⟩
  obtain ⟨R, hR⟩ : ∃ R, R = makeF ps := ⟨_, rfl⟩
  have HR := Aside0.mk hR
  have HBY := Aside0.mk (show ∀ W : World, Calls Try.prog 26 #[.agg cs.toArray] W (fun e w' => ∃ v : Value, e = .returned v ∧ Kd.R (Kd.int .u8) 5 w' W.heap.size (fun _ => True) v (labelF ps) ∧ Below W.heap.size W w') from fun W => hcs ▸ refBytes_calls ps W hl hr)
  rw [← hcs, ← hR]
  clear hR
  have hL : cs.length = 16 := by rw [hcs, partCells_len, hl]
  have HL := Aside0.mk hL
  have HCS := Aside0.mk hcs
  have HPL := Aside0.mk hl
  clear hL hcs hl hr
  go_enter Try.func11, Try.ntmps11
  go_wp2_with (first
    | ((with_reducible refine gate_dst (N := 1) rfl ?_); refine box_event ?hg (N := 1) ?hd (cs := cs.toArray) (t := 25) ?hr ?_; (case hd => rfl); (case hg => rfl); (case hr => first | (go_simp; done) | (go_simp; rfl)); intro gb hg w1 hbox hb; have BK := Aside0.mk hbox; have HB := Aside0.mk hb; have GB := Aside0.mk (show w.heap.size ≤ gb from hg ▸ Nat.le_refl _); clear hbox hb hg))
  go_loopg [4] 8 (fun kq v4 w' => ∃ (i : Int), v4 = .int .i64 i ∧ Aside0 (0 ≤ i ∧ i + kq = 8) ∧ Aside0 ((ps.take i.toNat).any big = false) ∧ Aside0 (w'.heap[gb]? = some (.cells cs.toArray 25 (0, 0))) ∧ Aside0 (Below w.heap.size w w'))
  case atStart => exact ⟨0, rfl, ⟨by omega, by omega⟩, ⟨rfl⟩, BK, HB⟩
  case round =>
    clear BK HB
    obtain ⟨i, rfl, HI, HA, BK, HB⟩ := hrel
    cases gk with
    | zero =>
      have hi8 : i = 8 := by have := HI.out; omega
      have hlt : decide (i < (8 : Int)) = false := decide_eq_false (by omega)
      have hA := HA.out
      rw [hi8, show (8 : Int).toNat = ps.length from HPL.out.symm, List.take_length] at hA
      have HRr := Aside0.mk (show R = (labelF ps, 0) by rw [HR.out, makeF, hA]; rfl)
      clear hA hi8 HA
      go_wp2_with (first
        | ((with_reducible refine gate_dst (N := 21) rfl ?_); refine wpList_load_any rfl 25 (.tmp 1) rfl ⟨gb, 0, none⟩ rfl cs (.array 8 24) ?hc Try.underlying25 rfl (by rw [HL.out]; exact size25) ?_; (case hc => exact fun j v hv => by rw [Addr.add_mid, Nat.zero_add, blk_cell BK.out]; simpa using hv))
        | (go_at_call 26; (with_reducible refine (HBY.out _).mono ?_); rintro e w7 ⟨v7, rfl, hR7, hb⟩; have HO7 := Aside0.mk (Kd.R_lower hR7 (below_size HB.out)); have HB7 := Aside0.mk (below_step HB.out hb); clear hR7 hb))
      refine bodyPost_ret (results_tmp2 rfl _ _ _) rfl ⟨v7, by rw [HRr.out]; rfl, by rw [HRr.out]; exact HO7.out, HB7.out⟩
    | succ k1 =>
      have hi := HI.out
      have hlt : decide (i < (8 : Int)) = true := decide_eq_true (by omega)
      have hw2 : wrap64 (i + 1) = i + 1 := by unfold wrap64; omega
      have p1 : (0 ≤ i) = True := eq_true (by omega)
      have p2 : (i < 8) = True := eq_true (by omega)
      obtain ⟨s, hs⟩ : ∃ s, s = (ps.getD i.toNat (0, 0)).1 := ⟨_, rfl⟩
      obtain ⟨c, hc⟩ : ∃ c, c = (ps.getD i.toNat (0, 0)).2 := ⟨_, rfl⟩
      have hg := partCells_get ps i.toNat (by have := HPL.out; omega)
      rw [← hs, ← hc, ← HCS.out] at hg
      have hc0 : wr.cell? ⟨gb, i.toNat * 2, none⟩ = some (.int .u32 s) := by rw [blk_cell BK.out, Nat.mul_comm]; simpa using hg.1
      have hc1 : wr.cell? ⟨gb, i.toNat * 2 + 1, none⟩ = some (.int .u32 c) := by rw [blk_cell BK.out, Nat.mul_comm]; simpa using hg.2
      have HI1 := Aside0.mk hi
      have HS := Aside0.mk hs
      have HC := Aside0.mk hc
      have HLt := Aside0.mk (show i.toNat < ps.length by have := HPL.out; omega)
      clear hg hi hs hc
      by_cases hb1 : 64 < s
      · have hd1 : decide (64 < s) = true := decide_eq_true hb1
        go_wp2
        refine bodyPost_ret (results_tmp2 rfl _ _ _) rfl ⟨.slice none 0 0, ?_, ?_, HB.out⟩
        · rw [HR.out, makeF, if_pos (any_big ps i.toNat HLt.out (by rw [big, ← HS.out, hd1]; rfl))]
          rfl
        · rw [HR.out, makeF, if_pos (any_big ps i.toNat HLt.out (by rw [big, ← HS.out, hd1]; rfl))]
          exact Kd.R_nil _ _ _ _ _
      · have hd1 : decide (64 < s) = false := decide_eq_false hb1
        by_cases hb2 : 64 < c
        · have hd2 : decide (64 < c) = true := decide_eq_true hb2
          go_wp2
          refine bodyPost_ret (results_tmp2 rfl _ _ _) rfl ⟨.slice none 0 0, ?_, ?_, HB.out⟩
          · rw [HR.out, makeF, if_pos (any_big ps i.toNat HLt.out (by rw [big, ← HC.out, hd2, Bool.or_true]))]
            rfl
          · rw [HR.out, makeF, if_pos (any_big ps i.toNat HLt.out (by rw [big, ← HC.out, hd2, Bool.or_true]))]
            exact Kd.R_nil _ _ _ _ _
        · have hd2 : decide (64 < c) = false := decide_eq_false hb2
          go_wp2
          go_roundg k1
          case measure => omega
          case rel =>
            have hi := HI1.out
            refine ⟨i + 1, rfl, ⟨by omega, by omega⟩, ⟨?_⟩, BK, HB⟩
            rw [show (i + 1).toNat = i.toNat + 1 by omega, any_take_succ ps i.toNat HLt.out, HA.out, big, ← HS.out, ← HC.out, hd1, hd2]; rfl
end Go.Proofs.Ytnbomjfpnpmllaa.Q
