/- The walk of the law LabelParses. -/
import Derived.Test.YtnbomjfpnpmllaaHLabelQ
import Derived.Test.YtnbomjfpnpmllaaHMakesW
set_option linter.unusedSimpArgs false
set_option linter.unusedVariables false
namespace Go.Proofs.Ytnbomjfpnpmllaa.Q
open Go.RowKit Go.Proofs.YtnbomjfpnpmllaaW.PrintWords Go.Proofs.YtnbomjfpnpmllaaW.PrintLast Go.Proofs.YtnbomjfpnpmllaaW.PrintMore
theorem bytes_of_good {l : List Int} (g : ∀ a ∈ l, (Lit.int .u8 a).wf = true) : Bytes l := fun a ha => by
  have h := g a ha
  simp only [Lit.wf, Bool.and_eq_true, decide_eq_true_eq, show IntKind.u8.min = 0 from rfl, show IntKind.u8.max = 255 from rfl] at h
  exact ⟨h.1, Int.lt_of_le_of_lt h.2 (by decide)⟩
theorem parseF_len (l : List Int) : (parseF l).1.length = 8 := by
  unfold parseF
  split
  · split
    · exact partsN_len l
    · rfl
  · rfl
set_option maxHeartbeats 8000000 in
set_option maxRecDepth 100000 in
theorem labelParses_row (A : Option Addr) (c : Nat) (l : List Int) {w : World} (hC : Kd.C (Kd.int .u8) w A l.length l) (hc : l.length ≤ c) (hg : l.length * 1 ≤ 140737488351232 ∧ ∀ a ∈ l, (Lit.int .u8 a).wf = true) (s : ByteArray) (hs : s.size ≤ 140737488351232) :
    Calls Try.prog 4 #[.slice A l.length c, .string s] w fun e w' => e = .returned (.bool true) ∧ Below w.heap.size w w' := by
  have hb := bytes_of_good hg.2
  obtain ⟨qs, hqs⟩ : ∃ qs, qs = (parseF l).1 := ⟨_, rfl⟩
  obtain ⟨g0, hg0⟩ : ∃ g0, g0 = (parseF l).2 := ⟨_, rfl⟩
  obtain ⟨k, hk⟩ : ∃ k, k = (selF s).1 := ⟨_, rfl⟩
  obtain ⟨t, ht⟩ : ∃ t, t = (selF s).2.1 := ⟨_, rfl⟩
  obtain ⟨e0, he0⟩ : ∃ e0, e0 = (selF s).2.2 := ⟨_, rfl⟩
  have HP := Aside0.mk (show ∀ W : World, Below w.heap.size w W → Calls Try.prog 13 #[.slice A l.length c] W (fun e w' => e = .returned (.tuple #[.agg (partCells qs).toArray, .int .i64 g0]) ∧ Below W.heap.size W w') from fun W hW => by
    rw [hqs, hg0]; exact parse_calls A c l W (Kd.C_below hC hW) hc)
  have HQ := Aside0.mk (show ∀ W : World, Below w.heap.size w W → Calls Try.prog 14 #[.slice A l.length c] W (fun e w' => e = .returned (.tuple #[.agg (partCells qs).toArray, .int .i64 g0]) ∧ Below W.heap.size W w') from fun W hW => by
    rw [hqs, hg0, ← parse_ref l hb]; exact refParse_calls A c l W (Kd.C_below hC hW) hc)
  have HS := Aside0.mk (show ∀ W : World, Calls Try.prog 15 #[.string s] W (fun e w' => e = .returned (.tuple #[.int .i64 k, .string t, .int .i64 e0]) ∧ Below W.heap.size W w') from fun W => by
    rw [hk, ht, he0]; exact select_calls s W hs)
  have HT := Aside0.mk (show ∀ W : World, Calls Try.prog 16 #[.string s] W (fun e w' => e = .returned (.tuple #[.int .i64 k, .string t, .int .i64 e0]) ∧ Below W.heap.size W w') from fun W => by
    refine (tinderref21_Select.calls 5 s k t e0 W (by rw [refSel_eq, hk, ht, he0])).mono ?_
    rintro e w' ⟨rfl, h⟩
    exact ⟨rfl, h.below⟩)
  have HQL := Aside0.mk (show qs.length = 8 by rw [hqs]; exact parseF_len l)
  clear hqs hg0 hk ht he0 hC hc hg hb hs
  go_enter Try.func4, Try.ntmps4
  go_wp2_with (first
    | (go_at_call 9; (with_reducible refine (alive_calls _).mono ?_); rintro e w2 ⟨rfl, hb⟩; have HB2 := Aside0.mk hb; clear hb)
    | (go_at_call 13; (with_reducible refine (HP.out _ HB2.out).mono ?_); rintro e w3 ⟨rfl, hb⟩; have HB3 := Aside0.mk (below_step HB2.out hb); clear hb)
    | ((with_reducible refine gate_ (.store 25 (.tmp 5) (.tmp 20)) rfl ?_); refine store_parts rfl (.tmp 5) (.tmp 20) rfl w3.heap.size noParts qs rfl rfl (blk_new w3 _) noParts_len HQL.out ?_; intro w4 h4 hg4; have P4 := Aside0.mk h4; have HB4 := Aside0.mk (pw_below_grown (below_alloc HB3.out _) _ (below_size (below_alloc HB3.out _)) hg4 (fun k hk => Option.some.inj hk ▸ below_size HB3.out)); clear h4 hg4)
    | (go_at_call 14; (with_reducible refine (HQ.out _ HB4.out).mono ?_); rintro e w5 ⟨rfl, hb⟩; have HB5 := Aside0.mk (below_step HB4.out hb); have P5 := Aside0.mk (P4.out.below hb); clear hb)
    | ((with_reducible refine gate_ (.store 25 (.tmp 7) (.tmp 25)) rfl ?_); refine store_parts rfl (.tmp 7) (.tmp 25) rfl w5.heap.size noParts qs rfl rfl (blk_new w5 _) noParts_len HQL.out ?_; intro w6 h6 hg6; have P6 := Aside0.mk h6; have P56 := Aside0.mk (show PCell w6 w3.heap.size qs from blk_grown (blk_alloc P5.out _) hg6 (fun e => Nat.lt_irrefl _ (Option.some.inj e ▸ blk_lt P5.out))); have HB6 := Aside0.mk (pw_below_grown (below_alloc HB5.out _) _ (below_size (below_alloc HB5.out _)) hg6 (fun k hk => Option.some.inj hk ▸ below_size HB5.out)); clear h6 hg6)
    | (go_at_call 15; (with_reducible refine (HS.out _).mono ?_); rintro e w7 ⟨rfl, hb⟩; have HB7 := Aside0.mk (below_step HB6.out hb); have P7 := Aside0.mk (P6.out.below hb); have P57 := Aside0.mk (P56.out.below hb); clear hb)
    | (go_at_call 16; (with_reducible refine (HT.out _).mono ?_); rintro e w8 ⟨rfl, hb⟩; have HB8 := Aside0.mk (below_step HB7.out hb); have P8 := Aside0.mk (P7.out.below hb); have P58 := Aside0.mk (P57.out.below hb); clear hb)
    | ((with_reducible refine gate_dst (N := 39) rfl ?_); refine load_parts rfl (.tmp 5) rfl w3.heap.size qs rfl P58.out HQL.out ?_)
    | ((with_reducible refine gate_dst (N := 40) rfl ?_); refine load_parts rfl (.tmp 7) rfl w5.heap.size qs rfl P8.out HQL.out ?_)
    | ((with_reducible refine gate_dst (N := 41) rfl ?_); refine Kd.event_run rfl (exec_eq25 rfl rfl rfl HQL.out) ?_))
  go_ret
  exact ⟨rfl, HB8.out⟩
end Go.Proofs.Ytnbomjfpnpmllaa.Q
