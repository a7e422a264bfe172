/- The walk of the law LabelTells. -/
import Derived.Test.YtnbomjfpnpmllaaHLabelQ
import Derived.Test.YtnbomjfpnpmllaaHMakesW
import Derived.Test.YtnbomjfpnpmllaaHParsesW
set_option linter.unusedSimpArgs false
set_option linter.unusedVariables false
namespace Go.Proofs.Ytnbomjfpnpmllaa.Q
open Go.RowKit Go.Proofs.YtnbomjfpnpmllaaW.PrintWords Go.Proofs.YtnbomjfpnpmllaaW.PrintLast Go.Proofs.YtnbomjfpnpmllaaW.PrintMore
theorem rdOf_getD (l : List Int) (i : Int) : rdOf 0 l i = l.getD i.toNat 0 := rfl
set_option maxHeartbeats 8000000 in
set_option maxRecDepth 100000 in
theorem labelTells_walk (ps : List Part) (a t : Int) (w : World) (hl : ps.length = 8) (hr : Parts ps) (ha : 0 ≤ a ∧ a < 65536) (ht : IsB t) :
    Calls Try.prog 5 #[.agg (partCells ps).toArray, .int .u16 a, .int .u8 t] w fun e w' => e = .returned (.bool true) ∧ Below w.heap.size w w' := by
  obtain ⟨cs, hcs⟩ : ∃ cs, cs = partCells ps := ⟨_, rfl⟩
  obtain ⟨L, hL⟩ : ∃ L, L = (makeF ps).1 := ⟨_, rfl⟩
  obtain ⟨e0, he0⟩ : ∃ e0, e0 = (makeF ps).2 := ⟨_, rfl⟩
  have HM := Aside0.mk (show ∀ W : World, Calls Try.prog 10 #[.agg (partCells ps).toArray] W (fun e w' => ∃ v, e = .returned (.tuple #[v, .int .i64 e0]) ∧ Kd.R (Kd.int .u8) 5 w' W.heap.size (fun _ => True) v L ∧ Below W.heap.size W w') from fun W => by
    refine (make_calls ps W hl).mono ?_
    rintro e w' ⟨v, rfl, hR, hb⟩
    rw [← hL] at hR
    exact ⟨v, by rw [he0], hR, hb⟩)
  have hlaw : e0 = 1 ∨ (e0 = 0 ∧ L = labelF ps) := by
    rw [he0, hL]
    unfold makeF
    split
    · exact .inl rfl
    · exact .inr ⟨rfl, rfl⟩
  have HPL := Aside0.mk hl
  clear hcs he0 hL
  rcases hlaw with h1 | ⟨h1, hL⟩
  · subst h1
    clear hl hr
    go_enter Try.func5, Try.ntmps5
    go_wp2_with (first
      | ((with_reducible refine gate_dst (N := 3) rfl ?_); refine box_event ?hg (N := 3) ?hd (cs := (partCells ps).toArray) (t := 25) ?hr ?_; (case hd => rfl); (case hg => rfl); (case hr => first | (go_simp; done) | (go_simp; rfl)); intro gb hg w1 hbox hb; have PB1 := Aside0.mk (show PCell w1 gb ps from hbox); have HB1 := Aside0.mk hb; clear hbox hb hg)
      | (go_at_call 9; (with_reducible refine (alive_calls _).mono ?_); rintro e w2 ⟨rfl, hb⟩; have HB2 := Aside0.mk (below_step HB1.out hb); have PB2 := Aside0.mk (PB1.out.below hb); clear hb)
      | ((with_reducible refine gate_dst (N := 14) rfl ?_); refine load_parts rfl (.tmp 3) rfl gb ps rfl PB2.out HPL.out ?_)
      | (go_at_call 10; (with_reducible refine (HM.out _).mono ?_); rintro e w3 ⟨v3, rfl, hR, hb⟩; have HB3 := Aside0.mk (below_step HB2.out hb); clear hR hb))
    go_ret
    exact ⟨rfl, HB3.out⟩
  · subst h1
    have HLl := Aside0.mk (show L.length = 512 by rw [hL]; exact labelF_len ps hl)
    have HLb := Aside0.mk (show Bytes L by rw [hL]; exact labelF_bytes ps)
    have HLg := Aside0.mk (show goodF L = true by rw [hL]; exact labelF_good ps hl)
    clear hL hl hr
    by_cases h0 : t = 0
    · subst h0
      go_enter Try.func5, Try.ntmps5
      go_wp2_with (first
        | ((with_reducible refine gate_dst (N := 3) rfl ?_); refine box_event ?hg (N := 3) ?hd (cs := (partCells ps).toArray) (t := 25) ?hr ?_; (case hd => rfl); (case hg => rfl); (case hr => first | (go_simp; done) | (go_simp; rfl)); intro gb hg w1 hbox hb; have PB1 := Aside0.mk (show PCell w1 gb ps from hbox); have HB1 := Aside0.mk hb; clear hbox hb hg)
        | (go_at_call 9; (with_reducible refine (alive_calls _).mono ?_); rintro e w2 ⟨rfl, hb⟩; have HB2 := Aside0.mk (below_step HB1.out hb); have PB2 := Aside0.mk (PB1.out.below hb); clear hb)
        | ((with_reducible refine gate_dst (N := 14) rfl ?_); refine load_parts rfl (.tmp 3) rfl gb ps rfl PB2.out HPL.out ?_)
        | (go_at_call 10; (with_reducible refine (HM.out _).mono ?_); rintro e w3 ⟨v3, rfl, hR, hb⟩; have HB3 := Aside0.mk (below_step HB2.out hb); clear hR hb))
      go_ret
      exact ⟨rfl, HB3.out⟩
    · have hne : (t == 0) = false := by simp [h0]
      obtain ⟨j, hj⟩ : ∃ j, j = a % 512 := ⟨_, rfl⟩
      have hj0 : 0 ≤ j := by omega
      have hj1 : j < 512 := by omega
      obtain ⟨x, hx⟩ : ∃ x, x = L.getD j.toNat 0 := ⟨_, rfl⟩
      have hxB : IsB x := by rw [hx]; exact getD_isB HLb.out _
      obtain ⟨qs, hqs⟩ : ∃ qs, qs = (parseF (L.set j.toNat (xorB x t))).1 := ⟨_, rfl⟩
      have hg0 : (parseF (L.set j.toNat (xorB x t))).2 = 24 := by
        rw [hx]
        exact tell_label L HLb.out HLl.out HLg.out j.toNat (by omega) t ht h0
      have HQL := Aside0.mk (show qs.length = 8 by rw [hqs]; exact parseF_len _)
      have HP := Aside0.mk (show ∀ (W : World) (A : Option Addr) (c : Nat), Kd.C (Kd.int .u8) W A 512 (L.set j.toNat (xorB x t)) → 512 ≤ c → Calls Try.prog 13 #[.slice A 512 c] W (fun e w' => e = .returned (.tuple #[.agg (partCells qs).toArray, .int .i64 24]) ∧ Below W.heap.size W w') from fun W A c h1 h2 => by
        have hs : (L.set j.toNat (xorB x t)).length = 512 := by rw [List.length_set, HLl.out]
        have h3 := parse_calls A c (L.set j.toNat (xorB x t)) W (by rw [hs]; exact h1) (by rw [hs]; exact h2)
        rw [hs, hg0, ← hqs] at h3
        exact h3)
      have HM2 := Aside0.mk (show ∀ W : World, Calls Try.prog 10 #[.agg (partCells ps).toArray] W (fun e w' => ∃ g cap, e = .returned (.tuple #[.slice (some ⟨g, 0, none⟩) 512 cap, .int .i64 0]) ∧ 512 ≤ cap ∧ W.heap.size ≤ g ∧ Kd.C (Kd.int .u8) (w'.setCell ⟨g, j.toNat, none⟩ (.int .u8 (bits .xor .u8 x t))) (some ⟨g, 0, none⟩) 512 (L.set j.toNat (xorB x t)) ∧ w'.cell? ⟨g, j.toNat, none⟩ = some (.int .u8 x) ∧ w'.frozen? ⟨g, j.toNat, none⟩ = false ∧ Below W.heap.size W w') from fun W => by
        refine (HM.out W).mono ?_
        rintro e w' ⟨v, rfl, hR, hb⟩
        obtain ⟨g, cap, hv, hgb, hgs, _⟩ := Kd.R_form hR (by rw [HLl.out]; decide)
        obtain ⟨_, _, hv2, hcap, _⟩ := Kd.R_reads hR
        rw [hv2] at hv
        rw [HLl.out] at hv hv2 hcap
        simp only [Value.slice.injEq, true_and] at hv
        obtain ⟨rfl, rfl⟩ := hv
        subst hv2
        have hc := Kd.R_celln 0 hR j hj0 hj1
        rw [rdOf_getD, ← hx] at hc
        have h9 := (Kd.R_reads' (Kd.R_putn hR j (xorB x t))).2.2
        rw [List.length_set, HLl.out] at h9
        exact ⟨g, _, rfl, hcap, hgb, h9, hc.1, hc.2, hb⟩)
      have HX := Aside0.mk hx
      have HJ := Aside0.mk hj
      have q0 : a % 512 = j := hj.symm
      have q1 : (0 ≤ j) = True := eq_true hj0
      have q2 : (j < 512) = True := eq_true hj1
      clear hqs hg0 hx hj hxB h0
      go_enter Try.func5, Try.ntmps5
      go_wp2_with (first
        | ((with_reducible refine gate_dst (N := 3) rfl ?_); refine box_event ?hg (N := 3) ?hd (cs := (partCells ps).toArray) (t := 25) ?hr ?_; (case hd => rfl); (case hg => rfl); (case hr => first | (go_simp; done) | (go_simp; rfl)); intro gb hg w1 hbox hb; have PB1 := Aside0.mk (show PCell w1 gb ps from hbox); have HB1 := Aside0.mk hb; clear hbox hb hg)
        | (go_at_call 9; (with_reducible refine (alive_calls _).mono ?_); rintro e w2 ⟨rfl, hb⟩; have HB2 := Aside0.mk (below_step HB1.out hb); have PB2 := Aside0.mk (PB1.out.below hb); clear hb)
        | ((with_reducible refine gate_dst (N := 14) rfl ?_); refine load_parts rfl (.tmp 3) rfl gb ps rfl PB2.out HPL.out ?_)
        | (go_at_call 10; (with_reducible refine (HM2.out _).mono ?_); rintro e w3 ⟨g, cap, rfl, hcap, hgb, hR, hcell, hfro, hb⟩; have HB3 := Aside0.mk (below_step HB2.out hb); have HR := Aside0.mk hR; have HCAP := Aside0.mk hcap; have HGB := Aside0.mk (Nat.le_trans HB2.out.size hgb); clear hR hb hgb hcap)
        | (go_at_call 13; have HB5 := Aside0.mk (show Below w.heap.size w (w3.setCell ⟨g, j.toNat, none⟩ (.int .u8 (xorB x t))) from below_set HB3.out HGB.out); refine (HP.out _ _ _ HR.out HCAP.out).mono ?_; rintro e w6 ⟨rfl, hb⟩; have HB6 := Aside0.mk (below_step HB5.out hb); clear hb)
        | ((with_reducible refine gate_ (.store 25 (.tmp 9) (.tmp 36)) rfl ?_); refine store_parts rfl (.tmp 9) (.tmp 36) rfl w6.heap.size noParts qs rfl rfl (blk_new w6 _) noParts_len HQL.out ?_; intro w7 h7 hg7; have HB7 := Aside0.mk (pw_below_grown (below_alloc HB6.out _) _ (below_size (below_alloc HB6.out _)) hg7 (fun k hk => Option.some.inj hk ▸ below_size HB6.out)); clear h7 hg7))
      go_ret
      exact ⟨rfl, HB7.out⟩
theorem labelTells_row (cs : Array Value) (z : List S24) {w : World} (hz : z.length = 8) (hr : Reps (k24.K w) k24.sz z cs.toList) (g : ∀ a ∈ z, (Lit.int .u32 a.f0).wf = true ∧ (Lit.int .u32 a.f1).wf = true)
    (a : Int) (wa : (Lit.int .u16 a).wf = true) (t : Int) (wt : (Lit.int .u8 t).wf = true) :
    Calls Try.prog 5 #[.agg cs, .int .u16 a, .int .u8 t] w fun e w' => e = .returned (.bool true) ∧ Below w.heap.size w w' := by
  have hc := cells_of hr
  simp only [Lit.wf, Bool.and_eq_true, decide_eq_true_eq, show IntKind.u16.min = 0 from rfl, show IntKind.u16.max = 65535 from rfl, show IntKind.u8.min = 0 from rfl, show IntKind.u8.max = 255 from rfl] at wa wt
  have := labelTells_walk (partsOf z) a t w (by rw [partsOf, List.length_map, hz]) (parts_of_good g) ⟨wa.1, by omega⟩ ⟨wt.1, by omega⟩
  rw [← hc] at this
  exact this
end Go.Proofs.Ytnbomjfpnpmllaa.Q
