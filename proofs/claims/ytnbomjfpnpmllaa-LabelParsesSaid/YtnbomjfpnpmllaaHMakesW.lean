/- The walk of the law LabelMakes. -/
import Derived.Test.YtnbomjfpnpmllaaHAlive
import Derived.Test.YtnbomjfpnpmllaaHRefMake
import Derived.Test.YtnbomjfpnpmllaaHEq
import Derived.Test.YtnbomjfpnpmllaaQTinderref04Same
set_option linter.unusedSimpArgs false
set_option linter.unusedVariables false
namespace Go.Proofs.Ytnbomjfpnpmllaa.Q
open Go.RowKit Go.Proofs.YtnbomjfpnpmllaaW.PrintWords Go.Proofs.YtnbomjfpnpmllaaW.PrintLast Go.Proofs.YtnbomjfpnpmllaaW.PrintMore
theorem same_at (A : Option Addr) (c n : Nat) (B : Option Addr) (d : Nat) (L : List Int) (W : World) (hn : L.length = n) (h1 : Kd.C (Kd.int .u8) W A n L) (hc : n ≤ c) (h2 : Kd.C (Kd.int .u8) W B n L) (hd : n ≤ d) :
    Calls Try.prog 12 #[.slice A n c, .slice B n d] W fun e w' => e = .returned (.bool true) ∧ Below W.heap.size W w' := by
  subst hn
  refine (tinderref04_Same.calls A c L B d L true W h1 hc h2 hd (by unfold tinderref04_Same.f; simp)).mono ?_
  rintro e w' ⟨rfl, h⟩
  exact ⟨rfl, h.below⟩
theorem exec_eq25 {w : World} {ps : List Part} {a : Act} {o : Oper} {x y : Operand} (ho : o.op = .binOp .eql 25 x y 25) (hx : a.eval x = .agg (partCells ps).toArray) (hy : a.eval y = .agg (partCells ps).toArray) (hl : ps.length = 8) : (execOp a.eval o).run Try.prog w = .ok (.value (.bool true)) w := by
  have he := eq25 9997 w ps ps hl hl
  rw [decide_eq_true rfl] at he
  simp only [execOp, ho, hx, hy]
  go_simp
set_option maxHeartbeats 8000000 in
set_option maxRecDepth 100000 in
theorem labelMakes_walk (ps : List Part) (w : World) (hl : ps.length = 8) (hr : Parts ps) :
    Calls Try.prog 3 #[.agg (partCells ps).toArray] w fun e w' => e = .returned (.bool true) ∧ Below w.heap.size w w' := by
  obtain ⟨cs, hcs⟩ : ∃ cs, cs = partCells ps := ⟨_, rfl⟩
  obtain ⟨L, hL⟩ : ∃ L, L = (makeF ps).1 := ⟨_, rfl⟩
  obtain ⟨e0, he0⟩ : ∃ e0, e0 = (makeF ps).2 := ⟨_, rfl⟩
  obtain ⟨qs, hqs⟩ : ∃ qs, qs = (parseF L).1 := ⟨_, rfl⟩
  obtain ⟨g0, hg0⟩ : ∃ g0, g0 = (parseF L).2 := ⟨_, rfl⟩
  have HM := Aside0.mk (show ∀ W : World, Calls Try.prog 10 #[.agg (partCells ps).toArray] W (fun e w' => ∃ A c, e = .returned (.tuple #[.slice A L.length c, .int .i64 e0]) ∧ L.length ≤ c ∧ Kd.C (Kd.int .u8) w' A L.length L ∧ Below W.heap.size W w') from fun W => by
    refine (make_calls ps W hl).mono ?_
    rintro e w' ⟨v, rfl, hR, hb⟩
    rw [← hL] at hR
    obtain ⟨A, c, rfl, hc, hC⟩ := Kd.R_reads hR
    exact ⟨A, c, by rw [he0], hc, hC, hb⟩)
  have HF := Aside0.mk (show ∀ W : World, Calls Try.prog 11 #[.agg (partCells ps).toArray] W (fun e w' => ∃ A c, e = .returned (.tuple #[.slice A L.length c, .int .i64 e0]) ∧ L.length ≤ c ∧ Kd.C (Kd.int .u8) w' A L.length L ∧ Below W.heap.size W w') from fun W => by
    refine (refMake_calls ps W hl hr).mono ?_
    rintro e w' ⟨v, rfl, hR, hb⟩
    rw [← hL] at hR
    obtain ⟨A, c, rfl, hc, hC⟩ := Kd.R_reads hR
    exact ⟨A, c, by rw [he0], hc, hC, hb⟩)
  have HP := Aside0.mk (show ∀ (W : World) (A : Option Addr) (c : Nat), Kd.C (Kd.int .u8) W A L.length L → L.length ≤ c → Calls Try.prog 13 #[.slice A L.length c] W (fun e w' => e = .returned (.tuple #[.agg (partCells qs).toArray, .int .i64 g0]) ∧ Below W.heap.size W w') from fun W A c h1 h2 => by
    rw [hqs, hg0]
    exact parse_calls A c L W h1 h2)
  have HQL := Aside0.mk (show qs.length = 8 by
    rw [hqs]
    unfold parseF
    split
    · split
      · exact partsN_len L
      · rfl
    · rfl)
  have hlaw : (e0 = 1 ∧ g0 = 24) ∨ (e0 = 0 ∧ g0 = 0 ∧ qs = ps) := by
    rw [he0, hg0, hqs, hL]
    unfold makeF
    split
    · exact .inl ⟨rfl, rfl⟩
    · exact .inr (by rw [parse_label ps hl hr]; exact ⟨rfl, rfl, rfl⟩)
  have HPL := Aside0.mk hl
  clear hL he0 hqs hg0 hr hcs hl
  rcases hlaw with ⟨h1, h2⟩ | ⟨h1, h2, h3⟩
  · subst h1
    subst h2
    go_enter Try.func3, Try.ntmps3
    go_wp2_with (first
      | ((with_reducible refine gate_dst (N := 1) rfl ?_); refine box_event ?hg (N := 1) ?hd (cs := (partCells ps).toArray) (t := 25) ?hr ?_; (case hd => rfl); (case hg => rfl); (case hr => first | (go_simp; done) | (go_simp; rfl)); intro gb hg w1 hbox hb; have PB1 := Aside0.mk (show PCell w1 gb ps from hbox); have HB1 := Aside0.mk hb; have GB := Aside0.mk (show w.heap.size ≤ gb from hg ▸ Nat.le_refl _); clear hbox hb hg)
      | (go_at_call 9; (with_reducible refine (alive_calls _).mono ?_); rintro e w2 ⟨rfl, hb⟩; have HB2 := Aside0.mk (below_step HB1.out hb); have PB2 := Aside0.mk (PB1.out.below hb); clear hb)
      | ((with_reducible refine gate_dst (N := 12) rfl ?_); refine load_parts rfl (.tmp 1) rfl gb ps rfl PB2.out HPL.out ?_)
      | (go_at_call 10; (with_reducible refine (HM.out _).mono ?_); rintro e w3 ⟨A3, c3, rfl, hc, hC, hb⟩; have HB3 := Aside0.mk (below_step HB2.out hb); have PB3 := Aside0.mk (PB2.out.below hb); have HC3 := Aside0.mk hC; have HCC3 := Aside0.mk hc; clear hc hC hb)
      | ((with_reducible refine gate_dst (N := 17) rfl ?_); refine load_parts rfl (.tmp 1) rfl gb ps rfl PB3.out HPL.out ?_)
      | (go_at_call 11; (with_reducible refine (HF.out _).mono ?_); rintro e w4 ⟨A4, c4, rfl, hc, hC, hb⟩; have HB4 := Aside0.mk (below_step HB3.out hb); have PB4 := Aside0.mk (PB3.out.below hb); have HC34 := Aside0.mk (Kd.C_below HC3.out hb); have HC4 := Aside0.mk hC; have HCC4 := Aside0.mk hc; clear hc hC hb)
      | (go_at_call 12; (with_reducible refine (same_at _ _ _ _ _ L _ rfl HC34.out HCC3.out HC4.out HCC4.out).mono ?_); rintro e w5 ⟨rfl, hb⟩; have HB5 := Aside0.mk (below_step HB4.out hb); have PB5 := Aside0.mk (PB4.out.below hb); have HC35 := Aside0.mk (Kd.C_below HC34.out hb); clear hb)
      | (go_at_call 13; (with_reducible refine (HP.out _ _ _ HC35.out HCC3.out).mono ?_); rintro e w6 ⟨rfl, hb⟩; have HB6 := Aside0.mk (below_step HB5.out hb); have PB6 := Aside0.mk (PB5.out.below hb); clear hb)
      | ((with_reducible refine gate_ (.store 25 (.tmp 7) (.tmp 33)) rfl ?_); refine store_parts rfl (.tmp 7) (.tmp 33) rfl w6.heap.size noParts qs rfl rfl (blk_new w6 _) noParts_len HQL.out ?_; intro w7 h7 hg7; have P7 := Aside0.mk h7; have PB7 := Aside0.mk (show PCell w7 gb ps from blk_grown (blk_alloc PB6.out _) hg7 (fun e => Nat.lt_irrefl _ (Option.some.inj e ▸ blk_lt PB6.out))); have HB7 := Aside0.mk (pw_below_grown (below_alloc HB6.out _) _ (below_size (below_alloc HB6.out _)) hg7 (fun k hk => Option.some.inj hk ▸ below_size HB6.out)); clear h7 hg7))
    go_ret
    exact ⟨rfl, HB7.out⟩
  · subst h1
    subst h2
    have h4 := h3.symm
    subst h4
    clear h3
    go_enter Try.func3, Try.ntmps3
    go_wp2_with (first
      | ((with_reducible refine gate_dst (N := 1) rfl ?_); refine box_event ?hg (N := 1) ?hd (cs := (partCells ps).toArray) (t := 25) ?hr ?_; (case hd => rfl); (case hg => rfl); (case hr => first | (go_simp; done) | (go_simp; rfl)); intro gb hg w1 hbox hb; have PB1 := Aside0.mk (show PCell w1 gb ps from hbox); have HB1 := Aside0.mk hb; have GB := Aside0.mk (show w.heap.size ≤ gb from hg ▸ Nat.le_refl _); clear hbox hb hg)
      | (go_at_call 9; (with_reducible refine (alive_calls _).mono ?_); rintro e w2 ⟨rfl, hb⟩; have HB2 := Aside0.mk (below_step HB1.out hb); have PB2 := Aside0.mk (PB1.out.below hb); clear hb)
      | ((with_reducible refine gate_dst (N := 12) rfl ?_); refine load_parts rfl (.tmp 1) rfl gb ps rfl PB2.out HPL.out ?_)
      | (go_at_call 10; (with_reducible refine (HM.out _).mono ?_); rintro e w3 ⟨A3, c3, rfl, hc, hC, hb⟩; have HB3 := Aside0.mk (below_step HB2.out hb); have PB3 := Aside0.mk (PB2.out.below hb); have HC3 := Aside0.mk hC; have HCC3 := Aside0.mk hc; clear hc hC hb)
      | ((with_reducible refine gate_dst (N := 17) rfl ?_); refine load_parts rfl (.tmp 1) rfl gb ps rfl PB3.out HPL.out ?_)
      | (go_at_call 11; (with_reducible refine (HF.out _).mono ?_); rintro e w4 ⟨A4, c4, rfl, hc, hC, hb⟩; have HB4 := Aside0.mk (below_step HB3.out hb); have PB4 := Aside0.mk (PB3.out.below hb); have HC34 := Aside0.mk (Kd.C_below HC3.out hb); have HC4 := Aside0.mk hC; have HCC4 := Aside0.mk hc; clear hc hC hb)
      | (go_at_call 12; (with_reducible refine (same_at _ _ _ _ _ L _ rfl HC34.out HCC3.out HC4.out HCC4.out).mono ?_); rintro e w5 ⟨rfl, hb⟩; have HB5 := Aside0.mk (below_step HB4.out hb); have PB5 := Aside0.mk (PB4.out.below hb); have HC35 := Aside0.mk (Kd.C_below HC34.out hb); clear hb)
      | (go_at_call 13; (with_reducible refine (HP.out _ _ _ HC35.out HCC3.out).mono ?_); rintro e w6 ⟨rfl, hb⟩; have HB6 := Aside0.mk (below_step HB5.out hb); have PB6 := Aside0.mk (PB5.out.below hb); clear hb)
      | ((with_reducible refine gate_ (.store 25 (.tmp 7) (.tmp 33)) rfl ?_); refine store_parts rfl (.tmp 7) (.tmp 33) rfl w6.heap.size noParts ps rfl rfl (blk_new w6 _) noParts_len HQL.out ?_; intro w7 h7 hg7; have P7 := Aside0.mk h7; have PB7 := Aside0.mk (show PCell w7 gb ps from blk_grown (blk_alloc PB6.out _) hg7 (fun e => Nat.lt_irrefl _ (Option.some.inj e ▸ blk_lt PB6.out))); have HB7 := Aside0.mk (pw_below_grown (below_alloc HB6.out _) _ (below_size (below_alloc HB6.out _)) hg7 (fun k hk => Option.some.inj hk ▸ below_size HB6.out)); clear h7 hg7)
      | ((with_reducible refine gate_dst (N := 49) rfl ?_); refine gate_guard (by rfl) ?_; refine load_parts rfl (.tmp 7) rfl w6.heap.size ps rfl P7.out HPL.out ?_)
      | ((with_reducible refine gate_dst (N := 50) rfl ?_); refine gate_guard (by rfl) ?_; refine load_parts rfl (.tmp 1) rfl gb ps rfl PB7.out HPL.out ?_)
      | ((with_reducible refine gate_dst (N := 51) rfl ?_); refine gate_guard (by rfl) ?_; refine Kd.event_run rfl (exec_eq25 rfl rfl rfl HPL.out) ?_))
    go_ret
    exact ⟨rfl, HB7.out⟩
/-! partitions as the row reads them -/
def partsOf (z : List S24) : List Part := z.map fun s => (s.f0, s.f1)
theorem cells_of {W : World} : ∀ {z : List S24} {inner : List Value}, Reps (k24.K W) k24.sz z inner → inner = partCells (partsOf z)
  | [], inner, h => by
    have := h.1
    simp at this
    subst this
    rfl
  | s :: z, inner, h => by
    have h0 := h.2 0 s rfl
    rw [Nat.zero_mul, List.drop_zero] at h0
    have h1 := k24_open h0
    have hl := h.1
    have ht : Reps (k24.K W) k24.sz z (inner.drop 2) := by
      refine ⟨by rw [List.length_drop, hl, List.length_cons]; show (z.length + 1) * 2 - 2 = z.length * 2; omega, fun j p hj => ?_⟩
      have := h.2 (j + 1) p hj
      rw [List.drop_drop]
      rw [show 2 + j * k24.sz = (j + 1) * k24.sz by show 2 + j * 2 = (j + 1) * 2; omega]
      exact this
    have ih := cells_of ht
    rw [← List.take_append_drop 2 inner, ih]
    have h1' : inner.take 2 = [.int .u32 s.f0, .int .u32 s.f1] := h1
    rw [h1']
    rfl
theorem parts_of_good {z : List S24} (g : ∀ a ∈ z, (Lit.int .u32 a.f0).wf = true ∧ (Lit.int .u32 a.f1).wf = true) : Parts (partsOf z) := fun p hp => by
  obtain ⟨s, hs, rfl⟩ := List.mem_map.1 hp
  have h := g s hs
  have h1 := h.1
  have h2 := h.2
  simp only [Lit.wf, Bool.and_eq_true, decide_eq_true_eq, show IntKind.u32.min = 0 from rfl, show IntKind.u32.max = 4294967295 from rfl] at h1 h2
  exact ⟨⟨h1.1, Int.lt_of_le_of_lt h1.2 (by decide)⟩, ⟨h2.1, Int.lt_of_le_of_lt h2.2 (by decide)⟩⟩
theorem labelMakes_row (cs : Array Value) (z : List S24) {w : World} (hz : z.length = 8) (hr : Reps (k24.K w) k24.sz z cs.toList) (g : ∀ a ∈ z, (Lit.int .u32 a.f0).wf = true ∧ (Lit.int .u32 a.f1).wf = true) :
    Calls Try.prog 3 #[.agg cs] w fun e w' => e = .returned (.bool true) ∧ Below w.heap.size w w' := by
  have hc := cells_of hr
  have := labelMakes_walk (partsOf z) w (by rw [partsOf, List.length_map, hz]) (parts_of_good g)
  rw [← hc] at this
  exact this
end Go.Proofs.Ytnbomjfpnpmllaa.Q
