/- Contracts of Go functions and plain facts, of several texts, one behind the other; no condition. -/
import Derived.Test.YtfpkakedlapmkaaMDictForms7
import Derived.Test.YtfpkakedlapmkaaMDictForms6
import Derived.Test.YtfpkakedlapmkaaMDictForms4
import Derived.Test.YtfpkakedlapmkaaMDictForms2
import Derived.Test.YtfpkakedlapmkaaMDictForms8
import Derived.ChangeArms
import Derived.OpenShut
import Derived.SizedLaws
section
set_option linter.unusedSimpArgs false
set_option linter.unusedVariables false
namespace Go.Proofs.Ytfpkakedlapmkaa.Q
open Go.RowKit Go.Proofs.YtfpkakedlapmkaaW.PrintWords Go.Proofs.YtfpkakedlapmkaaW.PrintLast Go.Proofs.YtfpkakedlapmkaaW.PrintMore
attribute [local go_sem] max2_int min2_int max_two min_two max_three min_three max_four min_four
theorem same3_calls (l : List Int) (A : Option Addr) (c : Nat) (B : Option Addr) (d : Nat) (W : World) (hA : Kd.C (Kd.int .u32) W A l.length l) (hc : l.length ≤ c) (hB : Kd.C (Kd.int .u32) W B l.length l) (hd : l.length ≤ d) : Calls Try.prog 66 #[.slice A l.length c, .slice B l.length d] W fun e w' => e = .returned (.bool true) ∧ ∃ m, w' = W.drewN m :=
 (tinderref03_Same.calls (l.length + 1) A c l B d l true W hA hc hB hd (by rw [same3_eq l l (Kd.C_max hA) _ (by omega), decide_eq_true rfl])).mono fun _ _ h => ⟨h.1, h.2.out⟩
theorem same4_calls (l : List Int) (A : Option Addr) (c : Nat) (B : Option Addr) (d : Nat) (W : World) (hA : Kd.C (Kd.int .u8) W A l.length l) (hc : l.length ≤ c) (hB : Kd.C (Kd.int .u8) W B l.length l) (hd : l.length ≤ d) : Calls Try.prog 67 #[.slice A l.length c, .slice B l.length d] W fun e w' => e = .returned (.bool true) ∧ ∃ m, w' = W.drewN m :=
 (tinderref04_Same.calls A c l B d l true W hA hc hB hd (same4_self l)).mono fun _ _ h => ⟨h.1, h.2.out⟩
set_option maxHeartbeats 4000000 in
set_option maxRecDepth 100000 in
theorem sameNodeT_calls (x : S91) (A1 : Option Addr) (c1 : Nat) (A3 : Option Addr) (c3 : Nat) (A4 : Option Addr) (c4 : Nat) (B1 : Option Addr) (d1 : Nat) (B3 : Option Addr) (d3 : Nat) (B4 : Option Addr) (d4 : Nat) (w : World)
  (hA1 : Kd.C (Kd.int .u32) w A1 x.f1.length x.f1) (hc1 : x.f1.length ≤ c1) (hA3 : Kd.C k106 w A3 x.f3.length x.f3) (hA4 : Kd.C (Kd.int .u32) w A4 x.f4.length x.f4) (hc4 : x.f4.length ≤ c4)
  (hB1 : Kd.C (Kd.int .u32) w B1 x.f1.length x.f1) (hd1 : x.f1.length ≤ d1) (hB3 : Kd.C k106 w B3 x.f3.length x.f3) (hB4 : Kd.C (Kd.int .u32) w B4 x.f4.length x.f4) (hd4 : x.f4.length ≤ d4) :
  Calls Try.prog 88 #[.agg #[.string x.f0, .slice A1 x.f1.length c1, .int .i64 x.f2, .slice A3 x.f3.length c3, .slice A4 x.f4.length c4], .agg #[.string x.f0, .slice B1 x.f1.length d1, .int .i64 x.f2, .slice B3 x.f3.length d3, .slice B4 x.f4.length d4]] w fun e w' => e = .returned (.bool true) ∧ Below w.heap.size w w' := by
 have hu91 := Try.underlying91
 have hu106 := Try.underlying106
 have HM := Aside0.mk (Kd.C_max hA3)
 have H1 := Aside0.mk (fun (W : World) (hb : Below w.heap.size w W) => same3_calls x.f1 A1 c1 B1 d1 W (Kd.C_below hA1 hb) hc1 (Kd.C_below hB1 hb) hd1)
 have H4 := Aside0.mk (fun (W : World) (hb : Below w.heap.size w W) => same3_calls x.f4 A4 c4 B4 d4 W (Kd.C_below hA4 hb) hc4 (Kd.C_below hB4 hb) hd4)
 have HA := Aside0.mk hA3
 have HBB := Aside0.mk hB3
 clear hA1 hc1 hA3 hA4 hc4 hB1 hd1 hB3 hB4 hd4
 go_enter Try.func88, Try.ntmps88
 go_wp2_with (first
  | ((with_reducible refine gate_dst (N := 2) rfl ?_); refine box_event ?hg (N := 2) ?hd (cs := #[.string x.f0, .slice A1 x.f1.length c1, .int .i64 x.f2, .slice A3 x.f3.length c3, .slice A4 x.f4.length c4]) (t := 91) ?hr ?_; (case hd => rfl); (case hg => rfl); (case hr => first | (go_simp; done) | (go_simp; rfl)); intro ga hga w1 hbox hb; have K1 := Aside0.mk hbox; have HB := Aside0.mk hb; clear hbox hb hga)
  | ((with_reducible refine gate_dst (N := 3) rfl ?_); refine box_event ?hg (N := 3) ?hd (cs := #[.string x.f0, .slice B1 x.f1.length d1, .int .i64 x.f2, .slice B3 x.f3.length d3, .slice B4 x.f4.length d4]) (t := 91) ?hr ?_; (case hd => rfl); (case hg => rfl); (case hr => first | (go_simp; done) | (go_simp; rfl)); intro gb hga w2 hbox hb; replace K1 := Aside0.mk (blk_below K1.out hb); have K2 := Aside0.mk hbox; replace HB := Aside0.mk (below_step HB.out hb); have hz0 := (blk_cell K1.out 0).trans rfl; have hz1 := (blk_cell K1.out 1).trans rfl; have hz2 := (blk_cell K1.out 2).trans rfl; have hz3 := (blk_cell K1.out 3).trans rfl; have hz4 := (blk_cell K1.out 4).trans rfl; have hy0 := (blk_cell K2.out 0).trans rfl; have hy1 := (blk_cell K2.out 1).trans rfl; have hy2 := (blk_cell K2.out 2).trans rfl; have hy3 := (blk_cell K2.out 3).trans rfl; have hy4 := (blk_cell K2.out 4).trans rfl; have hfa0 := blk_frozen K1.out 0; have hfa1 := blk_frozen K1.out 1; have hfa2 := blk_frozen K1.out 2; have hfa3 := blk_frozen K1.out 3; have hfa4 := blk_frozen K1.out 4; have hfb0 := blk_frozen K2.out 0; have hfb1 := blk_frozen K2.out 1; have hfb2 := blk_frozen K2.out 2; have hfb3 := blk_frozen K2.out 3; have hfb4 := blk_frozen K2.out 4; clear hbox hb hga)
  | (go_at_call 66; (with_reducible refine (H1.out _ (by first | exact HB.out | exact pw_below_drewN HB.out _)).mono ?_); rintro e w3 ⟨rfl, n, rfl⟩)
  | (go_at_call 66; (with_reducible refine (H4.out _ (by first | exact HB.out | exact pw_below_drewN HB.out _)).mono ?_); rintro e w3 ⟨rfl, n2, rfl⟩))
 clear hz0 hz1 hz2 hz3 hz4 hy0 hy1 hy2 hy3 hy4 hfa0 hfa1 hfa2 hfa3 hfa4 hfb0 hfb1 hfb2 hfb3 hfb4
 go_loopg [5] x.f3.length (fun kq v5 w' => ∃ i : Int, v5 = .int .i64 i ∧ Aside0 (0 ≤ i ∧ i + kq = x.f3.length) ∧ Aside0 (w'.heap[ga]? = some (.cells #[.string x.f0, .slice A1 x.f1.length c1, .int .i64 x.f2, .slice A3 x.f3.length c3, .slice A4 x.f4.length c4] 91 (0, 0))) ∧ Aside0 (w'.heap[gb]? = some (.cells #[.string x.f0, .slice B1 x.f1.length d1, .int .i64 x.f2, .slice B3 x.f3.length d3, .slice B4 x.f4.length d4] 91 (0, 0))) ∧ Aside0 (Below w.heap.size w w'))
 case atStart => exact ⟨0, rfl, ⟨by omega, by omega⟩, ⟨K1.out⟩, ⟨K2.out⟩, ⟨by first | exact HB.out | exact pw_below_drewN HB.out _ | exact pw_below_drewN (pw_below_drewN HB.out _) _⟩⟩
 case round =>
  clear K1 K2 HB
  obtain ⟨i, rfl, HI, K1, K2, HB⟩ := hrel
  have hz3 := (blk_cell K1.out 3).trans rfl
  have hy3 := (blk_cell K2.out 3).trans rfl
  have hfz := blk_frozen K1.out 3
  have hfy := blk_frozen K2.out 3
  cases gk with
  | zero =>
   have hlt : decide (i < (x.f3.length : Int)) = false := decide_eq_false (by have := HI.out; omega)
   go_wp2
   go_ret
   exact ⟨rfl, HB.out⟩
  | succ k1 =>
   have hi := HI.out
   have hlt : decide (i < (x.f3.length : Int)) = true := decide_eq_true (by omega)
   have p1 : (0 ≤ i) = True := eq_true (by omega)
   have p2 : (i < (x.f3.length : Int)) = True := eq_true (by omega)
   have hwr : IntKind.i64.wrap (i + 1) = i + 1 := (i64_w _).trans (by have := HM.out; unfold wrap64; omega)
   have hwr2 : wrap64 (i + 1) = i + 1 := by have := HM.out; unfold wrap64; omega
   obtain ⟨ad, P1, q1, eA, hx0, hx1, hl1, hg1⟩ := at_T106 (Kd.C_below HA.out HB.out) i (by omega) (by omega)
   cases eA
   obtain ⟨bd, P2, q2, eB, hv0, hv1, hl2, hg2⟩ := at_T106 (Kd.C_below HBB.out HB.out) i (by omega) (by omega)
   cases eB
   have H7 := Aside0.mk (fun n => same4_calls (rd_T106 x.f3 i).f1 P1 q1 P2 q2 (wr.drewN n) (Kd.C_drewN hg1 n) hl1 (Kd.C_drewN hg2 n) hl2)
   clear hi hl1 hg1 hl2 hg2
   go_wp2
   go_quiet ((go_at_call 67; exact Calls.quiet_of (H7.out _)))
   go_wp2
   go_roundg k1
   case measure => omega
   case rel => exact ⟨i + 1, rfl, ⟨by have := HI.out; omega, by have := HI.out; omega⟩, ⟨K1.out⟩, ⟨K2.out⟩, ⟨by first | exact HB.out | exact pw_below_drewN HB.out _⟩⟩
set_option maxHeartbeats 4000000 in
set_option maxRecDepth 100000 in
theorem same8T_calls (l : List S91) (A : Option Addr) (c : Nat) (B : Option Addr) (d : Nat) (w : World) (hA : Kd.C k91 w A l.length l) (hB : Kd.C k91 w B l.length l) :
  Calls Try.prog 68 #[.slice A l.length c, .slice B l.length d] w fun e w' => e = .returned (.bool true) ∧ Below w.heap.size w w' := by
 have hu91 := Try.underlying91
 have mixed : Try.prog.follows Departure.mixedOrders = true := by kernel_rfl
 have HM := Aside0.mk (Kd.C_max hA)
 have HA := Aside0.mk hA
 have HBB := Aside0.mk hB
 clear hA hB
 go_enter Try.func68, Try.ntmps68
 go_wp2
 go_loopg [5] l.length (fun kq v5 w' => ∃ i : Int, v5 = .int .i64 i ∧ Aside0 (0 ≤ i ∧ i + kq = l.length) ∧ Aside0 (Below w.heap.size w w'))
 case atStart => exact ⟨0, rfl, ⟨by omega, by omega⟩, ⟨Below.refl _ _⟩⟩
 case round =>
  obtain ⟨i, rfl, HI, HB⟩ := hrel
  cases gk with
  | zero =>
   have hlt : decide (i < (l.length : Int)) = false := decide_eq_false (by have := HI.out; omega)
   go_wp2
   go_ret
   exact ⟨rfl, HB.out⟩
  | succ k1 =>
   have hi := HI.out
   have hlt : decide (i < (l.length : Int)) = true := decide_eq_true (by omega)
   have p1 : (0 ≤ i) = True := eq_true (by omega)
   have p2 : (i < (l.length : Int)) = True := eq_true (by omega)
   have hwr : IntKind.i64.wrap (i + 1) = i + 1 := (i64_w _).trans (by have := HM.out; unfold wrap64; omega)
   have hwr2 : wrap64 (i + 1) = i + 1 := by have := HM.out; unfold wrap64; omega
   obtain ⟨ad, A1, c1, A3, c3, A4, c4, eA, hx0, hx1, hx2, hx3, hx4, hl1, hg1, hl3, hg3, hl4, hg4⟩ := at_T91 (Kd.C_below HA.out HB.out) i (by omega) (by omega)
   cases eA
   obtain ⟨bd, B1, d1, B3, d3, B4, d4, eB, hv0, hv1, hv2, hv3, hv4, ml1, mg1, ml3, mg3, ml4, mg4⟩ := at_T91 (Kd.C_below HBB.out HB.out) i (by omega) (by omega)
   cases eB
   have HN := Aside0.mk (fun (W : World) (hb : Below wr.heap.size wr W) => sameNodeT_calls (rd_T91 l i) A1 c1 A3 c3 A4 c4 B1 d1 B3 d3 B4 d4 W (Kd.C_below hg1 hb) hl1 (Kd.C_below hg3 hb) (Kd.C_below hg4 hb) hl4 (Kd.C_below mg1 hb) ml1 (Kd.C_below mg3 hb) (Kd.C_below mg4 hb) ml4)
   generalize rd_T91 l i = x at *
   clear hi hl1 hg1 hl3 hg3 hl4 hg4 ml1 mg1 ml3 mg3 ml4 mg4
   go_wp2
   refine start_ (n := 10) (S := fun w' => w'.cell? (ad.add (i.toNat * 5)) = some (.string x.f0) ∧ w'.cell? ⟨(ad.add (i.toNat * 5)).block, (ad.add (i.toNat * 5)).off + 1, none⟩ = some (.slice A1 x.f1.length c1) ∧ w'.cell? ⟨(ad.add (i.toNat * 5)).block, (ad.add (i.toNat * 5)).off + 2, none⟩ = some (.int .i64 x.f2) ∧ w'.cell? ⟨(ad.add (i.toNat * 5)).block, (ad.add (i.toNat * 5)).off + 3, none⟩ = some (.slice A3 x.f3.length c3) ∧ w'.cell? ⟨(ad.add (i.toNat * 5)).block, (ad.add (i.toNat * 5)).off + 4, none⟩ = some (.slice A4 x.f4.length c4) ∧ w'.cell? (bd.add (i.toNat * 5)) = some (.string x.f0) ∧ w'.cell? ⟨(bd.add (i.toNat * 5)).block, (bd.add (i.toNat * 5)).off + 1, none⟩ = some (.slice B1 x.f1.length d1) ∧ w'.cell? ⟨(bd.add (i.toNat * 5)).block, (bd.add (i.toNat * 5)).off + 2, none⟩ = some (.int .i64 x.f2) ∧ w'.cell? ⟨(bd.add (i.toNat * 5)).block, (bd.add (i.toNat * 5)).off + 3, none⟩ = some (.slice B3 x.f3.length d3) ∧ w'.cell? ⟨(bd.add (i.toNat * 5)).block, (bd.add (i.toNat * 5)).off + 4, none⟩ = some (.slice B4 x.f4.length d4) ∧ Below wr.heap.size wr w') (ds := []) #[false, false, false, false, false, false, false, false, false, false] (by kernel_rfl) rfl rfl ⟨hx0, hx1, hx2, hx3, hx4, hv0, hv1, hv2, hv3, hv4, below_drew1 (Below.refl wr.heap.size wr)⟩ (fun hHeld => ?_)
   refine pure_ (i := 0) (N := some 17) (v := ?_) (a' := ?_) #[true, false, false, false, false, false, false, false, false, false] rfl rfl (by kernel_rfl) (fun _ _ _ h => h) (Or.inl ⟨by rfl, ?_⟩) ?_ ?_
   rotate_left
   ·intro w'
    go_simp
    with_reducible rfl
   rotate_left
   ·simp only [Act.put, List.setIfInBounds_toArray, List.set_cons_zero, List.set_cons_succ]
    rfl
   refine pure_ (i := 1) (N := some 18) (v := ?_) (a' := ?_) #[true, true, false, false, false, false, false, false, false, false] rfl rfl (by kernel_rfl) (fun _ _ _ h => h) (Or.inl ⟨by rfl, ?_⟩) ?_ ?_
   rotate_left
   ·intro w'
    go_simp
    with_reducible rfl
   rotate_left
   ·simp only [Act.put, List.setIfInBounds_toArray, List.set_cons_zero, List.set_cons_succ]
    rfl
   refine pure_ (i := 4) (N := some 21) (v := ?_) (a' := ?_) #[true, true, false, false, true, false, false, false, false, false] rfl rfl (by kernel_rfl) (fun _ _ _ h => h) (Or.inl ⟨by rfl, ?_⟩) ?_ ?_
   rotate_left
   ·intro w'
    go_simp
    with_reducible rfl
   rotate_left
   ·simp only [Act.put, List.setIfInBounds_toArray, List.set_cons_zero, List.set_cons_succ]
    rfl
   refine pure_ (i := 5) (N := some 22) (v := ?_) (a' := ?_) #[true, true, false, false, true, true, false, false, false, false] rfl rfl (by kernel_rfl) (fun _ _ _ h => h) (Or.inl ⟨by rfl, ?_⟩) ?_ ?_
   rotate_left
   ·intro w'
    go_simp
    with_reducible rfl
   rotate_left
   ·simp only [Act.put, List.setIfInBounds_toArray, List.set_cons_zero, List.set_cons_succ]
    rfl
   refine pure_ (i := 2) (N := some 19) (v := ?_) (a' := ?_) #[true, true, true, false, true, true, false, false, false, false] rfl rfl (by kernel_rfl) (fun _ _ _ h => h) (Or.inl ⟨by rfl, ?_⟩) ?_ ?_
   rotate_left
   ·intro w'
    go_simp
    with_reducible rfl
   rotate_left
   ·simp only [Act.put, List.setIfInBounds_toArray, List.set_cons_zero, List.set_cons_succ]
    rfl
   refine pure_ (i := 6) (N := some 23) (v := ?_) (a' := ?_) #[true, true, true, false, true, true, true, false, false, false] rfl rfl (by kernel_rfl) (fun _ _ _ h => h) (Or.inl ⟨by rfl, ?_⟩) ?_ ?_
   rotate_left
   ·intro w'
    go_simp
    with_reducible rfl
   rotate_left
   ·simp only [Act.put, List.setIfInBounds_toArray, List.set_cons_zero, List.set_cons_succ]
    rfl
   refine take_ (i := 3) (N := some 20) (v := (.agg #[.string x.f0, .slice A1 x.f1.length c1, .int .i64 x.f2, .slice A3 x.f3.length c3, .slice A4 x.f4.length c4])) (a' := ?_) #[true, true, true, true, true, true, true, false, false, false] rfl rfl (by kernel_rfl) (fun _ _ _ h => h) (Or.inl ⟨by rfl, ?_⟩) hHeld ?_ ?_
   rotate_left
   rotate_left
   ·simp only [Act.put, List.setIfInBounds_toArray, List.set_cons_zero, List.set_cons_succ]
    rfl
   rotate_left
   ·rintro w' ⟨s0, s1, s2, s3, s4, s5, s6, s7, s8, s9, s10⟩
    go_simp
   refine take_ (i := 7) (N := some 24) (v := (.agg #[.string x.f0, .slice B1 x.f1.length d1, .int .i64 x.f2, .slice B3 x.f3.length d3, .slice B4 x.f4.length d4])) (a' := ?_) #[true, true, true, true, true, true, true, true, false, false] rfl rfl (by kernel_rfl) (fun _ _ _ h => h) (Or.inl ⟨by rfl, ?_⟩) hHeld ?_ ?_
   rotate_left
   rotate_left
   ·simp only [Act.put, List.setIfInBounds_toArray, List.set_cons_zero, List.set_cons_succ]
    rfl
   rotate_left
   ·rintro w' ⟨s0, s1, s2, s3, s4, s5, s6, s7, s8, s9, s10⟩
    go_simp
   refine one_ (i := 8) (N := some 25) #[true, true, true, true, true, true, true, true, true, false] rfl rfl (by kernel_rfl) (by decide) (fun K hK => ?_)
   refine goes_ Try.func88 (by kernel_rfl) rfl #[.agg #[.string x.f0, .slice A1 x.f1.length c1, .int .i64 x.f2, .slice A3 x.f3.length c3, .slice A4 x.f4.length c4], .agg #[.string x.f0, .slice B1 x.f1.length d1, .int .i64 x.f2, .slice B3 x.f3.length d3, .slice B4 x.f4.length d4]] (by rfl) rfl rfl (by first | rfl | (simp only [List.map_toArray, List.map_cons, List.map_nil]; rfl)) ?_
   refine (HN.out _ hHeld.2.2.2.2.2.2.2.2.2.2).mono ?_
   rintro e w5 ⟨rfl, hb⟩
   refine ⟨_, rfl, hK.out _ _ ⟨cell_step hHeld.1 hb, cell_step hHeld.2.1 hb, cell_step hHeld.2.2.1 hb, cell_step hHeld.2.2.2.1 hb, cell_step hHeld.2.2.2.2.1 hb, cell_step hHeld.2.2.2.2.2.1 hb, cell_step hHeld.2.2.2.2.2.2.1 hb, cell_step hHeld.2.2.2.2.2.2.2.1 hb, cell_step hHeld.2.2.2.2.2.2.2.2.1 hb, cell_step hHeld.2.2.2.2.2.2.2.2.2.1 hb, below_step hHeld.2.2.2.2.2.2.2.2.2.2 hb⟩ (fun hHeld => ?_)⟩
   clear hb
   clear hK K
   simp only [Act.put, List.setIfInBounds_toArray, List.set_cons_zero, List.set_cons_succ]
   refine pure_ (i := 9) (N := some 26) (v := ?_) (a' := ?_) #[true, true, true, true, true, true, true, true, true, true] rfl rfl (by kernel_rfl) (fun _ _ _ h => h) (Or.inl ⟨by rfl, ?_⟩) ?_ ?_
   rotate_left
   ·intro w'
    go_simp
    with_reducible rfl
   rotate_left
   ·simp only [Act.put, List.setIfInBounds_toArray, List.set_cons_zero, List.set_cons_succ]
    rfl
   have HB5 := Aside0.mk (below_step HB.out hHeld.2.2.2.2.2.2.2.2.2.2)
   clear hHeld hx0 hx1 hx2 hx3 hx4 hv0 hv1 hv2 hv3 hv4
   refine done_ (n := 0) (by kernel_rfl) ?_
   go_wp2
   go_roundg k1
   case measure => omega
   case rel => exact ⟨i + 1, rfl, ⟨by have := HI.out; omega, by have := HI.out; omega⟩, HB5⟩
theorem sameopsT_go (s : ByteArray) (a b c : Int) (l : List S69) (hl : l.length ≤ 9223372036854775807) : ∀ (d k : Nat) (i : Int), 0 ≤ i → i + d = l.length → d < k → tinderref09_SameWord.l0 k i s a b c l s a b c l = some true
 | 0, k, i, h0, h1, hk => by
  obtain ⟨k, rfl⟩ : ∃ m, k = m + 1 := ⟨k - 1, by omega⟩
  rw [tinderref09_SameWord.l0, if_neg (by omega)]
 | d + 1, k, i, h0, h1, hk => by
  obtain ⟨k, rfl⟩ : ∃ m, k = m + 1 := ⟨k - 1, by omega⟩
  have hw : wrap64 (i + 1) = i + 1 := by unfold wrap64; omega
  rw [tinderref09_SameWord.l0, if_pos (by omega), if_pos h0, if_pos (by omega), if_neg (by simp), hw]
  exact sameopsT_go s a b c l hl d k (i + 1) (by omega) (by omega) (by omega)
theorem sameWordT_calls (x : S51) (A4 : Option Addr) (c4 : Nat) (B4 : Option Addr) (d4 : Nat) (w : World) (hA : Kd.C k69 w A4 x.f4.length x.f4) (hc : x.f4.length ≤ c4) (hB : Kd.C k69 w B4 x.f4.length x.f4) (hd : x.f4.length ≤ d4) :
  Calls Try.prog 52 #[.agg #[.string x.f0, .int .i64 x.f1, .int .i64 x.f2, .int .u32 x.f3, .slice A4 x.f4.length c4], .agg #[.string x.f0, .int .i64 x.f1, .int .i64 x.f2, .int .u32 x.f3, .slice B4 x.f4.length d4]] w fun e w' => e = .returned (.bool true) ∧ Below w.heap.size w w' := by
 refine tinderref09_SameWord.calls (x.f4.length + 3) x.f0 x.f1 x.f2 x.f3 A4 c4 x.f4 x.f0 x.f1 x.f2 x.f3 B4 d4 x.f4 true w hA hc hB hd ?_
 unfold tinderref09_SameWord.f
 rw [if_pos rfl, if_pos rfl, if_pos rfl, if_pos rfl, show ((x.f4.length : Int) != (x.f4.length : Int)) = false by simp, tinderref09_SameWord.j0, if_neg (by simp)]
 exact sameopsT_go _ _ _ _ _ (Kd.C_max hA) x.f4.length _ 0 (Int.le_refl _) (by omega) (by omega)
theorem sameInstT_calls (x : S82) (A3 : Option Addr) (c3 : Nat) (B3 : Option Addr) (d3 : Nat) (w : World) (hA : Kd.C (Kd.int .u32) w A3 x.f3.length x.f3) (hc : x.f3.length ≤ c3) (hB : Kd.C (Kd.int .u32) w B3 x.f3.length x.f3) (hd : x.f3.length ≤ d3) :
  Calls Try.prog 69 #[.agg #[.int .i64 x.f0, .int .i64 x.f1, .string x.f2, .slice A3 x.f3.length c3], .agg #[.int .i64 x.f0, .int .i64 x.f1, .string x.f2, .slice B3 x.f3.length d3]] w fun e w' => e = .returned (.bool true) ∧ Below w.heap.size w w' := by
 refine tinderref09_SameInst.calls (x.f3.length + 3) x.f0 x.f1 x.f2 A3 c3 x.f3 x.f0 x.f1 x.f2 B3 d3 x.f3 true w hA hc hB hd ?_
 unfold tinderref09_SameInst.f
 rw [if_pos rfl, if_pos rfl, if_pos rfl, same3_eq _ _ (Kd.C_max hA) _ (by omega), decide_eq_true rfl]
 rfl
set_option maxHeartbeats 8000000 in
set_option maxRecDepth 100000 in
theorem sameButT_calls (l0 l1 : List Int) (l2 : List S51) (l3 : List Int) (a4 : Int) (l5 : List S91) (a6 : Int) (l7 : List S82) (a8 : Int) (a9 : ByteArray) (A0 : Option Addr) (c0 : Nat) (A1 : Option Addr) (c1 : Nat) (A2 : Option Addr) (c2 : Nat) (A3 : Option Addr) (c3 : Nat) (A5 : Option Addr) (c5 : Nat) (A7 : Option Addr) (c7 : Nat) (B0 : Option Addr) (d0 : Nat) (B1 : Option Addr) (d1 : Nat) (B2 : Option Addr) (d2 : Nat) (B3 : Option Addr) (d3 : Nat) (B5 : Option Addr) (d5 : Nat) (B7 : Option Addr) (d7 : Nat) (w : World) (gr0 : Kd.C (Kd.int .u32) w A0 l0.length l0) (gc0 : l0.length ≤ c0) (gr1 : Kd.C (Kd.int .u8) w A1 l1.length l1) (gc1 : l1.length ≤ c1) (gr2 : Kd.C k51 w A2 l2.length l2) (gc2 : l2.length ≤ c2) (gr3 : Kd.C (Kd.int .i64) w A3 l3.length l3) (gc3 : l3.length ≤ c3) (gr5 : Kd.C k91 w A5 l5.length l5) (gc5 : l5.length ≤ c5) (gr7 : Kd.C k82 w A7 l7.length l7) (gc7 : l7.length ≤ c7) (hr0 : Kd.C (Kd.int .u32) w B0 l0.length l0) (hc0 : l0.length ≤ d0) (hr1 : Kd.C (Kd.int .u8) w B1 l1.length l1) (hc1 : l1.length ≤ d1) (hr2 : Kd.C k51 w B2 l2.length l2) (hc2 : l2.length ≤ d2) (hr3 : Kd.C (Kd.int .i64) w B3 l3.length l3) (hc3 : l3.length ≤ d3) (hr5 : Kd.C k91 w B5 l5.length l5) (hc5 : l5.length ≤ d5) (hr7 : Kd.C k82 w B7 l7.length l7) (hc7 : l7.length ≤ d7) :
  Calls Try.prog 34 #[.agg #[.slice A0 l0.length c0, .slice A1 l1.length c1, .slice A2 l2.length c2, .slice A3 l3.length c3, .int .u32 a4, .slice A5 l5.length c5, .int .i64 a6, .slice A7 l7.length c7, .int .i64 a8, .string a9], .agg #[.slice B0 l0.length d0, .slice B1 l1.length d1, .slice B2 l2.length d2, .slice B3 l3.length d3, .int .u32 a4, .slice B5 l5.length d5, .int .i64 a6, .slice B7 l7.length d7, .int .i64 a8, .string a9]] w fun e w' => e = .returned (.bool true) ∧ Below w.heap.size w w' := by
 have hu32 := Try.underlying32
 have hu51 := Try.underlying51
 have hu82 := Try.underlying82
 have mixed : Try.prog.follows Departure.mixedOrders = true := by kernel_rfl
 have HM2 := Aside0.mk (Kd.C_max gr2)
 have HM7 := Aside0.mk (Kd.C_max gr7)
 have H0 := Aside0.mk (fun (W : World) (hb : Below w.heap.size w W) => same3_calls l0 A0 c0 B0 d0 W (Kd.C_below gr0 hb) gc0 (Kd.C_below hr0 hb) hc0)
 have H1 := Aside0.mk (fun (W : World) (hb : Below w.heap.size w W) => same4_calls l1 A1 c1 B1 d1 W (Kd.C_below gr1 hb) gc1 (Kd.C_below hr1 hb) hc1)
 have H5 := Aside0.mk (fun (W : World) (hb : Below w.heap.size w W) => same8T_calls l5 A5 c5 B5 d5 W (Kd.C_below gr5 hb) (Kd.C_below hr5 hb))
 have G2 := Aside0.mk gr2
 have G7 := Aside0.mk gr7
 have R2 := Aside0.mk hr2
 have R7 := Aside0.mk hr7
 clear gr0 gc0 gr1 gc1 gr2 gc2 gr3 gc3 gr5 gc5 gr7 gc7 hr0 hc0 hr1 hc1 hr2 hc2 hr3 hc3 hr5 hc5 hr7 hc7
 go_enter Try.func34, Try.ntmps34
 go_wp2_with (first
  | ((with_reducible refine gate_dst (N := 2) rfl ?_); refine box_event ?hg (N := 2) ?hd (cs := #[.slice A0 l0.length c0, .slice A1 l1.length c1, .slice A2 l2.length c2, .slice A3 l3.length c3, .int .u32 a4, .slice A5 l5.length c5, .int .i64 a6, .slice A7 l7.length c7, .int .i64 a8, .string a9]) (t := 32) ?hr ?_; (case hd => rfl); (case hg => rfl); (case hr => first | (go_simp; done) | (go_simp; rfl)); intro ga hga w1 hbox hb; have K1 := Aside0.mk hbox; have HB := Aside0.mk hb; clear hbox hb hga)
  | ((with_reducible refine gate_dst (N := 3) rfl ?_); refine box_event ?hg (N := 3) ?hd (cs := #[.slice B0 l0.length d0, .slice B1 l1.length d1, .slice B2 l2.length d2, .slice B3 l3.length d3, .int .u32 a4, .slice B5 l5.length d5, .int .i64 a6, .slice B7 l7.length d7, .int .i64 a8, .string a9]) (t := 32) ?hr ?_; (case hd => rfl); (case hg => rfl); (case hr => first | (go_simp; done) | (go_simp; rfl)); intro gb hga w2 hbox hb; replace K1 := Aside0.mk (blk_below K1.out hb); have K2 := Aside0.mk hbox; replace HB := Aside0.mk (below_step HB.out hb); have hz0 := (blk_cell K1.out 0).trans rfl; have hz1 := (blk_cell K1.out 1).trans rfl; have hz2 := (blk_cell K1.out 2).trans rfl; have hz3 := (blk_cell K1.out 3).trans rfl; have hz4 := (blk_cell K1.out 4).trans rfl; have hz5 := (blk_cell K1.out 5).trans rfl; have hz6 := (blk_cell K1.out 6).trans rfl; have hz7 := (blk_cell K1.out 7).trans rfl; have hz8 := (blk_cell K1.out 8).trans rfl; have hz9 := (blk_cell K1.out 9).trans rfl; have hy0 := (blk_cell K2.out 0).trans rfl; have hy1 := (blk_cell K2.out 1).trans rfl; have hy2 := (blk_cell K2.out 2).trans rfl; have hy3 := (blk_cell K2.out 3).trans rfl; have hy4 := (blk_cell K2.out 4).trans rfl; have hy5 := (blk_cell K2.out 5).trans rfl; have hy6 := (blk_cell K2.out 6).trans rfl; have hy7 := (blk_cell K2.out 7).trans rfl; have hy8 := (blk_cell K2.out 8).trans rfl; have hy9 := (blk_cell K2.out 9).trans rfl; have hfa0 := blk_frozen K1.out 0; have hfa1 := blk_frozen K1.out 1; have hfa2 := blk_frozen K1.out 2; have hfa3 := blk_frozen K1.out 3; have hfa4 := blk_frozen K1.out 4; have hfa5 := blk_frozen K1.out 5; have hfa6 := blk_frozen K1.out 6; have hfa7 := blk_frozen K1.out 7; have hfa8 := blk_frozen K1.out 8; have hfa9 := blk_frozen K1.out 9; have hfb0 := blk_frozen K2.out 0; have hfb1 := blk_frozen K2.out 1; have hfb2 := blk_frozen K2.out 2; have hfb3 := blk_frozen K2.out 3; have hfb4 := blk_frozen K2.out 4; have hfb5 := blk_frozen K2.out 5; have hfb6 := blk_frozen K2.out 6; have hfb7 := blk_frozen K2.out 7; have hfb8 := blk_frozen K2.out 8; have hfb9 := blk_frozen K2.out 9; clear hbox hb hga)
  | (go_at_call 66; (with_reducible refine (H0.out _ (by first | exact HB.out | exact pw_below_drewN HB.out _ | exact pw_below_drewN (pw_below_drewN HB.out _) _)).mono ?_); rintro e w3 ⟨rfl, n, rfl⟩)
  | (go_at_call 67; (with_reducible refine (H1.out _ (by first | exact HB.out | exact pw_below_drewN HB.out _ | exact pw_below_drewN (pw_below_drewN HB.out _) _)).mono ?_); rintro e w3 ⟨rfl, n2, rfl⟩)
  | (go_at_call 68; (with_reducible refine (H5.out _ (by first | exact HB.out | exact pw_below_drewN HB.out _ | exact pw_below_drewN (pw_below_drewN HB.out _) _)).mono ?_); rintro e w5 ⟨rfl, hb⟩; replace K1 := Aside0.mk (blk_below (w1 := w5) (show (World.drewN _ _).heap[ga]? = some (.cells #[.slice A0 l0.length c0, .slice A1 l1.length c1, .slice A2 l2.length c2, .slice A3 l3.length c3, .int .u32 a4, .slice A5 l5.length c5, .int .i64 a6, .slice A7 l7.length c7, .int .i64 a8, .string a9] 32 (0, 0)) from K1.out) hb); replace K2 := Aside0.mk (blk_below (w1 := w5) (show (World.drewN _ _).heap[gb]? = some (.cells #[.slice B0 l0.length d0, .slice B1 l1.length d1, .slice B2 l2.length d2, .slice B3 l3.length d3, .int .u32 a4, .slice B5 l5.length d5, .int .i64 a6, .slice B7 l7.length d7, .int .i64 a8, .string a9] 32 (0, 0)) from K2.out) hb); replace HB := Aside0.mk (below_step (by first | exact HB.out | exact pw_below_drewN HB.out _ | exact pw_below_drewN (pw_below_drewN HB.out _) _) hb); clear hb hz0 hz1 hz2 hz3 hz4 hz5 hz6 hz7 hz8 hz9 hy0 hy1 hy2 hy3 hy4 hy5 hy6 hy7 hy8 hy9 hfa0 hfa1 hfa2 hfa3 hfa4 hfa5 hfa6 hfa7 hfa8 hfa9 hfb0 hfb1 hfb2 hfb3 hfb4 hfb5 hfb6 hfb7 hfb8 hfb9; have hz0 := (blk_cell K1.out 0).trans rfl; have hz1 := (blk_cell K1.out 1).trans rfl; have hz2 := (blk_cell K1.out 2).trans rfl; have hz3 := (blk_cell K1.out 3).trans rfl; have hz4 := (blk_cell K1.out 4).trans rfl; have hz5 := (blk_cell K1.out 5).trans rfl; have hz6 := (blk_cell K1.out 6).trans rfl; have hz7 := (blk_cell K1.out 7).trans rfl; have hz8 := (blk_cell K1.out 8).trans rfl; have hz9 := (blk_cell K1.out 9).trans rfl; have hy0 := (blk_cell K2.out 0).trans rfl; have hy1 := (blk_cell K2.out 1).trans rfl; have hy2 := (blk_cell K2.out 2).trans rfl; have hy3 := (blk_cell K2.out 3).trans rfl; have hy4 := (blk_cell K2.out 4).trans rfl; have hy5 := (blk_cell K2.out 5).trans rfl; have hy6 := (blk_cell K2.out 6).trans rfl; have hy7 := (blk_cell K2.out 7).trans rfl; have hy8 := (blk_cell K2.out 8).trans rfl; have hy9 := (blk_cell K2.out 9).trans rfl; have hfa0 := blk_frozen K1.out 0; have hfa1 := blk_frozen K1.out 1; have hfa2 := blk_frozen K1.out 2; have hfa3 := blk_frozen K1.out 3; have hfa4 := blk_frozen K1.out 4; have hfa5 := blk_frozen K1.out 5; have hfa6 := blk_frozen K1.out 6; have hfa7 := blk_frozen K1.out 7; have hfa8 := blk_frozen K1.out 8; have hfa9 := blk_frozen K1.out 9; have hfb0 := blk_frozen K2.out 0; have hfb1 := blk_frozen K2.out 1; have hfb2 := blk_frozen K2.out 2; have hfb3 := blk_frozen K2.out 3; have hfb4 := blk_frozen K2.out 4; have hfb5 := blk_frozen K2.out 5; have hfb6 := blk_frozen K2.out 6; have hfb7 := blk_frozen K2.out 7; have hfb8 := blk_frozen K2.out 8; have hfb9 := blk_frozen K2.out 9))
 clear hz0 hz1 hz2 hz3 hz4 hz5 hz6 hz7 hz8 hz9 hy0 hy1 hy2 hy3 hy4 hy5 hy6 hy7 hy8 hy9 hfa0 hfa1 hfa2 hfa3 hfa4 hfa5 hfa6 hfa7 hfa8 hfa9 hfb0 hfb1 hfb2 hfb3 hfb4 hfb5 hfb6 hfb7 hfb8 hfb9
 go_loopg [5] l2.length (fun kq v5 w' => ∃ i : Int, v5 = .int .i64 i ∧ Aside0 (0 ≤ i ∧ i + kq = l2.length) ∧ Aside0 (w'.heap[ga]? = some (.cells #[.slice A0 l0.length c0, .slice A1 l1.length c1, .slice A2 l2.length c2, .slice A3 l3.length c3, .int .u32 a4, .slice A5 l5.length c5, .int .i64 a6, .slice A7 l7.length c7, .int .i64 a8, .string a9] 32 (0, 0))) ∧ Aside0 (w'.heap[gb]? = some (.cells #[.slice B0 l0.length d0, .slice B1 l1.length d1, .slice B2 l2.length d2, .slice B3 l3.length d3, .int .u32 a4, .slice B5 l5.length d5, .int .i64 a6, .slice B7 l7.length d7, .int .i64 a8, .string a9] 32 (0, 0))) ∧ Aside0 (Below w.heap.size w w'))
 case atStart => exact ⟨0, rfl, ⟨by omega, by omega⟩, ⟨K1.out⟩, ⟨K2.out⟩, ⟨by first | exact HB.out | exact pw_below_drewN HB.out _ | exact pw_below_drewN (pw_below_drewN HB.out _) _⟩⟩
 case round =>
  clear K1 K2 HB
  obtain ⟨i, rfl, HI, K1, K2, HB⟩ := hrel
  have hz := (blk_cell K1.out 2).trans rfl
  have hy := (blk_cell K2.out 2).trans rfl
  have hfz := blk_frozen K1.out 2
  have hfy := blk_frozen K2.out 2
  cases gk with
  | zero =>
   have hlt : decide (i < (l2.length : Int)) = false := decide_eq_false (by have := HI.out; omega)
   have hz7 := (blk_cell K1.out 7).trans rfl
   have hy7 := (blk_cell K2.out 7).trans rfl
   have hfz7 := blk_frozen K1.out 7
   have hfy7 := blk_frozen K2.out 7
   go_wp2
   go_loopg [6] l7.length (fun kq v6 w' => ∃ i : Int, v6 = .int .i64 i ∧ Aside0 (0 ≤ i ∧ i + kq = l7.length) ∧ Aside0 (w'.heap[ga]? = some (.cells #[.slice A0 l0.length c0, .slice A1 l1.length c1, .slice A2 l2.length c2, .slice A3 l3.length c3, .int .u32 a4, .slice A5 l5.length c5, .int .i64 a6, .slice A7 l7.length c7, .int .i64 a8, .string a9] 32 (0, 0))) ∧ Aside0 (w'.heap[gb]? = some (.cells #[.slice B0 l0.length d0, .slice B1 l1.length d1, .slice B2 l2.length d2, .slice B3 l3.length d3, .int .u32 a4, .slice B5 l5.length d5, .int .i64 a6, .slice B7 l7.length d7, .int .i64 a8, .string a9] 32 (0, 0))) ∧ Aside0 (Below w.heap.size w w'))
   case atStart => exact ⟨0, rfl, ⟨by omega, by omega⟩, ⟨K1.out⟩, ⟨K2.out⟩, ⟨by first | exact HB.out | exact pw_below_drewN HB.out _ | exact pw_below_drewN (pw_below_drewN HB.out _) _⟩⟩
   case round =>
    clear K1 K2 HB hz hy hfz hfy hz7 hy7 hfz7 hfy7 HI
    obtain ⟨i, rfl, HI, K1, K2, HB⟩ := hrel
    have hz := (blk_cell K1.out 7).trans rfl
    have hy := (blk_cell K2.out 7).trans rfl
    have hfz := blk_frozen K1.out 7
    have hfy := blk_frozen K2.out 7
    cases gk with
    | zero =>
     have hlt : decide (i < (l7.length : Int)) = false := decide_eq_false (by have := HI.out; omega)
     go_wp2
     go_ret
     exact ⟨rfl, HB.out⟩
    | succ k1 =>
     have hi := HI.out
     have hlt : decide (i < (l7.length : Int)) = true := decide_eq_true (by omega)
     have p1 : (0 ≤ i) = True := eq_true (by omega)
     have p2 : (i < (l7.length : Int)) = True := eq_true (by omega)
     have hwr : IntKind.i64.wrap (i + 1) = i + 1 := (i64_w _).trans (by have := HM7.out; unfold wrap64; omega)
     have hwr2 : wrap64 (i + 1) = i + 1 := by have := HM7.out; unfold wrap64; omega
     obtain ⟨ad, A3, c3, eA, hx0, hx1, hx2, hx3, hl1, hg1⟩ := at_T82 (Kd.C_below G7.out HB.out) i (by omega) (by omega)
     cases eA
     obtain ⟨bd, B3, d3, eB, hv0, hv1, hv2, hv3, ml1, mg1⟩ := at_T82 (Kd.C_below R7.out HB.out) i (by omega) (by omega)
     cases eB
     have HN := Aside0.mk (fun (W : World) (hb : Below wr.heap.size wr W) => sameInstT_calls (rd_T82 l7 i) A3 c3 B3 d3 W (Kd.C_below hg1 hb) hl1 (Kd.C_below mg1 hb) ml1)
     have hp0 : wr.cell? ⟨ga, 7, none⟩ = some (.slice (some ad) l7.length c7) := hz
     have hp1 : wr.cell? ⟨gb, 7, none⟩ = some (.slice (some bd) l7.length d7) := hy
     clear hz hy hfz hfy
     generalize rd_T82 l7 i = x at *
     clear hi hl1 hg1 ml1 mg1
     go_wp2
     refine start_ (n := 12) (S := fun w' => w'.cell? ⟨ga, 7, none⟩ = some (.slice (some ad) l7.length c7) ∧ w'.cell? ⟨gb, 7, none⟩ = some (.slice (some bd) l7.length d7) ∧ w'.cell? (ad.add (i.toNat * 4)) = some (.int .i64 x.f0) ∧ w'.cell? ⟨(ad.add (i.toNat * 4)).block, (ad.add (i.toNat * 4)).off + 1, none⟩ = some (.int .i64 x.f1) ∧ w'.cell? ⟨(ad.add (i.toNat * 4)).block, (ad.add (i.toNat * 4)).off + 2, none⟩ = some (.string x.f2) ∧ w'.cell? ⟨(ad.add (i.toNat * 4)).block, (ad.add (i.toNat * 4)).off + 3, none⟩ = some (.slice A3 x.f3.length c3) ∧ w'.cell? (bd.add (i.toNat * 4)) = some (.int .i64 x.f0) ∧ w'.cell? ⟨(bd.add (i.toNat * 4)).block, (bd.add (i.toNat * 4)).off + 1, none⟩ = some (.int .i64 x.f1) ∧ w'.cell? ⟨(bd.add (i.toNat * 4)).block, (bd.add (i.toNat * 4)).off + 2, none⟩ = some (.string x.f2) ∧ w'.cell? ⟨(bd.add (i.toNat * 4)).block, (bd.add (i.toNat * 4)).off + 3, none⟩ = some (.slice B3 x.f3.length d3) ∧ Below wr.heap.size wr w') (ds := []) #[false, false, false, false, false, false, false, false, false, false, false, false] (by kernel_rfl) rfl rfl ⟨hp0, hp1, hx0, hx1, hx2, hx3, hv0, hv1, hv2, hv3, below_drew1 (Below.refl wr.heap.size wr)⟩ (fun hHeld => ?_)
     refine pure_ (i := 0) (N := some 101) (v := ?_) (a' := ?_) #[true, false, false, false, false, false, false, false, false, false, false, false] rfl rfl (by kernel_rfl) (fun _ _ _ h => h) (Or.inl ⟨by rfl, ?_⟩) ?_ ?_
     rotate_left
     ·intro w'
      go_simp
      with_reducible rfl
     rotate_left
     ·simp only [Act.put, List.setIfInBounds_toArray, List.set_cons_zero, List.set_cons_succ]
      rfl
     refine pure_ (i := 2) (N := some 103) (v := ?_) (a' := ?_) #[true, false, true, false, false, false, false, false, false, false, false, false] rfl rfl (by kernel_rfl) (fun _ _ _ h => h) (Or.inl ⟨by rfl, ?_⟩) ?_ ?_
     rotate_left
     ·intro w'
      go_simp
      with_reducible rfl
     rotate_left
     ·simp only [Act.put, List.setIfInBounds_toArray, List.set_cons_zero, List.set_cons_succ]
      rfl
     refine pure_ (i := 5) (N := some 106) (v := ?_) (a' := ?_) #[true, false, true, false, false, true, false, false, false, false, false, false] rfl rfl (by kernel_rfl) (fun _ _ _ h => h) (Or.inl ⟨by rfl, ?_⟩) ?_ ?_
     rotate_left
     ·intro w'
      go_simp
      with_reducible rfl
     rotate_left
     ·simp only [Act.put, List.setIfInBounds_toArray, List.set_cons_zero, List.set_cons_succ]
      rfl
     refine pure_ (i := 7) (N := some 108) (v := ?_) (a' := ?_) #[true, false, true, false, false, true, false, true, false, false, false, false] rfl rfl (by kernel_rfl) (fun _ _ _ h => h) (Or.inl ⟨by rfl, ?_⟩) ?_ ?_
     rotate_left
     ·intro w'
      go_simp
      with_reducible rfl
     rotate_left
     ·simp only [Act.put, List.setIfInBounds_toArray, List.set_cons_zero, List.set_cons_succ]
      rfl
     refine take_ (i := 1) (N := some 102) (v := (.slice (some ad) l7.length c7)) (a' := ?_) #[true, true, true, false, false, true, false, true, false, false, false, false] rfl rfl (by kernel_rfl) (fun _ _ _ h => h) (Or.inl ⟨by rfl, ?_⟩) hHeld ?_ ?_
     rotate_left
     rotate_left
     ·simp only [Act.put, List.setIfInBounds_toArray, List.set_cons_zero, List.set_cons_succ]
      rfl
     rotate_left
     ·rintro w' ⟨s0, s1, s2, s3, s4, s5, s6, s7, s8, s9, s10⟩
      go_simp
     refine take_ (i := 6) (N := some 107) (v := (.slice (some bd) l7.length d7)) (a' := ?_) #[true, true, true, false, false, true, true, true, false, false, false, false] rfl rfl (by kernel_rfl) (fun _ _ _ h => h) (Or.inl ⟨by rfl, ?_⟩) hHeld ?_ ?_
     rotate_left
     rotate_left
     ·simp only [Act.put, List.setIfInBounds_toArray, List.set_cons_zero, List.set_cons_succ]
      rfl
     rotate_left
     ·rintro w' ⟨s0, s1, s2, s3, s4, s5, s6, s7, s8, s9, s10⟩
      go_simp
     refine pure_ (i := 3) (N := some 104) (v := ?_) (a' := ?_) #[true, true, true, true, false, true, true, true, false, false, false, false] rfl rfl (by kernel_rfl) (fun _ _ _ h => h) (Or.inl ⟨by rfl, ?_⟩) ?_ ?_
     rotate_left
     ·intro w'
      go_simp
      with_reducible rfl
     rotate_left
     ·simp only [Act.put, List.setIfInBounds_toArray, List.set_cons_zero, List.set_cons_succ]
      rfl
     refine pure_ (i := 8) (N := some 109) (v := ?_) (a' := ?_) #[true, true, true, true, false, true, true, true, true, false, false, false] rfl rfl (by kernel_rfl) (fun _ _ _ h => h) (Or.inl ⟨by rfl, ?_⟩) ?_ ?_
     rotate_left
     ·intro w'
      go_simp
      with_reducible rfl
     rotate_left
     ·simp only [Act.put, List.setIfInBounds_toArray, List.set_cons_zero, List.set_cons_succ]
      rfl
     refine take_ (i := 4) (N := some 105) (v := (.agg #[.int .i64 x.f0, .int .i64 x.f1, .string x.f2, .slice A3 x.f3.length c3])) (a' := ?_) #[true, true, true, true, true, true, true, true, true, false, false, false] rfl rfl (by kernel_rfl) (fun _ _ _ h => h) (Or.inl ⟨by rfl, ?_⟩) hHeld ?_ ?_
     rotate_left
     rotate_left
     ·simp only [Act.put, List.setIfInBounds_toArray, List.set_cons_zero, List.set_cons_succ]
      rfl
     rotate_left
     ·rintro w' ⟨s0, s1, s2, s3, s4, s5, s6, s7, s8, s9, s10⟩
      go_simp
     refine take_ (i := 9) (N := some 110) (v := (.agg #[.int .i64 x.f0, .int .i64 x.f1, .string x.f2, .slice B3 x.f3.length d3])) (a' := ?_) #[true, true, true, true, true, true, true, true, true, true, false, false] rfl rfl (by kernel_rfl) (fun _ _ _ h => h) (Or.inl ⟨by rfl, ?_⟩) hHeld ?_ ?_
     rotate_left
     rotate_left
     ·simp only [Act.put, List.setIfInBounds_toArray, List.set_cons_zero, List.set_cons_succ]
      rfl
     rotate_left
     ·rintro w' ⟨s0, s1, s2, s3, s4, s5, s6, s7, s8, s9, s10⟩
      go_simp
     refine one_ (i := 10) (N := some 111) #[true, true, true, true, true, true, true, true, true, true, true, false] rfl rfl (by kernel_rfl) (by decide) (fun K hK => ?_)
     refine goes_ Try.func69 (by kernel_rfl) rfl #[.agg #[.int .i64 x.f0, .int .i64 x.f1, .string x.f2, .slice A3 x.f3.length c3], .agg #[.int .i64 x.f0, .int .i64 x.f1, .string x.f2, .slice B3 x.f3.length d3]] (by rfl) rfl rfl (by first | rfl | (simp only [List.map_toArray, List.map_cons, List.map_nil]; rfl)) ?_
     refine (HN.out _ hHeld.2.2.2.2.2.2.2.2.2.2).mono ?_
     rintro e w5 ⟨rfl, hb⟩
     refine ⟨_, rfl, hK.out _ _ ⟨cell_step hHeld.1 hb, cell_step hHeld.2.1 hb, cell_step hHeld.2.2.1 hb, cell_step hHeld.2.2.2.1 hb, cell_step hHeld.2.2.2.2.1 hb, cell_step hHeld.2.2.2.2.2.1 hb, cell_step hHeld.2.2.2.2.2.2.1 hb, cell_step hHeld.2.2.2.2.2.2.2.1 hb, cell_step hHeld.2.2.2.2.2.2.2.2.1 hb, cell_step hHeld.2.2.2.2.2.2.2.2.2.1 hb, below_step hHeld.2.2.2.2.2.2.2.2.2.2 hb⟩ (fun hHeld => ?_)⟩
     clear hb
     clear hK K
     simp only [Act.put, List.setIfInBounds_toArray, List.set_cons_zero, List.set_cons_succ]
     refine pure_ (i := 11) (N := some 112) (v := ?_) (a' := ?_) #[true, true, true, true, true, true, true, true, true, true, true, true] rfl rfl (by kernel_rfl) (fun _ _ _ h => h) (Or.inl ⟨by rfl, ?_⟩) ?_ ?_
     rotate_left
     ·intro w'
      go_simp
      with_reducible rfl
     rotate_left
     ·simp only [Act.put, List.setIfInBounds_toArray, List.set_cons_zero, List.set_cons_succ]
      rfl
     have HB5 := Aside0.mk (below_step HB.out hHeld.2.2.2.2.2.2.2.2.2.2)
     have HW5 := Aside0.mk hHeld.2.2.2.2.2.2.2.2.2.2
     clear hHeld hp0 hp1 hx0 hx1 hx2 hx3 hv0 hv1 hv2 hv3
     refine done_ (n := 0) (by kernel_rfl) ?_
     replace K1 := Aside0.mk ((HW5.out.block ga (blk_lt K1.out)).trans K1.out)
     replace K2 := Aside0.mk ((HW5.out.block gb (blk_lt K2.out)).trans K2.out)
     go_wp2
     go_roundg k1
     case measure => omega
     case rel => exact ⟨i + 1, rfl, ⟨by have := HI.out; omega, by have := HI.out; omega⟩, ⟨K1.out⟩, ⟨K2.out⟩, HB5⟩
  | succ k1 =>
   have hi := HI.out
   have hlt : decide (i < (l2.length : Int)) = true := decide_eq_true (by omega)
   have p1 : (0 ≤ i) = True := eq_true (by omega)
   have p2 : (i < (l2.length : Int)) = True := eq_true (by omega)
   have hwr : IntKind.i64.wrap (i + 1) = i + 1 := (i64_w _).trans (by have := HM2.out; unfold wrap64; omega)
   have hwr2 : wrap64 (i + 1) = i + 1 := by have := HM2.out; unfold wrap64; omega
   obtain ⟨ad, A4, c4, eA, hx0, hx1, hx2, hx3, hx4, hl1, hg1⟩ := at_T51 (Kd.C_below G2.out HB.out) i (by omega) (by omega)
   cases eA
   obtain ⟨bd, B4, d4, eB, hv0, hv1, hv2, hv3, hv4, ml1, mg1⟩ := at_T51 (Kd.C_below R2.out HB.out) i (by omega) (by omega)
   cases eB
   have HN := Aside0.mk (fun (W : World) (hb : Below wr.heap.size wr W) => sameWordT_calls (rd_T51 l2 i) A4 c4 B4 d4 W (Kd.C_below hg1 hb) hl1 (Kd.C_below mg1 hb) ml1)
   have hp0 : wr.cell? ⟨ga, 2, none⟩ = some (.slice (some ad) l2.length c2) := hz
   have hp1 : wr.cell? ⟨gb, 2, none⟩ = some (.slice (some bd) l2.length d2) := hy
   clear hz hy hfz hfy
   generalize rd_T51 l2 i = x at *
   clear hi hl1 hg1 ml1 mg1
   go_wp2
   refine start_ (n := 12) (S := fun w' => w'.cell? ⟨ga, 2, none⟩ = some (.slice (some ad) l2.length c2) ∧ w'.cell? ⟨gb, 2, none⟩ = some (.slice (some bd) l2.length d2) ∧ w'.cell? (ad.add (i.toNat * 5)) = some (.string x.f0) ∧ w'.cell? ⟨(ad.add (i.toNat * 5)).block, (ad.add (i.toNat * 5)).off + 1, none⟩ = some (.int .i64 x.f1) ∧ w'.cell? ⟨(ad.add (i.toNat * 5)).block, (ad.add (i.toNat * 5)).off + 2, none⟩ = some (.int .i64 x.f2) ∧ w'.cell? ⟨(ad.add (i.toNat * 5)).block, (ad.add (i.toNat * 5)).off + 3, none⟩ = some (.int .u32 x.f3) ∧ w'.cell? ⟨(ad.add (i.toNat * 5)).block, (ad.add (i.toNat * 5)).off + 4, none⟩ = some (.slice A4 x.f4.length c4) ∧ w'.cell? (bd.add (i.toNat * 5)) = some (.string x.f0) ∧ w'.cell? ⟨(bd.add (i.toNat * 5)).block, (bd.add (i.toNat * 5)).off + 1, none⟩ = some (.int .i64 x.f1) ∧ w'.cell? ⟨(bd.add (i.toNat * 5)).block, (bd.add (i.toNat * 5)).off + 2, none⟩ = some (.int .i64 x.f2) ∧ w'.cell? ⟨(bd.add (i.toNat * 5)).block, (bd.add (i.toNat * 5)).off + 3, none⟩ = some (.int .u32 x.f3) ∧ w'.cell? ⟨(bd.add (i.toNat * 5)).block, (bd.add (i.toNat * 5)).off + 4, none⟩ = some (.slice B4 x.f4.length d4) ∧ Below wr.heap.size wr w') (ds := []) #[false, false, false, false, false, false, false, false, false, false, false, false] (by kernel_rfl) rfl rfl ⟨hp0, hp1, hx0, hx1, hx2, hx3, hx4, hv0, hv1, hv2, hv3, hv4, below_drew1 (Below.refl wr.heap.size wr)⟩ (fun hHeld => ?_)
   refine pure_ (i := 0) (N := some 82) (v := ?_) (a' := ?_) #[true, false, false, false, false, false, false, false, false, false, false, false] rfl rfl (by kernel_rfl) (fun _ _ _ h => h) (Or.inl ⟨by rfl, ?_⟩) ?_ ?_
   rotate_left
   ·intro w'
    go_simp
    with_reducible rfl
   rotate_left
   ·simp only [Act.put, List.setIfInBounds_toArray, List.set_cons_zero, List.set_cons_succ]
    rfl
   refine pure_ (i := 2) (N := some 84) (v := ?_) (a' := ?_) #[true, false, true, false, false, false, false, false, false, false, false, false] rfl rfl (by kernel_rfl) (fun _ _ _ h => h) (Or.inl ⟨by rfl, ?_⟩) ?_ ?_
   rotate_left
   ·intro w'
    go_simp
    with_reducible rfl
   rotate_left
   ·simp only [Act.put, List.setIfInBounds_toArray, List.set_cons_zero, List.set_cons_succ]
    rfl
   refine pure_ (i := 5) (N := some 87) (v := ?_) (a' := ?_) #[true, false, true, false, false, true, false, false, false, false, false, false] rfl rfl (by kernel_rfl) (fun _ _ _ h => h) (Or.inl ⟨by rfl, ?_⟩) ?_ ?_
   rotate_left
   ·intro w'
    go_simp
    with_reducible rfl
   rotate_left
   ·simp only [Act.put, List.setIfInBounds_toArray, List.set_cons_zero, List.set_cons_succ]
    rfl
   refine pure_ (i := 7) (N := some 89) (v := ?_) (a' := ?_) #[true, false, true, false, false, true, false, true, false, false, false, false] rfl rfl (by kernel_rfl) (fun _ _ _ h => h) (Or.inl ⟨by rfl, ?_⟩) ?_ ?_
   rotate_left
   ·intro w'
    go_simp
    with_reducible rfl
   rotate_left
   ·simp only [Act.put, List.setIfInBounds_toArray, List.set_cons_zero, List.set_cons_succ]
    rfl
   refine take_ (i := 1) (N := some 83) (v := (.slice (some ad) l2.length c2)) (a' := ?_) #[true, true, true, false, false, true, false, true, false, false, false, false] rfl rfl (by kernel_rfl) (fun _ _ _ h => h) (Or.inl ⟨by rfl, ?_⟩) hHeld ?_ ?_
   rotate_left
   rotate_left
   ·simp only [Act.put, List.setIfInBounds_toArray, List.set_cons_zero, List.set_cons_succ]
    rfl
   rotate_left
   ·rintro w' ⟨s0, s1, s2, s3, s4, s5, s6, s7, s8, s9, s10, s11, s12⟩
    go_simp
   refine take_ (i := 6) (N := some 88) (v := (.slice (some bd) l2.length d2)) (a' := ?_) #[true, true, true, false, false, true, true, true, false, false, false, false] rfl rfl (by kernel_rfl) (fun _ _ _ h => h) (Or.inl ⟨by rfl, ?_⟩) hHeld ?_ ?_
   rotate_left
   rotate_left
   ·simp only [Act.put, List.setIfInBounds_toArray, List.set_cons_zero, List.set_cons_succ]
    rfl
   rotate_left
   ·rintro w' ⟨s0, s1, s2, s3, s4, s5, s6, s7, s8, s9, s10, s11, s12⟩
    go_simp
   refine pure_ (i := 3) (N := some 85) (v := ?_) (a' := ?_) #[true, true, true, true, false, true, true, true, false, false, false, false] rfl rfl (by kernel_rfl) (fun _ _ _ h => h) (Or.inl ⟨by rfl, ?_⟩) ?_ ?_
   rotate_left
   ·intro w'
    go_simp
    with_reducible rfl
   rotate_left
   ·simp only [Act.put, List.setIfInBounds_toArray, List.set_cons_zero, List.set_cons_succ]
    rfl
   refine pure_ (i := 8) (N := some 90) (v := ?_) (a' := ?_) #[true, true, true, true, false, true, true, true, true, false, false, false] rfl rfl (by kernel_rfl) (fun _ _ _ h => h) (Or.inl ⟨by rfl, ?_⟩) ?_ ?_
   rotate_left
   ·intro w'
    go_simp
    with_reducible rfl
   rotate_left
   ·simp only [Act.put, List.setIfInBounds_toArray, List.set_cons_zero, List.set_cons_succ]
    rfl
   refine take_ (i := 4) (N := some 86) (v := (.agg #[.string x.f0, .int .i64 x.f1, .int .i64 x.f2, .int .u32 x.f3, .slice A4 x.f4.length c4])) (a' := ?_) #[true, true, true, true, true, true, true, true, true, false, false, false] rfl rfl (by kernel_rfl) (fun _ _ _ h => h) (Or.inl ⟨by rfl, ?_⟩) hHeld ?_ ?_
   rotate_left
   rotate_left
   ·simp only [Act.put, List.setIfInBounds_toArray, List.set_cons_zero, List.set_cons_succ]
    rfl
   rotate_left
   ·rintro w' ⟨s0, s1, s2, s3, s4, s5, s6, s7, s8, s9, s10, s11, s12⟩
    go_simp
   refine take_ (i := 9) (N := some 91) (v := (.agg #[.string x.f0, .int .i64 x.f1, .int .i64 x.f2, .int .u32 x.f3, .slice B4 x.f4.length d4])) (a' := ?_) #[true, true, true, true, true, true, true, true, true, true, false, false] rfl rfl (by kernel_rfl) (fun _ _ _ h => h) (Or.inl ⟨by rfl, ?_⟩) hHeld ?_ ?_
   rotate_left
   rotate_left
   ·simp only [Act.put, List.setIfInBounds_toArray, List.set_cons_zero, List.set_cons_succ]
    rfl
   rotate_left
   ·rintro w' ⟨s0, s1, s2, s3, s4, s5, s6, s7, s8, s9, s10, s11, s12⟩
    go_simp
   refine one_ (i := 10) (N := some 92) #[true, true, true, true, true, true, true, true, true, true, true, false] rfl rfl (by kernel_rfl) (by decide) (fun K hK => ?_)
   refine goes_ Try.func52 (by kernel_rfl) rfl #[.agg #[.string x.f0, .int .i64 x.f1, .int .i64 x.f2, .int .u32 x.f3, .slice A4 x.f4.length c4], .agg #[.string x.f0, .int .i64 x.f1, .int .i64 x.f2, .int .u32 x.f3, .slice B4 x.f4.length d4]] (by rfl) rfl rfl (by first | rfl | (simp only [List.map_toArray, List.map_cons, List.map_nil]; rfl)) ?_
   refine (HN.out _ hHeld.2.2.2.2.2.2.2.2.2.2.2.2).mono ?_
   rintro e w5 ⟨rfl, hb⟩
   refine ⟨_, rfl, hK.out _ _ ⟨cell_step hHeld.1 hb, cell_step hHeld.2.1 hb, cell_step hHeld.2.2.1 hb, cell_step hHeld.2.2.2.1 hb, cell_step hHeld.2.2.2.2.1 hb, cell_step hHeld.2.2.2.2.2.1 hb, cell_step hHeld.2.2.2.2.2.2.1 hb, cell_step hHeld.2.2.2.2.2.2.2.1 hb, cell_step hHeld.2.2.2.2.2.2.2.2.1 hb, cell_step hHeld.2.2.2.2.2.2.2.2.2.1 hb, cell_step hHeld.2.2.2.2.2.2.2.2.2.2.1 hb, cell_step hHeld.2.2.2.2.2.2.2.2.2.2.2.1 hb, below_step hHeld.2.2.2.2.2.2.2.2.2.2.2.2 hb⟩ (fun hHeld => ?_)⟩
   clear hb
   clear hK K
   simp only [Act.put, List.setIfInBounds_toArray, List.set_cons_zero, List.set_cons_succ]
   refine pure_ (i := 11) (N := some 93) (v := ?_) (a' := ?_) #[true, true, true, true, true, true, true, true, true, true, true, true] rfl rfl (by kernel_rfl) (fun _ _ _ h => h) (Or.inl ⟨by rfl, ?_⟩) ?_ ?_
   rotate_left
   ·intro w'
    go_simp
    with_reducible rfl
   rotate_left
   ·simp only [Act.put, List.setIfInBounds_toArray, List.set_cons_zero, List.set_cons_succ]
    rfl
   have HB5 := Aside0.mk (below_step HB.out hHeld.2.2.2.2.2.2.2.2.2.2.2.2)
   have HW5 := Aside0.mk hHeld.2.2.2.2.2.2.2.2.2.2.2.2
   clear hHeld hp0 hp1 hx0 hx1 hx2 hx3 hx4 hv0 hv1 hv2 hv3 hv4
   refine done_ (n := 0) (by kernel_rfl) ?_
   replace K1 := Aside0.mk ((HW5.out.block ga (blk_lt K1.out)).trans K1.out)
   replace K2 := Aside0.mk ((HW5.out.block gb (blk_lt K2.out)).trans K2.out)
   go_wp2
   go_roundg k1
   case measure => omega
   case rel => exact ⟨i + 1, rfl, ⟨by have := HI.out; omega, by have := HI.out; omega⟩, ⟨K1.out⟩, ⟨K2.out⟩, HB5⟩
set_option maxHeartbeats 8000000 in
set_option maxRecDepth 100000 in
theorem same9T_calls (l0 l1 : List Int) (l2 : List S51) (l3 : List Int) (a4 : Int) (l5 : List S91) (a6 : Int) (l7 : List S82) (a8 : Int) (a9 : ByteArray) (A0 : Option Addr) (c0 : Nat) (A1 : Option Addr) (c1 : Nat) (A2 : Option Addr) (c2 : Nat) (A3 : Option Addr) (c3 : Nat) (A5 : Option Addr) (c5 : Nat) (A7 : Option Addr) (c7 : Nat) (B0 : Option Addr) (d0 : Nat) (B1 : Option Addr) (d1 : Nat) (B2 : Option Addr) (d2 : Nat) (B3 : Option Addr) (d3 : Nat) (B5 : Option Addr) (d5 : Nat) (B7 : Option Addr) (d7 : Nat) (w : World) (gr0 : Kd.C (Kd.int .u32) w A0 l0.length l0) (gc0 : l0.length ≤ c0) (gr1 : Kd.C (Kd.int .u8) w A1 l1.length l1) (gc1 : l1.length ≤ c1) (gr2 : Kd.C k51 w A2 l2.length l2) (gc2 : l2.length ≤ c2) (gr3 : Kd.C (Kd.int .i64) w A3 l3.length l3) (gc3 : l3.length ≤ c3) (gr5 : Kd.C k91 w A5 l5.length l5) (gc5 : l5.length ≤ c5) (gr7 : Kd.C k82 w A7 l7.length l7) (gc7 : l7.length ≤ c7) (hr0 : Kd.C (Kd.int .u32) w B0 l0.length l0) (hc0 : l0.length ≤ d0) (hr1 : Kd.C (Kd.int .u8) w B1 l1.length l1) (hc1 : l1.length ≤ d1) (hr2 : Kd.C k51 w B2 l2.length l2) (hc2 : l2.length ≤ d2) (hr3 : Kd.C (Kd.int .i64) w B3 l3.length l3) (hc3 : l3.length ≤ d3) (hr5 : Kd.C k91 w B5 l5.length l5) (hc5 : l5.length ≤ d5) (hr7 : Kd.C k82 w B7 l7.length l7) (hc7 : l7.length ≤ d7) :
  Calls Try.prog 11 #[.agg #[.slice A0 l0.length c0, .slice A1 l1.length c1, .slice A2 l2.length c2, .slice A3 l3.length c3, .int .u32 a4, .slice A5 l5.length c5, .int .i64 a6, .slice A7 l7.length c7, .int .i64 a8, .string a9], .agg #[.slice B0 l0.length d0, .slice B1 l1.length d1, .slice B2 l2.length d2, .slice B3 l3.length d3, .int .u32 a4, .slice B5 l5.length d5, .int .i64 a6, .slice B7 l7.length d7, .int .i64 a8, .string a9]] w fun e w' => e = .returned (.bool true) ∧ Below w.heap.size w w' := by
 have hu32 := Try.underlying32
 have HM3 := Aside0.mk (Kd.C_max gr3)
 have HSB := Aside0.mk (fun (W : World) (hb : Below w.heap.size w W) => sameButT_calls l0 l1 l2 l3 a4 l5 a6 l7 a8 a9 A0 c0 A1 c1 A2 c2 A3 c3 A5 c5 A7 c7 B0 d0 B1 d1 B2 d2 B3 d3 B5 d5 B7 d7 W (Kd.C_below gr0 hb) gc0 (Kd.C_below gr1 hb) gc1 (Kd.C_below gr2 hb) gc2 (Kd.C_below gr3 hb) gc3 (Kd.C_below gr5 hb) gc5 (Kd.C_below gr7 hb) gc7 (Kd.C_below hr0 hb) hc0 (Kd.C_below hr1 hb) hc1 (Kd.C_below hr2 hb) hc2 (Kd.C_below hr3 hb) hc3 (Kd.C_below hr5 hb) hc5 (Kd.C_below hr7 hb) hc7)
 have G3 := Aside0.mk gr3
 have R3 := Aside0.mk hr3
 clear gr0 gc0 gr1 gc1 gr2 gc2 gr3 gc3 gr5 gc5 gr7 gc7 hr0 hc0 hr1 hc1 hr2 hc2 hr3 hc3 hr5 hc5 hr7 hc7
 go_enter Try.func11, Try.ntmps11
 go_wp2_with (first
  | ((with_reducible refine gate_dst (N := 2) rfl ?_); refine box_event ?hg (N := 2) ?hd (cs := #[.slice A0 l0.length c0, .slice A1 l1.length c1, .slice A2 l2.length c2, .slice A3 l3.length c3, .int .u32 a4, .slice A5 l5.length c5, .int .i64 a6, .slice A7 l7.length c7, .int .i64 a8, .string a9]) (t := 32) ?hr ?_; (case hd => rfl); (case hg => rfl); (case hr => first | (go_simp; done) | (go_simp; rfl)); intro ga hga w1 hbox hb; have K1 := Aside0.mk hbox; have HB := Aside0.mk hb; clear hbox hb hga)
  | ((with_reducible refine gate_dst (N := 3) rfl ?_); refine box_event ?hg (N := 3) ?hd (cs := #[.slice B0 l0.length d0, .slice B1 l1.length d1, .slice B2 l2.length d2, .slice B3 l3.length d3, .int .u32 a4, .slice B5 l5.length d5, .int .i64 a6, .slice B7 l7.length d7, .int .i64 a8, .string a9]) (t := 32) ?hr ?_; (case hd => rfl); (case hg => rfl); (case hr => first | (go_simp; done) | (go_simp; rfl)); intro gb hga w2 hbox hb; replace K1 := Aside0.mk (blk_below K1.out hb); have K2 := Aside0.mk hbox; replace HB := Aside0.mk (below_step HB.out hb); have hz0 := (blk_cell K1.out 0).trans rfl; have hz1 := (blk_cell K1.out 1).trans rfl; have hz2 := (blk_cell K1.out 2).trans rfl; have hz3 := (blk_cell K1.out 3).trans rfl; have hz4 := (blk_cell K1.out 4).trans rfl; have hz5 := (blk_cell K1.out 5).trans rfl; have hz6 := (blk_cell K1.out 6).trans rfl; have hz7 := (blk_cell K1.out 7).trans rfl; have hz8 := (blk_cell K1.out 8).trans rfl; have hz9 := (blk_cell K1.out 9).trans rfl; have hy0 := (blk_cell K2.out 0).trans rfl; have hy1 := (blk_cell K2.out 1).trans rfl; have hy2 := (blk_cell K2.out 2).trans rfl; have hy3 := (blk_cell K2.out 3).trans rfl; have hy4 := (blk_cell K2.out 4).trans rfl; have hy5 := (blk_cell K2.out 5).trans rfl; have hy6 := (blk_cell K2.out 6).trans rfl; have hy7 := (blk_cell K2.out 7).trans rfl; have hy8 := (blk_cell K2.out 8).trans rfl; have hy9 := (blk_cell K2.out 9).trans rfl; have hfa0 := blk_frozen K1.out 0; have hfa1 := blk_frozen K1.out 1; have hfa2 := blk_frozen K1.out 2; have hfa3 := blk_frozen K1.out 3; have hfa4 := blk_frozen K1.out 4; have hfa5 := blk_frozen K1.out 5; have hfa6 := blk_frozen K1.out 6; have hfa7 := blk_frozen K1.out 7; have hfa8 := blk_frozen K1.out 8; have hfa9 := blk_frozen K1.out 9; have hfb0 := blk_frozen K2.out 0; have hfb1 := blk_frozen K2.out 1; have hfb2 := blk_frozen K2.out 2; have hfb3 := blk_frozen K2.out 3; have hfb4 := blk_frozen K2.out 4; have hfb5 := blk_frozen K2.out 5; have hfb6 := blk_frozen K2.out 6; have hfb7 := blk_frozen K2.out 7; have hfb8 := blk_frozen K2.out 8; have hfb9 := blk_frozen K2.out 9; clear hbox hb hga))
 clear hz0 hz1 hz2 hz3 hz4 hz5 hz6 hz7 hz8 hz9 hy0 hy1 hy2 hy3 hy4 hy5 hy6 hy7 hy8 hy9 hfa0 hfa1 hfa2 hfa3 hfa4 hfa5 hfa6 hfa7 hfa8 hfa9 hfb0 hfb1 hfb2 hfb3 hfb4 hfb5 hfb6 hfb7 hfb8 hfb9
 go_loopg [5] l3.length (fun kq v5 w' => ∃ i : Int, v5 = .int .i64 i ∧ Aside0 (0 ≤ i ∧ i + kq = l3.length) ∧ Aside0 (w'.heap[ga]? = some (.cells #[.slice A0 l0.length c0, .slice A1 l1.length c1, .slice A2 l2.length c2, .slice A3 l3.length c3, .int .u32 a4, .slice A5 l5.length c5, .int .i64 a6, .slice A7 l7.length c7, .int .i64 a8, .string a9] 32 (0, 0))) ∧ Aside0 (w'.heap[gb]? = some (.cells #[.slice B0 l0.length d0, .slice B1 l1.length d1, .slice B2 l2.length d2, .slice B3 l3.length d3, .int .u32 a4, .slice B5 l5.length d5, .int .i64 a6, .slice B7 l7.length d7, .int .i64 a8, .string a9] 32 (0, 0))) ∧ Aside0 (Below w.heap.size w w'))
 case atStart => exact ⟨0, rfl, ⟨by omega, by omega⟩, ⟨K1.out⟩, ⟨K2.out⟩, HB⟩
 case round =>
  clear K1 K2 HB
  obtain ⟨i, rfl, HI, K1, K2, HB⟩ := hrel
  have hz0 := (blk_cell K1.out 0).trans rfl
  have hz1 := (blk_cell K1.out 1).trans rfl
  have hz2 := (blk_cell K1.out 2).trans rfl
  have hz3 := (blk_cell K1.out 3).trans rfl
  have hz4 := (blk_cell K1.out 4).trans rfl
  have hz5 := (blk_cell K1.out 5).trans rfl
  have hz6 := (blk_cell K1.out 6).trans rfl
  have hz7 := (blk_cell K1.out 7).trans rfl
  have hz8 := (blk_cell K1.out 8).trans rfl
  have hz9 := (blk_cell K1.out 9).trans rfl
  have hy0 := (blk_cell K2.out 0).trans rfl
  have hy1 := (blk_cell K2.out 1).trans rfl
  have hy2 := (blk_cell K2.out 2).trans rfl
  have hy3 := (blk_cell K2.out 3).trans rfl
  have hy4 := (blk_cell K2.out 4).trans rfl
  have hy5 := (blk_cell K2.out 5).trans rfl
  have hy6 := (blk_cell K2.out 6).trans rfl
  have hy7 := (blk_cell K2.out 7).trans rfl
  have hy8 := (blk_cell K2.out 8).trans rfl
  have hy9 := (blk_cell K2.out 9).trans rfl
  have hfa0 := blk_frozen K1.out 0
  have hfa1 := blk_frozen K1.out 1
  have hfa2 := blk_frozen K1.out 2
  have hfa3 := blk_frozen K1.out 3
  have hfa4 := blk_frozen K1.out 4
  have hfa5 := blk_frozen K1.out 5
  have hfa6 := blk_frozen K1.out 6
  have hfa7 := blk_frozen K1.out 7
  have hfa8 := blk_frozen K1.out 8
  have hfa9 := blk_frozen K1.out 9
  have hfb0 := blk_frozen K2.out 0
  have hfb1 := blk_frozen K2.out 1
  have hfb2 := blk_frozen K2.out 2
  have hfb3 := blk_frozen K2.out 3
  have hfb4 := blk_frozen K2.out 4
  have hfb5 := blk_frozen K2.out 5
  have hfb6 := blk_frozen K2.out 6
  have hfb7 := blk_frozen K2.out 7
  have hfb8 := blk_frozen K2.out 8
  have hfb9 := blk_frozen K2.out 9
  cases gk with
  | zero =>
   have hlt : decide (i < (l3.length : Int)) = false := decide_eq_false (by have := HI.out; omega)
   go_wp2_with (go_at_call 34; (with_reducible refine (HSB.out _ HB.out).mono ?_); rintro e w5 ⟨rfl, hb⟩; have HB5 := Aside0.mk (below_step HB.out hb); clear hb)
   go_ret
   exact ⟨rfl, HB5.out⟩
  | succ k1 =>
   have hi := HI.out
   have hlt : decide (i < (l3.length : Int)) = true := decide_eq_true (by omega)
   have p1 : (0 ≤ i) = True := eq_true (by omega)
   have p2 : (i < (l3.length : Int)) = True := eq_true (by omega)
   have hwr : IntKind.i64.wrap (i + 1) = i + 1 := (i64_w _).trans (by have := HM3.out; unfold wrap64; omega)
   have hwr2 : wrap64 (i + 1) = i + 1 := by have := HM3.out; unfold wrap64; omega
   obtain ⟨ad, eA, hx0⟩ := Kd.at_int (Kd.C_below G3.out HB.out) i (by omega) (by omega)
   cases eA
   obtain ⟨bd, eB, hv0⟩ := Kd.at_int (Kd.C_below R3.out HB.out) i (by omega) (by omega)
   cases eB
   clear hi
   go_wp2
   go_quiet (fail)
   go_wp2
   go_roundg k1
   case measure => omega
   case rel => exact ⟨i + 1, rfl, ⟨by have := HI.out; omega, by have := HI.out; omega⟩, ⟨K1.out⟩, ⟨K2.out⟩, ⟨by first | exact HB.out | exact pw_below_drewN HB.out _⟩⟩
end Go.Proofs.Ytfpkakedlapmkaa.Q
end
section
set_option linter.unusedSimpArgs false
set_option linter.unusedVariables false
namespace Go.Proofs.Ytfpkakedlapmkaa.Q
open Go.RowKit Go.Proofs.YtfpkakedlapmkaaW.PrintWords Go.Proofs.YtfpkakedlapmkaaW.PrintLast
set_option maxHeartbeats 1000000 in
set_option maxRecDepth 100000 in
theorem indexW_nil (A : Option Addr) (c : Nat) (fv : Value) (w : World) : Calls Try.prog 97 #[.slice A 0 c, fv] w fun e w' => e = .returned (.int .i64 (-1)) ∧ w' = w := by
 go_enter Try.func97, Try.ntmps97
 go_wp2
 go_loopg [8] 0 (fun kq v8 w' => v8 = .int .i64 0 ∧ w' = w)
 case atStart => exact ⟨rfl, rfl⟩
 case round =>
  obtain ⟨rfl, rfl⟩ := hrel
  go_wp2
  go_ret
  exact ⟨rfl, rfl⟩
set_option maxHeartbeats 1000000 in
set_option maxRecDepth 100000 in
theorem containsW_nil (A : Option Addr) (c : Nat) (fv : Value) (w : World) : Calls Try.prog 79 #[.slice A 0 c, fv] w fun e w' => e = .returned (.bool false) ∧ w' = w := by
 go_enter Try.func79, Try.ntmps79
 go_wp2_with (go_at_call 97; refine (indexW_nil _ _ _ _).mono ?_; rintro e w' ⟨rfl, rfl⟩)
 go_ret
 exact ⟨rfl, rfl⟩
set_option maxHeartbeats 1000000 in
set_option maxRecDepth 100000 in
theorem indexI_nil (A : Option Addr) (c : Nat) (fv : Value) (w : World) : Calls Try.prog 81 #[.slice A 0 c, fv] w fun e w' => e = .returned (.int .i64 (-1)) ∧ w' = w := by
 go_enter Try.func81, Try.ntmps81
 go_wp2
 go_loopg [8] 0 (fun kq v8 w' => v8 = .int .i64 0 ∧ w' = w)
 case atStart => exact ⟨rfl, rfl⟩
 case round =>
  obtain ⟨rfl, rfl⟩ := hrel
  go_wp2
  go_ret
  exact ⟨rfl, rfl⟩
set_option maxHeartbeats 1000000 in
set_option maxRecDepth 100000 in
theorem containsI_nil (A : Option Addr) (c : Nat) (fv : Value) (w : World) : Calls Try.prog 48 #[.slice A 0 c, fv] w fun e w' => e = .returned (.bool false) ∧ w' = w := by
 go_enter Try.func48, Try.ntmps48
 go_wp2_with (go_at_call 81; refine (indexI_nil _ _ _ _).mono ?_; rintro e w' ⟨rfl, rfl⟩)
 go_ret
 exact ⟨rfl, rfl⟩
set_option maxHeartbeats 1000000 in
set_option maxRecDepth 100000 in
theorem instsRight_nil (v0 v1 v2 v3 : Value) (a4 : Int) (v5 : Value) (a6 : Int) (A : Option Addr) (c : Nat) (a9 : ByteArray) (w : World) :
  Calls Try.prog 46 #[.agg #[v0, v1, v2, v3, .int .u32 a4, v5, .int .i64 a6, .slice A 0 c, .int .i64 (-1), .string a9]] w fun e w' => e = .returned (.bool true) ∧ Below w.heap.size w w' := by
 have hB : Below w.heap.size w (w.alloc (.cells #[v0, v1, v2, v3, .int .u32 a4, v5, .int .i64 a6, .slice A 0 c, .int .i64 (-1), .string a9] 32 (0, 0))) := below_alloc (Below.refl _ _) _
 have HB := Aside0.mk hB
 clear hB
 go_enter Try.func46, Try.ntmps46
 go_wp2
 go_loopg [26] 0 (fun kq v8 w' => v8 = .int .i64 0 ∧ w' = w.alloc (.cells #[v0, v1, v2, v3, .int .u32 a4, v5, .int .i64 a6, .slice A 0 c, .int .i64 (-1), .string a9] 32 (0, 0)))
 case atStart => exact ⟨rfl, rfl⟩
 case round =>
  obtain ⟨rfl, rfl⟩ := hrel
  go_wp2
  go_loopg [41] 0 (fun kq v8 w' => v8 = .int .i64 0 ∧ w' = w.alloc (.cells #[v0, v1, v2, v3, .int .u32 a4, v5, .int .i64 a6, .slice A 0 c, .int .i64 (-1), .string a9] 32 (0, 0)))
  case atStart => exact ⟨rfl, rfl⟩
  case round =>
   obtain ⟨rfl, rfl⟩ := hrel
   go_wp2
   go_ret
   exact ⟨rfl, HB.out⟩
end Go.Proofs.Ytfpkakedlapmkaa.Q
end
section
set_option linter.unusedSimpArgs false
set_option linter.unusedVariables false
namespace Go.Proofs.Ytfpkakedlapmkaa.Q
open Go.RowKit Go.Proofs.YtfpkakedlapmkaaW.PrintWords Go.Proofs.YtfpkakedlapmkaaW.PrintLast
end Go.Proofs.Ytfpkakedlapmkaa.Q
end
section
set_option linter.unusedSimpArgs false
set_option linter.unusedVariables false
namespace Go.Proofs.Ytfpkakedlapmkaa.Q
open Go.RowKit Go.Proofs.YtfpkakedlapmkaaW.PrintWords Go.Proofs.YtfpkakedlapmkaaW.PrintLast
def root91 : S91 := ⟨⟨#[]⟩, [], -1, [], []⟩
theorem treeF_root : treeF [root91] = true := by kernel_rfl
theorem wordsF_new : wordsF primsL (wordsN primsL 111) = true := by kernel_rfl
set_option maxHeartbeats 2000000 in
set_option maxRecDepth 100000 in
theorem formedNew (Av : Option Addr) (c : Nat) (A5 : Option Addr) (c5 : Nat) (w : World) (hC : Kd.C k51 w Av 111 (wordsN primsL 111)) (hc : 111 ≤ c) (hT : Kd.C k91 w A5 1 [root91]) (hc5 : 1 ≤ c5) :
  Calls Try.prog 26 #[.agg (mcells (.slice Av 111 c) (.slice A5 1 c5))] w fun e w' => e = .returned (.bool true) ∧ Below w.heap.size w w' := by
 obtain ⟨l, hl⟩ : ∃ l, l = wordsN primsL 111 := ⟨_, rfl⟩
 have hlen : l.length = 111 := by rw [hl]; exact wordsN_len primsL 111 (by rw [primsL_len]; omega)
 have hF : wordsF primsL l = true := by rw [hl]; exact wordsF_new
 rw [← hl] at hC
 clear hl
 have HTF := Aside0.mk (fun (X : World) (hX : Below w.heap.size w X) => treeFormed_calls A5 c5 [root91] X (Kd.C_below hT hX) hc5)
 rw [treeF_root] at HTF
 obtain ⟨ad, rfl⟩ : ∃ ad, Av = some ad := by
  rw [← hlen] at hC
  obtain ⟨ad, _, _, hA, _⟩ := at_T51 hC 0 (by omega) (by omega)
  exact ⟨ad, hA⟩
 have HI := Aside0.mk (fun X : World => instsRight_nil (.slice none 0 0) (.slice none 0 0) (.slice (some ad) 111 c) (.slice none 0 0) 16 (.slice A5 1 c5) (-1) none 0 ⟨#[]⟩ X)
 have HWR := Aside0.mk (show ∀ X : World, Below w.heap.size w X → Calls Try.prog 47 #[.agg (mcells (.slice (some ad) 111 c) (.slice A5 1 c5))] X fun e w' => e = .returned (.bool true) ∧ Below X.heap.size X w' from fun X hX => by
  have hCX := Kd.C_below hC hX
  rw [← hlen] at hCX
  have h := wordsRight_calls primsL primsL_len prims_exact (.slice none 0 0) (.slice none 0 0) ad c l (.slice none 0 0) 16 (.slice A5 1 c5) (-1) (.slice none 0 0) (-1) ⟨#[]⟩ X hCX (by omega) (by omega) (by omega) false (fun Y hY _ => by
   have h0 : l.length - 111 = 0 := by omega
   rw [h0]
   refine (containsW_nil _ _ _ Y).mono ?_
   rintro e w' ⟨rfl, rfl⟩
   exact ⟨rfl, Below.refl _ _⟩)
  rw [hF, hlen] at h
  exact h)
 have HB := Aside0.mk (Below.refl w.heap.size w)
 clear hC hT hF hlen hc hc5
 unfold mcells at HWR ⊢
 have BK := Aside0.mk (blk_new w (.cells #[.slice none 0 0, .slice none 0 0, .slice (some ad) 111 c, .slice none 0 0, .int .u32 16, .slice A5 1 c5, .int .i64 (-1), .slice none 0 0, .int .i64 (-1), .string ⟨#[]⟩] 32 (0, 0)))
 go_enter Try.func26, Try.ntmps26
 go_wp2_with (first
  | (go_at_call 44; refine (HTF.out _ (below_alloc (Below.refl _ _) _)).mono ?_; rintro e w1 ⟨rfl, hb⟩; replace BK := Aside0.mk (blk_below BK.out hb); replace HB := Aside0.mk (below_step (below_alloc (Below.refl _ _) _) hb); clear hb; have z1_0 : w1.cell? ⟨w.heap.size, 0, none⟩ = some (.slice none 0 0) := (blk_cell BK.out 0).trans rfl; have z1_1 : w1.cell? ⟨w.heap.size, 1, none⟩ = some (.slice none 0 0) := (blk_cell BK.out 1).trans rfl; have z1_2 : w1.cell? ⟨w.heap.size, 2, none⟩ = some (.slice (some ad) 111 c) := (blk_cell BK.out 2).trans rfl; have z1_3 : w1.cell? ⟨w.heap.size, 3, none⟩ = some (.slice none 0 0) := (blk_cell BK.out 3).trans rfl; have z1_4 : w1.cell? ⟨w.heap.size, 4, none⟩ = some (.int .u32 16) := (blk_cell BK.out 4).trans rfl; have z1_5 : w1.cell? ⟨w.heap.size, 5, none⟩ = some (.slice A5 1 c5) := (blk_cell BK.out 5).trans rfl; have z1_6 : w1.cell? ⟨w.heap.size, 6, none⟩ = some (.int .i64 (-1)) := (blk_cell BK.out 6).trans rfl; have z1_7 : w1.cell? ⟨w.heap.size, 7, none⟩ = some (.slice none 0 0) := (blk_cell BK.out 7).trans rfl; have z1_8 : w1.cell? ⟨w.heap.size, 8, none⟩ = some (.int .i64 (-1)) := (blk_cell BK.out 8).trans rfl; have z1_9 : w1.cell? ⟨w.heap.size, 9, none⟩ = some (.string ⟨#[]⟩) := (blk_cell BK.out 9).trans rfl)
  | (go_at_call 46; refine (HI.out _).mono ?_; rintro e w2 ⟨rfl, hb⟩; replace BK := Aside0.mk (blk_below BK.out hb); replace HB := Aside0.mk (below_step HB.out hb); clear hb; have z2_0 : w2.cell? ⟨w.heap.size, 0, none⟩ = some (.slice none 0 0) := (blk_cell BK.out 0).trans rfl; have z2_1 : w2.cell? ⟨w.heap.size, 1, none⟩ = some (.slice none 0 0) := (blk_cell BK.out 1).trans rfl; have z2_2 : w2.cell? ⟨w.heap.size, 2, none⟩ = some (.slice (some ad) 111 c) := (blk_cell BK.out 2).trans rfl; have z2_3 : w2.cell? ⟨w.heap.size, 3, none⟩ = some (.slice none 0 0) := (blk_cell BK.out 3).trans rfl; have z2_4 : w2.cell? ⟨w.heap.size, 4, none⟩ = some (.int .u32 16) := (blk_cell BK.out 4).trans rfl; have z2_5 : w2.cell? ⟨w.heap.size, 5, none⟩ = some (.slice A5 1 c5) := (blk_cell BK.out 5).trans rfl; have z2_6 : w2.cell? ⟨w.heap.size, 6, none⟩ = some (.int .i64 (-1)) := (blk_cell BK.out 6).trans rfl; have z2_7 : w2.cell? ⟨w.heap.size, 7, none⟩ = some (.slice none 0 0) := (blk_cell BK.out 7).trans rfl; have z2_8 : w2.cell? ⟨w.heap.size, 8, none⟩ = some (.int .i64 (-1)) := (blk_cell BK.out 8).trans rfl; have z2_9 : w2.cell? ⟨w.heap.size, 9, none⟩ = some (.string ⟨#[]⟩) := (blk_cell BK.out 9).trans rfl)
  | (go_at_call 47; refine (HWR.out _ HB.out).mono ?_; rintro e w3 ⟨rfl, hb⟩; replace BK := Aside0.mk (blk_below BK.out hb); replace HB := Aside0.mk (below_step HB.out hb); clear hb; have z3_0 : w3.cell? ⟨w.heap.size, 0, none⟩ = some (.slice none 0 0) := (blk_cell BK.out 0).trans rfl; have z3_1 : w3.cell? ⟨w.heap.size, 1, none⟩ = some (.slice none 0 0) := (blk_cell BK.out 1).trans rfl; have z3_2 : w3.cell? ⟨w.heap.size, 2, none⟩ = some (.slice (some ad) 111 c) := (blk_cell BK.out 2).trans rfl; have z3_3 : w3.cell? ⟨w.heap.size, 3, none⟩ = some (.slice none 0 0) := (blk_cell BK.out 3).trans rfl; have z3_4 : w3.cell? ⟨w.heap.size, 4, none⟩ = some (.int .u32 16) := (blk_cell BK.out 4).trans rfl; have z3_5 : w3.cell? ⟨w.heap.size, 5, none⟩ = some (.slice A5 1 c5) := (blk_cell BK.out 5).trans rfl; have z3_6 : w3.cell? ⟨w.heap.size, 6, none⟩ = some (.int .i64 (-1)) := (blk_cell BK.out 6).trans rfl; have z3_7 : w3.cell? ⟨w.heap.size, 7, none⟩ = some (.slice none 0 0) := (blk_cell BK.out 7).trans rfl; have z3_8 : w3.cell? ⟨w.heap.size, 8, none⟩ = some (.int .i64 (-1)) := (blk_cell BK.out 8).trans rfl; have z3_9 : w3.cell? ⟨w.heap.size, 9, none⟩ = some (.string ⟨#[]⟩) := (blk_cell BK.out 9).trans rfl)
  | (go_at_call 48; refine (containsI_nil _ _ _ _).mono ?_; rintro e w4 ⟨rfl, rfl⟩))
 go_ret
 exact ⟨rfl, HB.out⟩
end Go.Proofs.Ytfpkakedlapmkaa.Q
end
section
set_option linter.unusedSimpArgs false
set_option linter.unusedVariables false
namespace Go.Proofs.Ytfpkakedlapmkaa.Q
open Go.RowKit Go.Proofs.YtfpkakedlapmkaaW.PrintWords Go.Proofs.YtfpkakedlapmkaaW.PrintLast
def dupB : ByteArray := ⟨#[100, 117, 112]⟩
theorem lastP_dup : lastP (isN51 dupB) (wordsN primsL 111) = (41, true) := by kernel_rfl
theorem primIdx_dup : primIdx primsL 71 = (41, true) := by kernel_rfl
theorem new2 (w : World) : Calls Try.prog 12 #[] w fun e w' => ∃ A c A5 c5, e = .returned (.agg (mcells (.slice A 111 c) (.slice A5 1 c5))) ∧ 111 ≤ c ∧ Kd.C k51 w' A 111 (wordsN primsL 111) ∧ 1 ≤ c5 ∧ Kd.C k91 w' A5 1 [root91] ∧ Below w.heap.size w w' := by
 refine (new_calls primsL primsL_len prims_exact w).mono ?_
 rintro e w' ⟨v, v5, rfl, hv, hv5, hb⟩
 obtain ⟨A, c, rfl, hc, hC⟩ := Kd.R_reads hv
 obtain ⟨A5, c5, rfl, hc5, hC5⟩ := Kd.R_reads hv5
 have hl : (wordsN primsL 111).length = 111 := wordsN_len primsL 111 (by rw [primsL_len]; omega)
 rw [hl] at hc hC ⊢
 exact ⟨A, c, A5, c5, rfl, hc, hC, hc5, hC5, hb⟩
theorem find_new (A : Option Addr) (c : Nat) (A5 : Option Addr) (c5 : Nat) (X : World) (hC : Kd.C k51 X A 111 (wordsN primsL 111)) :
  Calls Try.prog 16 #[.agg (mcells (.slice A 111 c) (.slice A5 1 c5)), .string dupB] X fun e w' => e = .returned (.tuple #[.int .i64 41, .bool true]) ∧ Below X.heap.size X w' := by
 have hl : (wordsN primsL 111).length = 111 := wordsN_len primsL 111 (by rw [primsL_len]; omega)
 have hC2 := hC
 rw [← hl] at hC2
 have h := find_calls (.slice none 0 0) (.slice none 0 0) A c (wordsN primsL 111) (.slice none 0 0) 16 (.slice A5 1 c5) (-1) (.slice none 0 0) (-1) ⟨#[]⟩ dupB X (by rw [hl]; exact hC)
 rw [lastP_dup, hl] at h
 exact h
theorem code_new (A : Option Addr) (c : Nat) (A5 : Option Addr) (c5 : Nat) (X : World) :
  Calls Try.prog 17 #[.agg (mcells (.slice A 111 c) (.slice A5 1 c5)), .int .i64 71] X fun e w' => e = .returned (.tuple #[.int .i64 41, .bool true]) ∧ Below X.heap.size X w' := by
 have h := code_low primsL primsL_len prims_exact (.slice none 0 0) (.slice none 0 0) (.slice A 111 c) (.slice none 0 0) 16 (.slice A5 1 c5) (-1) (.slice none 0 0) (-1) ⟨#[]⟩ 71 (by omega) X
 rw [primIdx_dup] at h
 exact h
set_option maxHeartbeats 2000000 in
set_option maxRecDepth 100000 in
theorem alive_calls (w : World) : Calls Try.prog 10 #[] w fun e w' => e = .returned (.bool true) ∧ Below w.heap.size w w' := by
 have HB := Aside0.mk (Below.refl w.heap.size w)
 have HN := Aside0.mk new2
 have HFD := Aside0.mk find_new
 have HCD := Aside0.mk code_new
 have HFM := Aside0.mk formedNew
 unfold mcells dupB at HFD
 unfold mcells at HN HCD HFM
 go_enter Try.func10, Try.ntmps10
 go_wp2_with (first
  | (go_at_call 12; refine (HN.out _).mono ?_; rintro e w1 ⟨A, c, A5, c5, rfl, hc, hC, hc5, hC5, hb⟩; replace HB := Aside0.mk (below_step HB.out hb); have H1 := Aside0.mk hc; have H2 := Aside0.mk hC; have H3 := Aside0.mk hc5; have H4 := Aside0.mk hC5; clear hb hc hC hc5 hC5)
  | (go_at_call 16; refine (HFD.out _ _ _ _ _ H2.out).mono ?_; rintro e w2 ⟨rfl, hb⟩; replace HB := Aside0.mk (below_step HB.out hb); clear hb)
  | (go_at_call 17; refine (HCD.out _ _ _ _ _).mono ?_; rintro e w2 ⟨rfl, hb⟩; replace HB := Aside0.mk (below_step HB.out hb); clear hb)
  | (go_at_call 26; refine (HFM.out _ _ _ _ _ H2.out H1.out H4.out H3.out).mono ?_; rintro e w2 ⟨rfl, hb⟩; replace HB := Aside0.mk (below_step HB.out hb); clear hb))
 go_ret
 exact ⟨rfl, HB.out⟩
def tinderlaw09_alive.f : Option Bool := some true
end Go.Proofs.Ytfpkakedlapmkaa.Q
end
section
set_option linter.unusedSimpArgs false
set_option linter.unusedVariables false
namespace Go.Proofs.Ytfpkakedlapmkaa.Q
open Go.RowKit Go.Proofs.YtfpkakedlapmkaaW.PrintWords Go.Proofs.YtfpkakedlapmkaaW.PrintLast Go.Proofs.YtfpkakedlapmkaaW.PrintMore
/-- A machine's lists, as they are read. -/
def MC (w : World) (z : S32) (A0 : Option Addr) (c0 : Nat) (A1 : Option Addr) (c1 : Nat) (A2 : Option Addr) (c2 : Nat) (A3 : Option Addr) (c3 : Nat) (A5 : Option Addr) (c5 : Nat) (A7 : Option Addr) (c7 : Nat) : Prop :=
 (Kd.C (Kd.int .u32) w A0 z.f0.length z.f0 ∧ z.f0.length ≤ c0) ∧ (Kd.C (Kd.int .u8) w A1 z.f1.length z.f1 ∧ z.f1.length ≤ c1) ∧ (Kd.C k51 w A2 z.f2.length z.f2 ∧ z.f2.length ≤ c2) ∧ (Kd.C (Kd.int .i64) w A3 z.f3.length z.f3 ∧ z.f3.length ≤ c3) ∧ (Kd.C k91 w A5 z.f5.length z.f5 ∧ z.f5.length ≤ c5) ∧ (Kd.C k82 w A7 z.f7.length z.f7 ∧ z.f7.length ≤ c7)
section
variable {w W : World} {z : S32} {A0 : Option Addr} {c0 : Nat} {A1 : Option Addr} {c1 : Nat} {A2 : Option Addr} {c2 : Nat} {A3 : Option Addr} {c3 : Nat} {A5 : Option Addr} {c5 : Nat} {A7 : Option Addr} {c7 : Nat} {B0 : Option Addr} {d0 : Nat} {B1 : Option Addr} {d1 : Nat} {B2 : Option Addr} {d2 : Nat} {B3 : Option Addr} {d3 : Nat} {B5 : Option Addr} {d5 : Nat} {B7 : Option Addr} {d7 : Nat}
theorem MC_below (h : MC w z A0 c0 A1 c1 A2 c2 A3 c3 A5 c5 A7 c7) (hb : Below w.heap.size w W) : MC W z A0 c0 A1 c1 A2 c2 A3 c3 A5 c5 A7 c7 :=
 ⟨⟨Kd.C_below h.1.1 hb, h.1.2⟩, ⟨Kd.C_below h.2.1.1 hb, h.2.1.2⟩, ⟨Kd.C_below h.2.2.1.1 hb, h.2.2.1.2⟩, ⟨Kd.C_below h.2.2.2.1.1 hb, h.2.2.2.1.2⟩, ⟨Kd.C_below h.2.2.2.2.1.1 hb, h.2.2.2.2.1.2⟩, ⟨Kd.C_below h.2.2.2.2.2.1 hb, h.2.2.2.2.2.2⟩⟩
theorem MC_formed (h : MC w z A0 c0 A1 c1 A2 c2 A3 c3 A5 c5 A7 c7) : Calls Try.prog 26 #[.agg #[.slice A0 z.f0.length c0, .slice A1 z.f1.length c1, .slice A2 z.f2.length c2, .slice A3 z.f3.length c3, .int .u32 z.f4, .slice A5 z.f5.length c5, .int .i64 z.f6, .slice A7 z.f7.length c7, .int .i64 z.f8, .string z.f9]] w fun e w' => e = .returned (.bool (formedF z.f0 z.f1 z.f2 z.f3 z.f4 z.f5 z.f6 z.f7 z.f8 z.f9)) ∧ Below w.heap.size w w' :=
 formed_calls _ _ _ _ _ _ _ _ _ _ _ _ _ _ _ _ _ _ _ _ _ _ w h.1.1 h.1.2 h.2.1.1 h.2.1.2 h.2.2.1.1 h.2.2.1.2 h.2.2.2.1.1 h.2.2.2.1.2 h.2.2.2.2.1.1 h.2.2.2.2.1.2 h.2.2.2.2.2.1 h.2.2.2.2.2.2
theorem MC_rformed (h : MC w z A0 c0 A1 c1 A2 c2 A3 c3 A5 c5 A7 c7) (hn : ∀ x ∈ z.f2, x.f0.size ≤ 1000000000000000) : Calls Try.prog 27 #[.agg #[.slice A0 z.f0.length c0, .slice A1 z.f1.length c1, .slice A2 z.f2.length c2, .slice A3 z.f3.length c3, .int .u32 z.f4, .slice A5 z.f5.length c5, .int .i64 z.f6, .slice A7 z.f7.length c7, .int .i64 z.f8, .string z.f9]] w fun e w' => e = .returned (.bool (formedF z.f0 z.f1 z.f2 z.f3 z.f4 z.f5 z.f6 z.f7 z.f8 z.f9)) ∧ Below w.heap.size w w' :=
 rformed_calls _ _ _ _ _ _ _ _ _ _ _ _ _ _ _ _ _ _ _ _ _ _ w h.2.2.1.1 h.2.2.2.1.1 h.2.2.2.2.1.1 h.2.2.2.2.1.2 h.2.2.2.2.2.1 h.2.2.2.2.2.2 hn
theorem MC_same (h : MC w z A0 c0 A1 c1 A2 c2 A3 c3 A5 c5 A7 c7) (g : MC w z B0 d0 B1 d1 B2 d2 B3 d3 B5 d5 B7 d7) : Calls Try.prog 11 #[.agg #[.slice A0 z.f0.length c0, .slice A1 z.f1.length c1, .slice A2 z.f2.length c2, .slice A3 z.f3.length c3, .int .u32 z.f4, .slice A5 z.f5.length c5, .int .i64 z.f6, .slice A7 z.f7.length c7, .int .i64 z.f8, .string z.f9], .agg #[.slice B0 z.f0.length d0, .slice B1 z.f1.length d1, .slice B2 z.f2.length d2, .slice B3 z.f3.length d3, .int .u32 z.f4, .slice B5 z.f5.length d5, .int .i64 z.f6, .slice B7 z.f7.length d7, .int .i64 z.f8, .string z.f9]] w fun e w' => e = .returned (.bool true) ∧ Below w.heap.size w w' :=
 same9T_calls z.f0 z.f1 z.f2 z.f3 z.f4 z.f5 z.f6 z.f7 z.f8 z.f9 A0 c0 A1 c1 A2 c2 A3 c3 A5 c5 A7 c7 B0 d0 B1 d1 B2 d2 B3 d3 B5 d5 B7 d7 w h.1.1 h.1.2 h.2.1.1 h.2.1.2 h.2.2.1.1 h.2.2.1.2 h.2.2.2.1.1 h.2.2.2.1.2 h.2.2.2.2.1.1 h.2.2.2.2.1.2 h.2.2.2.2.2.1 h.2.2.2.2.2.2 g.1.1 g.1.2 g.2.1.1 g.2.1.2 g.2.2.1.1 g.2.2.1.2 g.2.2.2.1.1 g.2.2.2.1.2 g.2.2.2.2.1.1 g.2.2.2.2.1.2 g.2.2.2.2.2.1 g.2.2.2.2.2.2
theorem MC_copy (h : MC w z A0 c0 A1 c1 A2 c2 A3 c3 A5 c5 A7 c7) (hG : GoodM z.f0 z.f1 z.f2 z.f3 z.f5 z.f7) : Calls Try.prog 28 #[.agg #[.slice A0 z.f0.length c0, .slice A1 z.f1.length c1, .slice A2 z.f2.length c2, .slice A3 z.f3.length c3, .int .u32 z.f4, .slice A5 z.f5.length c5, .int .i64 z.f6, .slice A7 z.f7.length c7, .int .i64 z.f8, .string z.f9]] w fun e w' => ∃ B0 d0 B1 d1 B2 d2 B3 d3 B5 d5 B7 d7, e = .returned (.agg #[.slice B0 z.f0.length d0, .slice B1 z.f1.length d1, .slice B2 z.f2.length d2, .slice B3 z.f3.length d3, .int .u32 z.f4, .slice B5 z.f5.length d5, .int .i64 z.f6, .slice B7 z.f7.length d7, .int .i64 z.f8, .string z.f9]) ∧ MC w' z B0 d0 B1 d1 B2 d2 B3 d3 B5 d5 B7 d7 ∧ Below w.heap.size w w' := by
 refine (dict_Copy.calls A0 c0 z.f0 A1 c1 z.f1 A2 c2 z.f2 A3 c3 z.f3 z.f4 A5 c5 z.f5 z.f6 A7 c7 z.f7 z.f8 z.f9 _ _ _ _ _ _ _ _ _ _ w h.1.1 h.1.2 h.2.1.1 h.2.1.2 h.2.2.1.1 h.2.2.1.2 h.2.2.2.1.1 h.2.2.2.1.2 h.2.2.2.2.1.1 h.2.2.2.2.1.2 h.2.2.2.2.2.1 h.2.2.2.2.2.2 (dcopy_eq hG z.f4 z.f6 z.f8 z.f9)).mono ?_
 rintro e w' ⟨v0, v1, v2, v3, v5, v7, rfl, h0, h1, h2, h3, h5, h7, hb⟩
 obtain ⟨B0, d0, rfl, q0, g0⟩ := Kd.R_reads h0
 obtain ⟨B1, d1, rfl, q1, g1⟩ := Kd.R_reads h1
 obtain ⟨B2, d2, rfl, q2, g2⟩ := Kd.S_reads h2
 obtain ⟨B3, d3, rfl, q3, g3⟩ := Kd.R_reads h3
 obtain ⟨B5, d5, rfl, q5, g5⟩ := Kd.R_reads h5
 obtain ⟨B7, d7, rfl, q7, g7⟩ := Kd.S_reads h7
 exact ⟨B0, d0, B1, d1, B2, d2, B3, d3, B5, d5, B7, d7, rfl, ⟨⟨g0, q0⟩, ⟨g1, q1⟩, ⟨g2, q2⟩, ⟨g3, q3⟩, ⟨g5, q5⟩, ⟨g7, q7⟩⟩, hb⟩
end
set_option maxHeartbeats 4000000 in
set_option maxRecDepth 100000 in
theorem dictForms_rowT {w : World} (cs : Array Value) (z : S32) (hz : k32.K w z cs.toList) (hg : MachG z) :
  Calls Try.prog 6 #[.agg cs] w fun e w' => e = .returned (.bool true) ∧ Below w.heap.size w w' := by
 obtain ⟨A0, c0, A1, c1, A2, c2, A3, c3, A5, c5, A7, c7, e, l0, g0, l1, g1, l2, g2, l3, g3, l5, g5, l7, g7⟩ := k32_open hz
 obtain rfl : cs = #[.slice A0 z.f0.length c0, .slice A1 z.f1.length c1, .slice A2 z.f2.length c2, .slice A3 z.f3.length c3, .int .u32 z.f4, .slice A5 z.f5.length c5, .int .i64 z.f6, .slice A7 z.f7.length c7, .int .i64 z.f8, .string z.f9] := Array.ext' e
 have hu32 := Try.underlying32
 have mixed : Try.prog.follows Departure.mixedOrders = true := by kernel_rfl
 have HMC := Aside0.mk (⟨⟨g0, l0⟩, ⟨g1, l1⟩, ⟨g2, l2⟩, ⟨g3, l3⟩, ⟨g5, l5⟩, ⟨g7, l7⟩⟩ : MC w z A0 c0 A1 c1 A2 c2 A3 c3 A5 c5 A7 c7)
 have HG := Aside0.mk (goodM_of hg)
 have HN := Aside0.mk (names_of hg)
 have HAL := Aside0.mk alive_calls
 obtain ⟨F, hF⟩ : ∃ F, F = formedF z.f0 z.f1 z.f2 z.f3 z.f4 z.f5 z.f6 z.f7 z.f8 z.f9 := ⟨_, rfl⟩
 have HFM := Aside0.mk (fun (X : World) (hX : Below w.heap.size w X) => MC_formed (MC_below HMC.out hX))
 have HRF := Aside0.mk (fun (X : World) (hX : Below w.heap.size w X) => MC_rformed (MC_below HMC.out hX) HN.out)
 have HCP := Aside0.mk (fun (X : World) (hX : Below w.heap.size w X) => MC_copy (MC_below HMC.out hX) HG.out)
 rw [← hF] at HFM HRF
 clear hF g0 l0 g1 l1 g2 l2 g3 l3 g5 l5 g7 l7 e hz hg
 obtain ⟨W0, hW0⟩ : ∃ W0, W0 = w.alloc (.cells #[.slice A0 z.f0.length c0, .slice A1 z.f1.length c1, .slice A2 z.f2.length c2, .slice A3 z.f3.length c3, .int .u32 z.f4, .slice A5 z.f5.length c5, .int .i64 z.f6, .slice A7 z.f7.length c7, .int .i64 z.f8, .string z.f9] 32) := ⟨_, rfl⟩
 have BK := Aside0.mk (show W0.heap[w.heap.size]? = some (.cells #[.slice A0 z.f0.length c0, .slice A1 z.f1.length c1, .slice A2 z.f2.length c2, .slice A3 z.f3.length c3, .int .u32 z.f4, .slice A5 z.f5.length c5, .int .i64 z.f6, .slice A7 z.f7.length c7, .int .i64 z.f8, .string z.f9] 32 (0, 0)) by rw [hW0]; exact blk_new w _)
 have HB0 := Aside0.mk (show Below w.heap.size w W0 by rw [hW0]; exact below_alloc (Below.refl _ _) _)
 go_enter Try.func6, Try.ntmps6
 go_wp2
 rw [← hW0]
 clear hW0
 have z0 : W0.cell? ⟨w.heap.size, 0, none⟩ = some (.slice A0 z.f0.length c0) := (blk_cell BK.out 0).trans rfl
 have z1 : W0.cell? ⟨w.heap.size, 1, none⟩ = some (.slice A1 z.f1.length c1) := (blk_cell BK.out 1).trans rfl
 have z2 : W0.cell? ⟨w.heap.size, 2, none⟩ = some (.slice A2 z.f2.length c2) := (blk_cell BK.out 2).trans rfl
 have z3 : W0.cell? ⟨w.heap.size, 3, none⟩ = some (.slice A3 z.f3.length c3) := (blk_cell BK.out 3).trans rfl
 have z4 : W0.cell? ⟨w.heap.size, 4, none⟩ = some (.int .u32 z.f4) := (blk_cell BK.out 4).trans rfl
 have z5 : W0.cell? ⟨w.heap.size, 5, none⟩ = some (.slice A5 z.f5.length c5) := (blk_cell BK.out 5).trans rfl
 have z6 : W0.cell? ⟨w.heap.size, 6, none⟩ = some (.int .i64 z.f6) := (blk_cell BK.out 6).trans rfl
 have z7 : W0.cell? ⟨w.heap.size, 7, none⟩ = some (.slice A7 z.f7.length c7) := (blk_cell BK.out 7).trans rfl
 have z8 : W0.cell? ⟨w.heap.size, 8, none⟩ = some (.int .i64 z.f8) := (blk_cell BK.out 8).trans rfl
 have z9 : W0.cell? ⟨w.heap.size, 9, none⟩ = some (.string z.f9) := (blk_cell BK.out 9).trans rfl
 refine start_ (n := 15) (S := fun w' => w'.cell? ⟨w.heap.size, 0, none⟩ = some (.slice A0 z.f0.length c0) ∧ w'.cell? ⟨w.heap.size, 1, none⟩ = some (.slice A1 z.f1.length c1) ∧ w'.cell? ⟨w.heap.size, 2, none⟩ = some (.slice A2 z.f2.length c2) ∧ w'.cell? ⟨w.heap.size, 3, none⟩ = some (.slice A3 z.f3.length c3) ∧ w'.cell? ⟨w.heap.size, 4, none⟩ = some (.int .u32 z.f4) ∧ w'.cell? ⟨w.heap.size, 5, none⟩ = some (.slice A5 z.f5.length c5) ∧ w'.cell? ⟨w.heap.size, 6, none⟩ = some (.int .i64 z.f6) ∧ w'.cell? ⟨w.heap.size, 7, none⟩ = some (.slice A7 z.f7.length c7) ∧ w'.cell? ⟨w.heap.size, 8, none⟩ = some (.int .i64 z.f8) ∧ w'.cell? ⟨w.heap.size, 9, none⟩ = some (.string z.f9) ∧ Below W0.heap.size W0 w') (ds := []) #[false, false, false, false, false, false, false, false, false, false, false, false, false, false, false] (by kernel_rfl) rfl rfl ⟨z0, z1, z2, z3, z4, z5, z6, z7, z8, z9, below_drew1 (Below.refl W0.heap.size W0)⟩ (fun hHeld => ?_)
 refine one_ (i := 0) (N := some 3) #[true, false, false, false, false, false, false, false, false, false, false, false, false, false, false] rfl rfl (by kernel_rfl) (by decide) (fun K hK => ?_)
 refine goes_ Try.func10 (by kernel_rfl) rfl #[] (by rfl) rfl rfl (by simp only [List.map_toArray, List.map_nil]) ?_
 refine (HAL.out _).mono ?_
 rintro e wa ⟨rfl, hb⟩
 refine ⟨_, rfl, hK.out _ _ ⟨cell_step hHeld.1 hb, cell_step hHeld.2.1 hb, cell_step hHeld.2.2.1 hb, cell_step hHeld.2.2.2.1 hb, cell_step hHeld.2.2.2.2.1 hb, cell_step hHeld.2.2.2.2.2.1 hb, cell_step hHeld.2.2.2.2.2.2.1 hb, cell_step hHeld.2.2.2.2.2.2.2.1 hb, cell_step hHeld.2.2.2.2.2.2.2.2.1 hb, cell_step hHeld.2.2.2.2.2.2.2.2.2.1 hb, below_step hHeld.2.2.2.2.2.2.2.2.2.2 hb⟩ (fun hHeld => ?_)⟩
 clear hb
 clear hK K
 simp only [Act.put, List.setIfInBounds_toArray, List.set_cons_zero, List.set_cons_succ]
 refine pure_ (i := 1) (N := some 4) (v := ?_) (a' := ?_) #[true, true, false, false, false, false, false, false, false, false, false, false, false, false, false] rfl rfl (by kernel_rfl) (fun _ _ _ h => h) (Or.inl ⟨by rfl, ?_⟩) ?_ ?_
 rotate_left
 ·intro w'
  go_simp
  with_reducible rfl
 rotate_left
 ·simp only [Act.put, List.setIfInBounds_toArray, List.set_cons_zero, List.set_cons_succ]
  rfl
 refine take_ (i := 2) (N := some 5) (v := (.agg #[.slice A0 z.f0.length c0, .slice A1 z.f1.length c1, .slice A2 z.f2.length c2, .slice A3 z.f3.length c3, .int .u32 z.f4, .slice A5 z.f5.length c5, .int .i64 z.f6, .slice A7 z.f7.length c7, .int .i64 z.f8, .string z.f9])) (a' := ?_) #[true, true, true, false, false, false, false, false, false, false, false, false, false, false, false] rfl rfl (by kernel_rfl) (fun _ _ _ h => h) (Or.inl ⟨by rfl, ?_⟩) hHeld ?_ ?_
 rotate_left
 rotate_left
 ·simp only [Act.put, List.setIfInBounds_toArray, List.set_cons_zero, List.set_cons_succ]
  rfl
 rotate_left
 ·rintro w' ⟨s0, s1, s2, s3, s4, s5, s6, s7, s8, s9, s10⟩
  go_simp
 refine take_ (i := 4) (N := some 7) (v := (.agg #[.slice A0 z.f0.length c0, .slice A1 z.f1.length c1, .slice A2 z.f2.length c2, .slice A3 z.f3.length c3, .int .u32 z.f4, .slice A5 z.f5.length c5, .int .i64 z.f6, .slice A7 z.f7.length c7, .int .i64 z.f8, .string z.f9])) (a' := ?_) #[true, true, true, false, true, false, false, false, false, false, false, false, false, false, false] rfl rfl (by kernel_rfl) (fun _ _ _ h => h) (Or.inl ⟨by rfl, ?_⟩) hHeld ?_ ?_
 rotate_left
 rotate_left
 ·simp only [Act.put, List.setIfInBounds_toArray, List.set_cons_zero, List.set_cons_succ]
  rfl
 rotate_left
 ·rintro w' ⟨s0, s1, s2, s3, s4, s5, s6, s7, s8, s9, s10⟩
  go_simp
 refine one_ (i := 3) (N := some 6) #[true, true, true, true, true, false, false, false, false, false, false, false, false, false, false] rfl rfl (by kernel_rfl) (by decide) (fun K hK => ?_)
 refine goes_ Try.func26 (by kernel_rfl) rfl #[.agg #[.slice A0 z.f0.length c0, .slice A1 z.f1.length c1, .slice A2 z.f2.length c2, .slice A3 z.f3.length c3, .int .u32 z.f4, .slice A5 z.f5.length c5, .int .i64 z.f6, .slice A7 z.f7.length c7, .int .i64 z.f8, .string z.f9]] (by rfl) rfl rfl (by first | rfl | (simp only [List.map_toArray, List.map_cons, List.map_nil]; rfl)) ?_
 refine (HFM.out _ (below_step HB0.out hHeld.2.2.2.2.2.2.2.2.2.2)).mono ?_
 rintro e wb ⟨rfl, hb⟩
 refine ⟨_, rfl, hK.out _ _ ⟨cell_step hHeld.1 hb, cell_step hHeld.2.1 hb, cell_step hHeld.2.2.1 hb, cell_step hHeld.2.2.2.1 hb, cell_step hHeld.2.2.2.2.1 hb, cell_step hHeld.2.2.2.2.2.1 hb, cell_step hHeld.2.2.2.2.2.2.1 hb, cell_step hHeld.2.2.2.2.2.2.2.1 hb, cell_step hHeld.2.2.2.2.2.2.2.2.1 hb, cell_step hHeld.2.2.2.2.2.2.2.2.2.1 hb, below_step hHeld.2.2.2.2.2.2.2.2.2.2 hb⟩ (fun hHeld => ?_)⟩
 clear hb
 clear hK K
 simp only [Act.put, List.setIfInBounds_toArray, List.set_cons_zero, List.set_cons_succ]
 refine one_ (i := 5) (N := some 8) #[true, true, true, true, true, true, false, false, false, false, false, false, false, false, false] rfl rfl (by kernel_rfl) (by decide) (fun K hK => ?_)
 refine goes_ Try.func27 (by kernel_rfl) rfl #[.agg #[.slice A0 z.f0.length c0, .slice A1 z.f1.length c1, .slice A2 z.f2.length c2, .slice A3 z.f3.length c3, .int .u32 z.f4, .slice A5 z.f5.length c5, .int .i64 z.f6, .slice A7 z.f7.length c7, .int .i64 z.f8, .string z.f9]] (by rfl) rfl rfl (by first | rfl | (simp only [List.map_toArray, List.map_cons, List.map_nil]; rfl)) ?_
 refine (HRF.out _ (below_step HB0.out hHeld.2.2.2.2.2.2.2.2.2.2)).mono ?_
 rintro e wc ⟨rfl, hb⟩
 refine ⟨_, rfl, hK.out _ _ ⟨cell_step hHeld.1 hb, cell_step hHeld.2.1 hb, cell_step hHeld.2.2.1 hb, cell_step hHeld.2.2.2.1 hb, cell_step hHeld.2.2.2.2.1 hb, cell_step hHeld.2.2.2.2.2.1 hb, cell_step hHeld.2.2.2.2.2.2.1 hb, cell_step hHeld.2.2.2.2.2.2.2.1 hb, cell_step hHeld.2.2.2.2.2.2.2.2.1 hb, cell_step hHeld.2.2.2.2.2.2.2.2.2.1 hb, below_step hHeld.2.2.2.2.2.2.2.2.2.2 hb⟩ (fun hHeld => ?_)⟩
 clear hb
 clear hK K
 simp only [Act.put, List.setIfInBounds_toArray, List.set_cons_zero, List.set_cons_succ]
 refine pure_ (i := 6) (N := some 9) (v := ?_) (a' := ?_) #[true, true, true, true, true, true, true, false, false, false, false, false, false, false, false] rfl rfl (by kernel_rfl) (fun _ _ _ h => h) (Or.inl ⟨by rfl, ?_⟩) ?_ ?_
 rotate_left
 ·intro w'
  go_simp
  with_reducible rfl
 rotate_left
 ·simp only [Act.put, List.setIfInBounds_toArray, List.set_cons_zero, List.set_cons_succ]
  rfl
 refine pure_ (i := 7) (N := some 10) (v := ?_) (a' := ?_) #[true, true, true, true, true, true, true, true, false, false, false, false, false, false, false] rfl rfl (by kernel_rfl) (fun _ _ _ h => h) (Or.inl ⟨by rfl, ?_⟩) ?_ ?_
 rotate_left
 ·intro w'
  go_simp
  with_reducible rfl
 rotate_left
 ·simp only [Act.put, List.setIfInBounds_toArray, List.set_cons_zero, List.set_cons_succ]
  rfl
 refine pure_ (i := 8) (N := some 11) (v := ?_) (a' := ?_) #[true, true, true, true, true, true, true, true, true, false, false, false, false, false, false] rfl rfl (by kernel_rfl) (fun _ _ _ h => h) (Or.inl ⟨by rfl, ?_⟩) ?_ ?_
 rotate_left
 ·intro w'
  go_simp
  with_reducible rfl
 rotate_left
 ·simp only [Act.put, List.setIfInBounds_toArray, List.set_cons_zero, List.set_cons_succ]
  rfl
 refine take_ (i := 9) (N := some 12) (v := (.agg #[.slice A0 z.f0.length c0, .slice A1 z.f1.length c1, .slice A2 z.f2.length c2, .slice A3 z.f3.length c3, .int .u32 z.f4, .slice A5 z.f5.length c5, .int .i64 z.f6, .slice A7 z.f7.length c7, .int .i64 z.f8, .string z.f9])) (a' := ?_) #[true, true, true, true, true, true, true, true, true, true, false, false, false, false, false] rfl rfl (by kernel_rfl) (fun _ _ _ h => h) (Or.inl ⟨by rfl, ?_⟩) hHeld ?_ ?_
 rotate_left
 rotate_left
 ·simp only [Act.put, List.setIfInBounds_toArray, List.set_cons_zero, List.set_cons_succ]
  rfl
 rotate_left
 ·rintro w' ⟨s0, s1, s2, s3, s4, s5, s6, s7, s8, s9, s10⟩
  go_simp
 refine take_ (i := 11) (N := some 14) (v := (.agg #[.slice A0 z.f0.length c0, .slice A1 z.f1.length c1, .slice A2 z.f2.length c2, .slice A3 z.f3.length c3, .int .u32 z.f4, .slice A5 z.f5.length c5, .int .i64 z.f6, .slice A7 z.f7.length c7, .int .i64 z.f8, .string z.f9])) (a' := ?_) #[true, true, true, true, true, true, true, true, true, true, false, true, false, false, false] rfl rfl (by kernel_rfl) (fun _ _ _ h => h) (Or.inl ⟨by rfl, ?_⟩) hHeld ?_ ?_
 rotate_left
 rotate_left
 ·simp only [Act.put, List.setIfInBounds_toArray, List.set_cons_zero, List.set_cons_succ]
  rfl
 rotate_left
 ·rintro w' ⟨s0, s1, s2, s3, s4, s5, s6, s7, s8, s9, s10⟩
  go_simp
 refine one_ (i := 10) (N := some 13) #[true, true, true, true, true, true, true, true, true, true, true, true, false, false, false] rfl rfl (by kernel_rfl) (by decide) (fun K hK => ?_)
 refine goes_ Try.func28 (by kernel_rfl) rfl #[.agg #[.slice A0 z.f0.length c0, .slice A1 z.f1.length c1, .slice A2 z.f2.length c2, .slice A3 z.f3.length c3, .int .u32 z.f4, .slice A5 z.f5.length c5, .int .i64 z.f6, .slice A7 z.f7.length c7, .int .i64 z.f8, .string z.f9]] (by rfl) rfl rfl (by first | rfl | (simp only [List.map_toArray, List.map_cons, List.map_nil]; rfl)) ?_
 refine (HCP.out _ (below_step HB0.out hHeld.2.2.2.2.2.2.2.2.2.2)).mono ?_
 rintro e wd ⟨B0, d0, B1, d1, B2, d2, B3, d3, B5, d5, B7, d7, rfl, hm, hb⟩
 have HM2 := Aside0.mk hm
 refine ⟨_, rfl, hK.out _ _ ⟨cell_step hHeld.1 hb, cell_step hHeld.2.1 hb, cell_step hHeld.2.2.1 hb, cell_step hHeld.2.2.2.1 hb, cell_step hHeld.2.2.2.2.1 hb, cell_step hHeld.2.2.2.2.2.1 hb, cell_step hHeld.2.2.2.2.2.2.1 hb, cell_step hHeld.2.2.2.2.2.2.2.1 hb, cell_step hHeld.2.2.2.2.2.2.2.2.1 hb, cell_step hHeld.2.2.2.2.2.2.2.2.2.1 hb, below_step hHeld.2.2.2.2.2.2.2.2.2.2 hb⟩ (fun hHeld => ?_)⟩
 clear hb hm
 clear hK K
 simp only [Act.put, List.setIfInBounds_toArray, List.set_cons_zero, List.set_cons_succ]
 refine one_ (i := 12) (N := some 15) #[true, true, true, true, true, true, true, true, true, true, true, true, true, false, false] rfl rfl (by kernel_rfl) (by decide) (fun K hK => ?_)
 refine goes_ Try.func11 (by kernel_rfl) rfl #[.agg #[.slice B0 z.f0.length d0, .slice B1 z.f1.length d1, .slice B2 z.f2.length d2, .slice B3 z.f3.length d3, .int .u32 z.f4, .slice B5 z.f5.length d5, .int .i64 z.f6, .slice B7 z.f7.length d7, .int .i64 z.f8, .string z.f9], .agg #[.slice A0 z.f0.length c0, .slice A1 z.f1.length c1, .slice A2 z.f2.length c2, .slice A3 z.f3.length c3, .int .u32 z.f4, .slice A5 z.f5.length c5, .int .i64 z.f6, .slice A7 z.f7.length c7, .int .i64 z.f8, .string z.f9]] (by rfl) rfl rfl (by first | rfl | (simp only [List.map_toArray, List.map_cons, List.map_nil]; rfl)) ?_
 refine (MC_same HM2.out (MC_below HMC.out (below_step HB0.out hHeld.2.2.2.2.2.2.2.2.2.2))).mono ?_
 rintro e we ⟨rfl, hb⟩
 refine ⟨_, rfl, hK.out _ _ ⟨cell_step hHeld.1 hb, cell_step hHeld.2.1 hb, cell_step hHeld.2.2.1 hb, cell_step hHeld.2.2.2.1 hb, cell_step hHeld.2.2.2.2.1 hb, cell_step hHeld.2.2.2.2.2.1 hb, cell_step hHeld.2.2.2.2.2.2.1 hb, cell_step hHeld.2.2.2.2.2.2.2.1 hb, cell_step hHeld.2.2.2.2.2.2.2.2.1 hb, cell_step hHeld.2.2.2.2.2.2.2.2.2.1 hb, below_step hHeld.2.2.2.2.2.2.2.2.2.2 hb⟩ (fun hHeld => ?_)⟩
 clear hb
 clear hK K
 simp only [Act.put, List.setIfInBounds_toArray, List.set_cons_zero, List.set_cons_succ]
 refine pure_ (i := 13) (N := some 16) (v := ?_) (a' := ?_) #[true, true, true, true, true, true, true, true, true, true, true, true, true, true, false] rfl rfl (by kernel_rfl) (fun _ _ _ h => h) (Or.inl ⟨by rfl, ?_⟩) ?_ ?_
 rotate_left
 ·intro w'
  go_simp
  with_reducible rfl
 rotate_left
 ·simp only [Act.put, List.setIfInBounds_toArray, List.set_cons_zero, List.set_cons_succ]
  rfl
 refine pure_ (i := 14) (N := some 2) (v := ?_) (a' := ?_) #[true, true, true, true, true, true, true, true, true, true, true, true, true, true, true] rfl rfl (by kernel_rfl) (fun _ _ _ h => h) (Or.inl ⟨by rfl, ?_⟩) ?_ ?_
 rotate_left
 ·intro w'
  go_simp
  with_reducible rfl
 rotate_left
 ·simp only [Act.put, List.setIfInBounds_toArray, List.set_cons_zero, List.set_cons_succ]
  rfl
 have HBE := Aside0.mk (below_step HB0.out hHeld.2.2.2.2.2.2.2.2.2.2)
 clear hHeld z0 z1 z2 z3 z4 z5 z6 z7 z8 z9
 refine done_ (n := 0) (by kernel_rfl) ?_
 go_wp2
 go_ret
 exact ⟨rfl, HBE.out⟩
end Go.Proofs.Ytfpkakedlapmkaa.Q
end
section
namespace Go.Proofs.Ytfpkakedlapmkaa.Q
open Go.RowKit Go.Proofs.YtfpkakedlapmkaaW.PrintWords Go.Proofs.YtfpkakedlapmkaaW.PrintLast Go.Proofs.YtfpkakedlapmkaaW.PrintMore
def Opens {α : Type} (P : Program) (t : TypeId) (d : Kd α) (G : α → Prop) : Prop :=
 ∀ (H : Type) (enc : TypeId × Value → H) (W : World) (fuel : Nat) (cs : List Value) (x : DataW H × List MemPlace), DataW.trod enc P W 0 (fun _ => true) true fuel t cs = some x → (∀ n ∈ x.1.weights P t, n ≤ reachBytes) → ∃ a, d.K W a cs ∧ G a
section
variable {P : Program} {t e : TypeId}
theorem opens_int {k : IntKind} (ht : P.underlying t = some (.int k)) : Opens P t (Kd.int k) (fun n => (Lit.int k n).wf = true) := by
 intro H enc W fuel cs x h _
 obtain ⟨n, rfl, _, hw⟩ := DataW.trod_int ht h
 exact ⟨n, rfl, hw⟩
theorem opens_string (ht : P.underlying t = some .string) : Opens P t Kd.string (fun s => s.size ≤ 140737488351232) := by
 intro H enc W fuel cs x h hw
 obtain ⟨s, rfl, rfl, _⟩ := DataW.trod_string ht h
 have := hw s.data.toList.length (by simp [DataW.weights])
 exact ⟨s, rfl, by simpa [reachBytes] using this⟩
theorem weights_all {H : Type} {P : Program} {e : TypeId} : ∀ {l : List (DataW H)} {d : DataW H}, d ∈ l → ∀ n ∈ d.weights P e, n ∈ DataW.weightsAll P e l
 | d0 :: l, d, hd, n, hn => by
  simp only [DataW.weightsAll, List.mem_append]
  rcases List.mem_cons.1 hd with rfl | hd
  ·exact .inl hn
  ·exact .inr (weights_all hd n hn)
theorem cells_get {W : World} {base : Nat} {a : Addr} {n : Nat} {c : List Value} (h : W.cells? base a n = some c) : c.length = n ∧ ∀ i u, c[i]? = some u → W.cell? (a.add i) = some u := by
 unfold World.cells? at h
 split at h
 ·have hl := mapM_some_length h
  refine ⟨by simpa using hl, fun i u hu => ?_⟩
  have hi : i < n := by
   have := (List.getElem?_eq_some_iff.1 hu).1
   simp at hl
   omega
  have := mapM_some_get h i i (by simp [hi])
  rw [this, hu]
 ·cases h
theorem opens_slice {α : Type} {d : Kd α} {G : α → Prop} (ht : P.underlying t = some (.slice e)) (hc : P.cellsOf e = d.sz) (b : Nat) (hb : P.bytesOf e = b) (he : Opens P e d G) :
  Opens P t (Kd.slice e d) (fun xs => xs.length * b ≤ 140737488351232 ∧ ∀ a ∈ xs, G a) := by
 intro H enc W fuel cs x h hw
 rcases DataW.trod_slice ht h with ⟨rfl, _⟩ | ⟨a, len, cap, elems, rest, n, _, rfl, rfl, _, hl, hm, hlen, hel, _⟩
 ·exact ⟨[], ⟨none, 0, rfl, Nat.le_refl _, Kd.C_nil d W⟩, by simp, fun a h => by cases h⟩
 ·have hwt : (elems.length + rest.length) * b ≤ 140737488351232 := by
   have := hw ((elems.length + rest.length) * P.bytesOf e) (by simp [DataW.weights, ht])
   rw [hb] at this
   simpa [reachBytes] using this
  have hall : ∀ i : Fin len, ∃ p : α, ∃ c, c.length = d.sz ∧ d.K W p c ∧ G p ∧ ∀ j u, c[j]? = some u → W.cell? (a.add (i.1 * d.sz + j)) = some u := by
   intro i
   have hi : i.1 < elems.length := by have := i.2; omega
   have h1 := hel i.1 i.2
   rw [List.getElem?_eq_getElem hi] at h1
   obtain ⟨c, hcs, htr⟩ := Option.bind_eq_some_iff.1 h1
   obtain ⟨hcl, hcg⟩ := cells_get hcs
   obtain ⟨p, hK, hG⟩ := he H enc W n c _ htr (fun m hm => hw m (by
    simp only [DataW.weights, ht, List.mem_cons, List.mem_append]
    exact .inr (.inl (weights_all (List.mem_map.2 ⟨_, List.getElem_mem hi, rfl⟩) m hm))))
   refine ⟨p, c, by rw [hcl, hc], hK, hG, fun j u hu => ?_⟩
   have := hcg j u hu
   rw [add_add, hc] at this
   exact this
  refine ⟨List.ofFn fun i => Classical.choose (hall i), ⟨some a, cap, by simp, by simpa using hl, by simp, by simp only [maxLen] at hm; simp; omega, fun _ => ⟨a, rfl, fun j p hj => ?_⟩⟩, ?_, ?_⟩
  ·obtain ⟨hjl, hjp⟩ := List.getElem?_eq_some_iff.1 hj
   simp only [List.length_ofFn] at hjl
   have h2 := Classical.choose_spec (hall ⟨j, hjl⟩)
   rw [List.getElem_ofFn] at hjp
   rw [hjp] at h2
   obtain ⟨c, h3, h4, _, h6⟩ := h2
   exact ⟨c, h3, h4, h6⟩
  ·rw [List.length_ofFn]
   refine Nat.le_trans (Nat.mul_le_mul_right b ?_) hwt
   omega
  ·intro p hp
   obtain ⟨i, rfl⟩ := (List.mem_ofFn).1 hp
   obtain ⟨_, _, _, h5, _⟩ := Classical.choose_spec (hall i)
   exact h5
/-- The fields of a struct from one on, one behind the other. -/
def OpensFields {α : Type} (P : Program) (fs : List Field) (off : Nat) (d : Kd α) (G : α → Prop) : Prop :=
 ∀ (H : Type) (enc : TypeId × Value → H) (W : World) (fuel : Nat) (cs : List Value) (xs : List (DataW H × List MemPlace)), off + d.sz = cs.length → xs.length = fs.length →
  (∀ (i : Nat) (f : Field), fs[i]? = some f → DataW.trod enc P W 0 (fun _ => true) true fuel f.type ((cs.drop f.offset).take (P.cellsOf f.type)) = xs[i]?) →
  (∀ n ∈ DataW.weightsEach P (fs.map (·.type)) (xs.map (·.1)), n ≤ reachBytes) → ∃ a, d.K W a (cs.drop off) ∧ G a
theorem opens_one {α : Type} {d : Kd α} {G : α → Prop} {f : Field} {off : Nat} (ho : f.offset = off) (hc : P.cellsOf f.type = d.sz) (he : Opens P f.type d G) : OpensFields P [f] off d G := by
 intro H enc W fuel cs xs hl hx hf hw
 match xs, hx with
 | [x], _ =>
  have h0 := hf 0 f rfl
  rw [ho, hc, List.take_of_length_le (by rw [List.length_drop]; omega)] at h0
  exact he H enc W fuel _ x h0 (fun n hn => hw n (by simpa [DataW.weightsEach] using hn))
theorem opens_more {α β : Type} {d : Kd α} {d2 : Kd β} {G : α → Prop} {G2 : β → Prop} {f : Field} {fs : List Field} {off : Nat} (ho : f.offset = off) (hc : P.cellsOf f.type = d.sz) (he : Opens P f.type d G) (hs : OpensFields P fs (off + d.sz) d2 G2) :
  OpensFields P (f :: fs) off (Kd.pair d d2) (fun p => G p.1 ∧ G2 p.2) := by
 intro H enc W fuel cs xs hl hx hf hw
 have hl' : off + (d.sz + d2.sz) = cs.length := hl
 match xs, hx with
 | x :: xs, hx =>
  have h0 := hf 0 f rfl
  rw [ho, hc] at h0
  obtain ⟨a, h1, h2⟩ := he H enc W fuel _ x h0 (fun n hn => hw n (by simp only [List.map_cons, DataW.weightsEach, List.mem_append]; exact .inl hn))
  obtain ⟨b, h3, h4⟩ := hs H enc W fuel cs xs (by omega) (by simpa using hx) (fun i g hg => by simpa using hf (i + 1) g (by simpa using hg)) (fun n hn => hw n (by simp only [List.map_cons, DataW.weightsEach, List.mem_append]; exact .inr hn))
  refine ⟨(a, b), ⟨_, _, ?_, h1, h3⟩, h2, h4⟩
  rw [← List.drop_drop, List.take_append_drop]
theorem opens_struct {α : Type} {d : Kd α} {G : α → Prop} {fs : Array Field} (ht : P.underlying t = some (.struct fs)) (hc : P.cellsOf t = d.sz) (hf : OpensFields P fs.toList 0 d G) : Opens P t d G := by
 intro H enc W fuel cs x h hw
 obtain ⟨xs, n, _, rfl, hl, hlen, hg⟩ := DataW.trod_struct ht h
 have := hf H enc W n cs xs (by omega) (by simpa using hlen) (fun i f hi => hg i f (by simpa using hi)) (fun m hm => hw m (by simpa [DataW.weights, ht] using hm))
 simpa using this
theorem opens_iso {α β : Type} {d : Kd α} {G : α → Prop} (f : β → α) (g : α → β) (hfg : ∀ a, f (g a) = a) (h : Opens P t d G) : Opens P t (Kd.iso d f) (fun b => G (f b)) := by
 intro H enc W fuel cs x hx hw
 obtain ⟨a, h1, h2⟩ := h H enc W fuel cs x hx hw
 exact ⟨g a, by show d.K W (f (g a)) cs; rw [hfg]; exact h1, by show G (f (g a)); rw [hfg]; exact h2⟩
theorem weights_each {H : Type} {P : Program} {ts : List TypeId} {ds : List (DataW H)} (h : (DataW.weightsEach P ts ds).all (· ≤ reachBytes) = true) {j : Nat} {t : TypeId} {d : DataW H} (ht : ts[j]? = some t) (hd : ds[j]? = some d) : ∀ n ∈ d.weights P t, n ≤ reachBytes := fun n hn => by
 simpa using List.all_eq_true.1 h _ (DataW.weights_mem_each ht hd n hn)
end
end Go.Proofs.Ytfpkakedlapmkaa.Q
end
